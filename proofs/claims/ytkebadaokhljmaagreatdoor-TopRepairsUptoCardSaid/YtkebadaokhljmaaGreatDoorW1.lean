/- -/
import Derived.Shelf.Small.Strs
import Derived.Shelf.SlSortCmp.NoneTotal
import Derived.Ground.SlsfProg
import Derived.Shelf.SortM.Plain
import Derived.Shelf.SortM.SortNone
import Derived.Ground.SlgmProg
import Derived.Ground.SlgnProg
import Derived.Shelf.Spec.SlicesGrow
import Derived.Ground.Names8Prog
import Derived.Test.YtkebadaokhljmaaGreatDoorT1
import Derived.Test.YtkebadaokhljmaaGreatDoorL1
import Derived.Test.YtkebadaokhljmaaGreatDoorA3
import Derived.Test.YtkebadaokhljmaaGreatDoorL2
set_option linter.unusedVariables false
set_option linter.unusedSimpArgs false
set_option maxHeartbeats 4000000
set_option maxRecDepth 20000
open And renaming intro→uam
open Bool renaming eq_false_iff→v5k
open Int renaming eq_ofNat_of_zero_le→v8d,tmod→v7u
open Go.IntKind renaming i64→v67
open Go.Lib renaming compareBytes→v8n
open List renaming map→v58,replicate→v4a
open Nat renaming eq_of_beq_eq_true→uan,le_refl→v4o
open Option renaming bind_some→v40,isSome_some→uao
open Option.some renaming inj→v6z,injEq→v5a
open Go.Ab.PV renaming int→uap,str→uaq
namespace Go.Proofs.YtkebadaokhljmaaGreatDoor
open Go Go.Ab Tryz
variable {D:Prop}
theorem mixed:prog.follows .mixedOrders=true:=by kernel_rfl
@[reducible] noncomputable def cX (f:Func) (X:Nat→Prop) (w:World) (D:Prop) (hT:TabOk prog (fun b=>X b∨F (fun _=>none) (qar []) b) w):Cx:=⟨prog,f.ntmps,0,X,[],fun _=>none,w,D,hT⟩
theorem zd {N B:Nat} {X:Nat→Prop} {H0:List (Nat×AO)} {inj0:Inj} {w0:World} {tb:TabOk prog (fun b=>X b∨F inj0 (qar H0) b) w0} {Q:Exit→St→Prop} {st:St} {id:Nat} {l:List Oper} (h:DGo ⟨prog,N,B,X,H0,inj0,w0,D,tb⟩ l.toArray l st [] (DK ⟨prog,N,B,X,H0,inj0,w0,D,tb⟩ l.toArray Q)) (hs:qh2 l.toArray=true:=by kernel_rfl):AWp ⟨prog,N,B,X,H0,inj0,w0,D,tb⟩ (.region id l.toArray true) Q st:=q0q mixed hs h
theorem zdl (n:Nat) {N B:Nat} {X:Nat→Prop} {H0:List (Nat×AO)} {inj0:Inj} {w0:World} {tb:TabOk prog (fun b=>X b∨F inj0 (qar H0) b) w0} {Q:Exit→St→Prop} {st:St} {id:Nat} {l:List Oper} (h:DGo ⟨prog,N,B,X,H0,inj0,w0,D,tb⟩ l.toArray (l.take n) st [] (DKL ⟨prog,N,B,X,H0,inj0,w0,D,tb⟩ l.toArray (l.drop n) Q)) (hs:qh2 l.toArray=true:=by kernel_rfl) (hl:va2 l.toArray n=true:=by kernel_rfl):AWp ⟨prog,N,B,X,H0,inj0,w0,D,tb⟩ (.region id l.toArray true) Q st:=q0r n mixed hs hl h
def qaw (x:Value):PV:=.agg [.int .i64 x.Kind,.int .i64 x.Num,.str x.Str]
@[go_sem] theorem vog (x:Value):PV.agg [.int .i64 x.Kind,.int .i64 x.Num,.str x.Str]=qaw x:=rfl
@[go_sem] theorem vks (x:Value):(qaw x).cells=[.int .i64 x.Kind,.int .i64 x.Num,.str x.Str]:=rfl
@[go_sem] theorem vkt (x:Value):(qaw x).isAgg=true:=rfl
@[go_sem] theorem vku (x:Value):(qaw x).isTup=false:=rfl
@[go_sem] theorem vuu (l:List Value):((l.map qaw).all fun y=>y.cells.length == 3)=true:=by simp [qaw,PV.cells]
@[go_sem] theorem vuv (l:List Value):((l.map qaw).map AV.p).all (qer 3)=true:=qfv _ _ _ fun _=>⟨rfl,rfl⟩
@[go_sem] theorem voh:qaw (Value.mk 0 0 [])=.agg [.int .i64 0,.int .i64 0,.str []]:=rfl
@[go_sem] theorem voi (x:Value):(qaw x).flat=true:=rfl
def qat (x:Drossref03_Recipe):PV:=.agg [.int .u8 x.Attrs,.int .u8 x.Gap,.slc (v58 (qav (uap .u8)) x.Rows)]
@[go_sem] theorem q04 (x:Drossref03_Recipe):PV.agg [.int .u8 x.Attrs,.int .u8 x.Gap,.slc (v58 (qav (uap .u8)) x.Rows)]=qat x:=rfl
@[go_sem] theorem qne (x:Drossref03_Recipe):(qat x).cells=[.int .u8 x.Attrs,.int .u8 x.Gap,.slc (v58 (qav (uap .u8)) x.Rows)]:=rfl
@[go_sem] theorem q0d (x:Drossref03_Recipe):(qat x).isAgg=true:=rfl
@[go_sem] theorem q0e (x:Drossref03_Recipe):(qat x).isTup=false:=rfl
@[simp] theorem q4i (a_Attrs:Int) (a_Gap:Int) (a_Rows:List (List Int)):qat ⟨a_Attrs,a_Gap,a_Rows⟩=.agg [.int .u8 a_Attrs,.int .u8 a_Gap,.slc (v58 (qav (uap .u8)) a_Rows)]:=rfl
def qag (x:Row):PV:=.agg [.int .i64 x.ID,.slc (v58 qaw x.Values)]
@[go_sem] theorem vuw (x:Row):PV.agg [.int .i64 x.ID,.slc (v58 qaw x.Values)]=qag x:=rfl
@[go_sem] theorem vpv (x:Row):(qag x).cells=[.int .i64 x.ID,.slc (v58 qaw x.Values)]:=rfl
@[go_sem] theorem vpw (x:Row):(qag x).isAgg=true:=rfl
@[go_sem] theorem vpx (x:Row):(qag x).isTup=false:=rfl
@[go_sem] theorem v13 (l:List Row):((l.map qag).all fun y=>y.cells.length == 2)=true:=by simp [qag,PV.cells]
@[go_sem] theorem v14 (l:List Row):((l.map qag).map AV.p).all (qer 2)=true:=qfv _ _ _ fun _=>⟨rfl,rfl⟩
@[simp] theorem v15 (a_ID:Int) (a_Values:List Value):qag ⟨a_ID,a_Values⟩=.agg [.int .i64 a_ID,.slc (v58 qaw a_Values)]:=rfl
def qaa (x:Table):PV:=.agg [.str x.Name,.slc (v58 uaq x.Attrs),.slc (v58 qag x.Rows)]
@[go_sem] theorem voj (x:Table):PV.agg [.str x.Name,.slc (v58 uaq x.Attrs),.slc (v58 qag x.Rows)]=qaa x:=rfl
@[go_sem] theorem vkv (x:Table):(qaa x).cells=[.str x.Name,.slc (v58 uaq x.Attrs),.slc (v58 qag x.Rows)]:=rfl
@[go_sem] theorem vkw (x:Table):(qaa x).isAgg=true:=rfl
@[go_sem] theorem vkx (x:Table):(qaa x).isTup=false:=rfl
@[go_sem] theorem vux (l:List Table):((l.map qaa).all fun y=>y.cells.length == 3)=true:=by simp [qaa,PV.cells]
@[go_sem] theorem vuy (l:List Table):((l.map qaa).map AV.p).all (qer 3)=true:=qfv _ _ _ fun _=>⟨rfl,rfl⟩
@[simp] theorem vuz (a_Name:List UInt8) (a_Attrs:List (List UInt8)) (a_Rows:List Row):qaa ⟨a_Name,a_Attrs,a_Rows⟩=.agg [.str a_Name,.slc (v58 uaq a_Attrs),.slc (v58 qag a_Rows)]:=rfl
def qa3 (x:Drossref16_Draft):PV:=.agg [.int .u8 x.Lhs,.int .u8 x.Rhs,.slc (v58 (uap .u8) x.Codes)]
@[go_sem] theorem q2k (x:Drossref16_Draft):PV.agg [.int .u8 x.Lhs,.int .u8 x.Rhs,.slc (v58 (uap .u8) x.Codes)]=qa3 x:=rfl
@[go_sem] theorem qn8 (x:Drossref16_Draft):(qa3 x).cells=[.int .u8 x.Lhs,.int .u8 x.Rhs,.slc (v58 (uap .u8) x.Codes)]:=rfl
@[go_sem] theorem q05 (x:Drossref16_Draft):(qa3 x).isAgg=true:=rfl
@[go_sem] theorem q06 (x:Drossref16_Draft):(qa3 x).isTup=false:=rfl
@[simp] theorem q4s (a_Lhs:Int) (a_Rhs:Int) (a_Codes:List Int):qa3 ⟨a_Lhs,a_Rhs,a_Codes⟩=.agg [.int .u8 a_Lhs,.int .u8 a_Rhs,.slc (v58 (uap .u8) a_Codes)]:=rfl
def qd1 (x:Cell):PV:=.agg [.bool x.Any,.int .i64 x.Value.Kind,.int .i64 x.Value.Num,.str x.Value.Str]
@[go_sem] theorem vpy (x:Cell):PV.agg [.bool x.Any,.int .i64 x.Value.Kind,.int .i64 x.Value.Num,.str x.Value.Str]=qd1 x:=rfl
@[go_sem] theorem vok (x:Cell):(qd1 x).cells=[.bool x.Any,.int .i64 x.Value.Kind,.int .i64 x.Value.Num,.str x.Value.Str]:=rfl
@[go_sem] theorem vol (x:Cell):(qd1 x).isAgg=true:=rfl
@[go_sem] theorem vom (x:Cell):(qd1 x).isTup=false:=rfl
@[go_sem] theorem vpz:qd1 (Cell.mk false (Value.mk 0 0 []))=.agg [.bool false,.int .i64 0,.int .i64 0,.str []]:=rfl
@[go_sem] theorem vp0 (x:Cell):(qd1 x).flat=true:=rfl
def qg2 (x:CFD):PV:=.agg [.slc (v58 (uap .i64) x.Lhs),.int .i64 x.Rhs,.slc (v58 qd1 x.Pattern)]
@[go_sem] theorem vu0 (x:CFD):PV.agg [.slc (v58 (uap .i64) x.Lhs),.int .i64 x.Rhs,.slc (v58 qd1 x.Pattern)]=qg2 x:=rfl
@[go_sem] theorem vp1 (x:CFD):(qg2 x).cells=[.slc (v58 (uap .i64) x.Lhs),.int .i64 x.Rhs,.slc (v58 qd1 x.Pattern)]:=rfl
@[go_sem] theorem vp2 (x:CFD):(qg2 x).isAgg=true:=rfl
@[go_sem] theorem vp3 (x:CFD):(qg2 x).isTup=false:=rfl
@[simp] theorem v16 (a_Lhs:List Int) (a_Rhs:Int) (a_Pattern:List Cell):qg2 ⟨a_Lhs,a_Rhs,a_Pattern⟩=.agg [.slc (v58 (uap .i64) a_Lhs),.int .i64 a_Rhs,.slc (v58 qd1 a_Pattern)]:=rfl
def qde (x:Drossref17_Lists):PV:=.agg [.slc (v58 (uap .u8) x.X),.slc (v58 (uap .u8) x.Y)]
@[go_sem] theorem q2l (x:Drossref17_Lists):PV.agg [.slc (v58 (uap .u8) x.X),.slc (v58 (uap .u8) x.Y)]=qde x:=rfl
@[go_sem] theorem qn9 (x:Drossref17_Lists):(qde x).cells=[.slc (v58 (uap .u8) x.X),.slc (v58 (uap .u8) x.Y)]:=rfl
@[go_sem] theorem q07 (x:Drossref17_Lists):(qde x).isAgg=true:=rfl
@[go_sem] theorem q08 (x:Drossref17_Lists):(qde x).isTup=false:=rfl
@[simp] theorem q4t (a_X:List Int) (a_Y:List Int):qde ⟨a_X,a_Y⟩=.agg [.slc (v58 (uap .u8) a_X),.slc (v58 (uap .u8) a_Y)]:=rfl
def qtm (x:OD):PV:=.agg [.slc (v58 (uap .i64) x.Lhs),.slc (v58 (uap .i64) x.Rhs)]
@[go_sem] theorem vws (x:OD):PV.agg [.slc (v58 (uap .i64) x.Lhs),.slc (v58 (uap .i64) x.Rhs)]=qtm x:=rfl
@[go_sem] theorem vu1 (x:OD):(qtm x).cells=[.slc (v58 (uap .i64) x.Lhs),.slc (v58 (uap .i64) x.Rhs)]:=rfl
@[go_sem] theorem vu2 (x:OD):(qtm x).isAgg=true:=rfl
@[go_sem] theorem vu3 (x:OD):(qtm x).isTup=false:=rfl
@[simp] theorem encOD_mk (a_Lhs:List Int) (a_Rhs:List Int):qtm ⟨a_Lhs,a_Rhs⟩=.agg [.slc (v58 (uap .i64) a_Lhs),.slc (v58 (uap .i64) a_Rhs)]:=rfl
def qb9 (x:Drossref18_Side):PV:=.agg [.int .u8 x.Var,.int .u8 x.Code]
@[go_sem] theorem q4j (x:Drossref18_Side):PV.agg [.int .u8 x.Var,.int .u8 x.Code]=qb9 x:=rfl
@[go_sem] theorem qo3 (x:Drossref18_Side):(qb9 x).cells=[.int .u8 x.Var,.int .u8 x.Code]:=rfl
@[go_sem] theorem q2m (x:Drossref18_Side):(qb9 x).isAgg=true:=rfl
@[go_sem] theorem q2n (x:Drossref18_Side):(qb9 x).isTup=false:=rfl
@[go_sem] theorem q4k:qb9 (Drossref18_Side.mk 0 0)=.agg [.int .u8 0,.int .u8 0]:=rfl
@[go_sem] theorem q4l (x:Drossref18_Side):(qb9 x).flat=true:=rfl
def qoa (x:Term):PV:=.agg [.int .i64 x.Var,.int .i64 x.Attr,.int .i64 x.Value.Kind,.int .i64 x.Value.Num,.str x.Value.Str]
@[go_sem] theorem vp4 (x:Term):PV.agg [.int .i64 x.Var,.int .i64 x.Attr,.int .i64 x.Value.Kind,.int .i64 x.Value.Num,.str x.Value.Str]=qoa x:=rfl
@[go_sem] theorem von (x:Term):(qoa x).cells=[.int .i64 x.Var,.int .i64 x.Attr,.int .i64 x.Value.Kind,.int .i64 x.Value.Num,.str x.Value.Str]:=rfl
@[go_sem] theorem voo (x:Term):(qoa x).isAgg=true:=rfl
@[go_sem] theorem vop (x:Term):(qoa x).isTup=false:=rfl
@[go_sem] theorem vp5:qoa (Term.mk 0 0 (Value.mk 0 0 []))=.agg [.int .i64 0,.int .i64 0,.int .i64 0,.int .i64 0,.str []]:=rfl
@[go_sem] theorem vp6 (x:Term):(qoa x).flat=true:=rfl
def qam (x:Drossref18_Sentence):PV:=.agg [.int .u8 x.Left.Var,.int .u8 x.Left.Code,.int .u8 x.Op,.int .u8 x.Right.Var,.int .u8 x.Right.Code]
@[go_sem] theorem qz8 (x:Drossref18_Sentence):PV.agg [.int .u8 x.Left.Var,.int .u8 x.Left.Code,.int .u8 x.Op,.int .u8 x.Right.Var,.int .u8 x.Right.Code]=qam x:=rfl
@[go_sem] theorem ql9 (x:Drossref18_Sentence):(qam x).cells=[.int .u8 x.Left.Var,.int .u8 x.Left.Code,.int .u8 x.Op,.int .u8 x.Right.Var,.int .u8 x.Right.Code]:=rfl
@[go_sem] theorem qxw (x:Drossref18_Sentence):(qam x).isAgg=true:=rfl
@[go_sem] theorem qxx (x:Drossref18_Sentence):(qam x).isTup=false:=rfl
@[go_sem] theorem qz9:qam (Drossref18_Sentence.mk (Drossref18_Side.mk 0 0) 0 (Drossref18_Side.mk 0 0))=.agg [.int .u8 0,.int .u8 0,.int .u8 0,.int .u8 0,.int .u8 0]:=rfl
@[go_sem] theorem q0a (x:Drossref18_Sentence):(qam x).flat=true:=rfl
def qbo (x:Drossref18_Recipe):PV:=.agg [.int .u8 x.Vars,.slc (v58 qam x.Atoms)]
@[go_sem] theorem q09 (x:Drossref18_Recipe):PV.agg [.int .u8 x.Vars,.slc (v58 qam x.Atoms)]=qbo x:=rfl
@[go_sem] theorem qnf (x:Drossref18_Recipe):(qbo x).cells=[.int .u8 x.Vars,.slc (v58 qam x.Atoms)]:=rfl
@[go_sem] theorem q0f (x:Drossref18_Recipe):(qbo x).isAgg=true:=rfl
@[go_sem] theorem q0g (x:Drossref18_Recipe):(qbo x).isTup=false:=rfl
@[simp] theorem q4m (a_Vars:Int) (a_Atoms:List Drossref18_Sentence):qbo ⟨a_Vars,a_Atoms⟩=.agg [.int .u8 a_Vars,.slc (v58 qam a_Atoms)]:=rfl
def qcu (x:Atom):PV:=.agg [.int .i64 x.Left.Var,.int .i64 x.Left.Attr,.int .i64 x.Left.Value.Kind,.int .i64 x.Left.Value.Num,.str x.Left.Value.Str,.int .i64 x.Op,.int .i64 x.Right.Var,.int .i64 x.Right.Attr,.int .i64 x.Right.Value.Kind,.int .i64 x.Right.Value.Num,.str x.Right.Value.Str]
@[go_sem] theorem vp7 (x:Atom):PV.agg [.int .i64 x.Left.Var,.int .i64 x.Left.Attr,.int .i64 x.Left.Value.Kind,.int .i64 x.Left.Value.Num,.str x.Left.Value.Str,.int .i64 x.Op,.int .i64 x.Right.Var,.int .i64 x.Right.Attr,.int .i64 x.Right.Value.Kind,.int .i64 x.Right.Value.Num,.str x.Right.Value.Str]=qcu x:=rfl
@[go_sem] theorem voq (x:Atom):(qcu x).cells=[.int .i64 x.Left.Var,.int .i64 x.Left.Attr,.int .i64 x.Left.Value.Kind,.int .i64 x.Left.Value.Num,.str x.Left.Value.Str,.int .i64 x.Op,.int .i64 x.Right.Var,.int .i64 x.Right.Attr,.int .i64 x.Right.Value.Kind,.int .i64 x.Right.Value.Num,.str x.Right.Value.Str]:=rfl
@[go_sem] theorem vor (x:Atom):(qcu x).isAgg=true:=rfl
@[go_sem] theorem vos (x:Atom):(qcu x).isTup=false:=rfl
@[go_sem] theorem vp8:qcu (Atom.mk (Term.mk 0 0 (Value.mk 0 0 [])) 0 (Term.mk 0 0 (Value.mk 0 0 [])))=.agg [.int .i64 0,.int .i64 0,.int .i64 0,.int .i64 0,.str [],.int .i64 0,.int .i64 0,.int .i64 0,.int .i64 0,.int .i64 0,.str []]:=rfl
@[go_sem] theorem vp9 (x:Atom):(qcu x).flat=true:=rfl
def qad (x:Denial):PV:=.agg [.int .i64 x.Vars,.slc (v58 qcu x.Atoms)]
@[go_sem] theorem vky (x:Denial):PV.agg [.int .i64 x.Vars,.slc (v58 qcu x.Atoms)]=qad x:=rfl
@[go_sem] theorem vkh (x:Denial):(qad x).cells=[.int .i64 x.Vars,.slc (v58 qcu x.Atoms)]:=rfl
@[go_sem] theorem vki (x:Denial):(qad x).isAgg=true:=rfl
@[go_sem] theorem vkj (x:Denial):(qad x).isTup=false:=rfl
@[simp] theorem vqa (a_Vars:Int) (a_Atoms:List Atom):qad ⟨a_Vars,a_Atoms⟩=.agg [.int .i64 a_Vars,.slc (v58 qcu a_Atoms)]:=rfl
def qcq (x:Drossref09_Dep):PV:=.agg [.int .u8 x.L,.int .u8 x.R]
@[go_sem] theorem q4u (x:Drossref09_Dep):PV.agg [.int .u8 x.L,.int .u8 x.R]=qcq x:=rfl
@[go_sem] theorem qpw (x:Drossref09_Dep):(qcq x).cells=[.int .u8 x.L,.int .u8 x.R]:=rfl
@[go_sem] theorem q4n (x:Drossref09_Dep):(qcq x).isAgg=true:=rfl
@[go_sem] theorem q4o (x:Drossref09_Dep):(qcq x).isTup=false:=rfl
@[go_sem] theorem q4v:qcq (Drossref09_Dep.mk 0 0)=.agg [.int .u8 0,.int .u8 0]:=rfl
@[go_sem] theorem q4w (x:Drossref09_Dep):(qcq x).flat=true:=rfl
def qsg (x:FD):PV:=.agg [.int .u32 x.Lhs,.int .u32 x.Rhs]
@[go_sem] theorem vwt (x:FD):PV.agg [.int .u32 x.Lhs,.int .u32 x.Rhs]=qsg x:=rfl
@[go_sem] theorem vu4 (x:FD):(qsg x).cells=[.int .u32 x.Lhs,.int .u32 x.Rhs]:=rfl
@[go_sem] theorem vu5 (x:FD):(qsg x).isAgg=true:=rfl
@[go_sem] theorem vu6 (x:FD):(qsg x).isTup=false:=rfl
@[go_sem] theorem vwu:qsg (FD.mk 0 0)=.agg [.int .u32 0,.int .u32 0]:=rfl
@[go_sem] theorem vwv (x:FD):(qsg x).flat=true:=rfl
def qa7 (x:Drossref37_Rule):PV:=.agg [.int .u8 x.Kind,.int .u8 x.F.L,.int .u8 x.F.R,.int .u8 x.C.Lhs,.int .u8 x.C.Rhs,.slc (v58 (uap .u8) x.C.Codes),.slc (v58 (uap .u8) x.O.X),.slc (v58 (uap .u8) x.O.Y),.int .u8 x.N.Vars,.slc (v58 qam x.N.Atoms)]
@[go_sem] theorem q4p (x:Drossref37_Rule):PV.agg [.int .u8 x.Kind,.int .u8 x.F.L,.int .u8 x.F.R,.int .u8 x.C.Lhs,.int .u8 x.C.Rhs,.slc (v58 (uap .u8) x.C.Codes),.slc (v58 (uap .u8) x.O.X),.slc (v58 (uap .u8) x.O.Y),.int .u8 x.N.Vars,.slc (v58 qam x.N.Atoms)]=qa7 x:=rfl
@[go_sem] theorem qo4 (x:Drossref37_Rule):(qa7 x).cells=[.int .u8 x.Kind,.int .u8 x.F.L,.int .u8 x.F.R,.int .u8 x.C.Lhs,.int .u8 x.C.Rhs,.slc (v58 (uap .u8) x.C.Codes),.slc (v58 (uap .u8) x.O.X),.slc (v58 (uap .u8) x.O.Y),.int .u8 x.N.Vars,.slc (v58 qam x.N.Atoms)]:=rfl
@[go_sem] theorem q2o (x:Drossref37_Rule):(qa7 x).isAgg=true:=rfl
@[go_sem] theorem q2p (x:Drossref37_Rule):(qa7 x).isTup=false:=rfl
@[simp] theorem q7t (a_Kind:Int) (a_F:Drossref09_Dep) (a_C:Drossref16_Draft) (a_O:Drossref17_Lists) (a_N:Drossref18_Recipe):qa7 ⟨a_Kind,a_F,a_C,a_O,a_N⟩=.agg [.int .u8 a_Kind,.int .u8 a_F.L,.int .u8 a_F.R,.int .u8 a_C.Lhs,.int .u8 a_C.Rhs,.slc (v58 (uap .u8) a_C.Codes),.slc (v58 (uap .u8) a_O.X),.slc (v58 (uap .u8) a_O.Y),.int .u8 a_N.Vars,.slc (v58 qam a_N.Atoms)]:=rfl
def qrj (x:IND):PV:=.agg [.str x.From,.slc (v58 (uap .i64) x.Lhs),.str x.To,.slc (v58 (uap .i64) x.Rhs)]
@[go_sem] theorem vu7 (x:IND):PV.agg [.str x.From,.slc (v58 (uap .i64) x.Lhs),.str x.To,.slc (v58 (uap .i64) x.Rhs)]=qrj x:=rfl
@[go_sem] theorem vqb (x:IND):(qrj x).cells=[.str x.From,.slc (v58 (uap .i64) x.Lhs),.str x.To,.slc (v58 (uap .i64) x.Rhs)]:=rfl
@[go_sem] theorem vqc (x:IND):(qrj x).isAgg=true:=rfl
@[go_sem] theorem vqd (x:IND):(qrj x).isTup=false:=rfl
@[simp] theorem v17 (a_From:List UInt8) (a_Lhs:List Int) (a_To:List UInt8) (a_Rhs:List Int):qrj ⟨a_From,a_Lhs,a_To,a_Rhs⟩=.agg [.str a_From,.slc (v58 (uap .i64) a_Lhs),.str a_To,.slc (v58 (uap .i64) a_Rhs)]:=rfl
def qak (x:Constraint):PV:=.agg [.str x.Name,.str x.Table,.int .i64 x.Kind,.int .u32 x.FD.Lhs,.int .u32 x.FD.Rhs,.int .u32 x.MVD.Lhs,.int .u32 x.MVD.Rhs,.str x.IND.From,.slc (v58 (uap .i64) x.IND.Lhs),.str x.IND.To,.slc (v58 (uap .i64) x.IND.Rhs),.slc (v58 (uap .i64) x.CFD.Lhs),.int .i64 x.CFD.Rhs,.slc (v58 qd1 x.CFD.Pattern),.slc (v58 (uap .i64) x.OD.Lhs),.slc (v58 (uap .i64) x.OD.Rhs),.int .i64 x.Denial.Vars,.slc (v58 qcu x.Denial.Atoms)]
@[go_sem] theorem vcm (x:Constraint):PV.agg [.str x.Name,.str x.Table,.int .i64 x.Kind,.int .u32 x.FD.Lhs,.int .u32 x.FD.Rhs,.int .u32 x.MVD.Lhs,.int .u32 x.MVD.Rhs,.str x.IND.From,.slc (v58 (uap .i64) x.IND.Lhs),.str x.IND.To,.slc (v58 (uap .i64) x.IND.Rhs),.slc (v58 (uap .i64) x.CFD.Lhs),.int .i64 x.CFD.Rhs,.slc (v58 qd1 x.CFD.Pattern),.slc (v58 (uap .i64) x.OD.Lhs),.slc (v58 (uap .i64) x.OD.Rhs),.int .i64 x.Denial.Vars,.slc (v58 qcu x.Denial.Atoms)]=qak x:=rfl
@[go_sem] theorem q99 (x:Constraint):(qak x).cells=[.str x.Name,.str x.Table,.int .i64 x.Kind,.int .u32 x.FD.Lhs,.int .u32 x.FD.Rhs,.int .u32 x.MVD.Lhs,.int .u32 x.MVD.Rhs,.str x.IND.From,.slc (v58 (uap .i64) x.IND.Lhs),.str x.IND.To,.slc (v58 (uap .i64) x.IND.Rhs),.slc (v58 (uap .i64) x.CFD.Lhs),.int .i64 x.CFD.Rhs,.slc (v58 qd1 x.CFD.Pattern),.slc (v58 (uap .i64) x.OD.Lhs),.slc (v58 (uap .i64) x.OD.Rhs),.int .i64 x.Denial.Vars,.slc (v58 qcu x.Denial.Atoms)]:=rfl
@[go_sem] theorem vaa (x:Constraint):(qak x).isAgg=true:=rfl
@[go_sem] theorem vab (x:Constraint):(qak x).isTup=false:=rfl
@[go_sem] theorem vfp (l:List Constraint):((l.map qak).all fun y=>y.cells.length == 18)=true:=by simp [qak,PV.cells]
@[go_sem] theorem vfq (l:List Constraint):((l.map qak).map AV.p).all (qer 18)=true:=qfv _ _ _ fun _=>⟨rfl,rfl⟩
@[simp] theorem vfr (a_Name:List UInt8) (a_Table:List UInt8) (a_Kind:Int) (a_FD:FD) (a_MVD:FD) (a_IND:IND) (a_CFD:CFD) (a_OD:OD) (a_Denial:Denial):qak ⟨a_Name,a_Table,a_Kind,a_FD,a_MVD,a_IND,a_CFD,a_OD,a_Denial⟩=.agg [.str a_Name,.str a_Table,.int .i64 a_Kind,.int .u32 a_FD.Lhs,.int .u32 a_FD.Rhs,.int .u32 a_MVD.Lhs,.int .u32 a_MVD.Rhs,.str a_IND.From,.slc (v58 (uap .i64) a_IND.Lhs),.str a_IND.To,.slc (v58 (uap .i64) a_IND.Rhs),.slc (v58 (uap .i64) a_CFD.Lhs),.int .i64 a_CFD.Rhs,.slc (v58 qd1 a_CFD.Pattern),.slc (v58 (uap .i64) a_OD.Lhs),.slc (v58 (uap .i64) a_OD.Rhs),.int .i64 a_Denial.Vars,.slc (v58 qcu a_Denial.Atoms)]:=rfl
def qac (x:Arr3_int64):PV:=.agg [.int .i64 x.x0,.int .i64 x.x1,.int .i64 x.x2]
@[go_sem] theorem vcn (x:Arr3_int64):PV.agg [.int .i64 x.x0,.int .i64 x.x1,.int .i64 x.x2]=qac x:=rfl
@[go_sem] theorem vac (x:Arr3_int64):(qac x).cells=[.int .i64 x.x0,.int .i64 x.x1,.int .i64 x.x2]:=rfl
@[go_sem] theorem vad (x:Arr3_int64):(qac x).isAgg=true:=rfl
@[go_sem] theorem vae (x:Arr3_int64):(qac x).isTup=false:=rfl
@[go_sem] theorem vco:qac (Arr3_int64.mk 0 0 0)=.agg [.int .i64 0,.int .i64 0,.int .i64 0]:=rfl
@[go_sem] theorem vcp (x:Arr3_int64):(qac x).flat=true:=rfl
def qal (x:Hypergraph):PV:=.agg [.slc (v58 (uap .i64) x.Vertices),.slc (v58 (qav (uap .i64)) x.Edges)]
@[go_sem] theorem vcq (x:Hypergraph):PV.agg [.slc (v58 (uap .i64) x.Vertices),.slc (v58 (qav (uap .i64)) x.Edges)]=qal x:=rfl
@[go_sem] theorem vaf (x:Hypergraph):(qal x).cells=[.slc (v58 (uap .i64) x.Vertices),.slc (v58 (qav (uap .i64)) x.Edges)]:=rfl
@[go_sem] theorem vag (x:Hypergraph):(qal x).isAgg=true:=rfl
@[go_sem] theorem vah (x:Hypergraph):(qal x).isTup=false:=rfl
@[simp] theorem vfs (a_Vertices:List Int) (a_Edges:List (List Int)):qal ⟨a_Vertices,a_Edges⟩=.agg [.slc (v58 (uap .i64) a_Vertices),.slc (v58 (qav (uap .i64)) a_Edges)]:=rfl
def qa4 (x:Database):PV:=.agg [.slc (v58 qaa x.Tables)]
@[go_sem] theorem vft (x:Database):PV.agg [.slc (v58 qaa x.Tables)]=qa4 x:=rfl
@[go_sem] theorem vfd (x:Database):(qa4 x).cells=[.slc (v58 qaa x.Tables)]:=rfl
@[go_sem] theorem vfe (x:Database):(qa4 x).isAgg=true:=rfl
@[go_sem] theorem vff (x:Database):(qa4 x).isTup=false:=rfl
@[simp] theorem vkz (a_Tables:List Table):qa4 ⟨a_Tables⟩=.agg [.slc (v58 qaa a_Tables)]:=rfl
def qij (x:Partition):PV:=.agg [.int .i64 x.Rows,.slc (v58 (qav (uap .i64)) x.Classes)]
@[go_sem] theorem vfg (x:Partition):PV.agg [.int .i64 x.Rows,.slc (v58 (qav (uap .i64)) x.Classes)]=qij x:=rfl
@[go_sem] theorem vcr (x:Partition):(qij x).cells=[.int .i64 x.Rows,.slc (v58 (qav (uap .i64)) x.Classes)]:=rfl
@[go_sem] theorem vcs (x:Partition):(qij x).isAgg=true:=rfl
@[go_sem] theorem vct (x:Partition):(qij x).isTup=false:=rfl
@[simp] theorem vkk (a_Rows:Int) (a_Classes:List (List Int)):qij ⟨a_Rows,a_Classes⟩=.agg [.int .i64 a_Rows,.slc (v58 (qav (uap .i64)) a_Classes)]:=rfl
def qek (x:Violation):PV:=.agg [.int .i64 x.Constraint,.slc (v58 (uap .i64) x.Rows)]
@[go_sem] theorem vfh (x:Violation):PV.agg [.int .i64 x.Constraint,.slc (v58 (uap .i64) x.Rows)]=qek x:=rfl
@[go_sem] theorem vcu (x:Violation):(qek x).cells=[.int .i64 x.Constraint,.slc (v58 (uap .i64) x.Rows)]:=rfl
@[go_sem] theorem vcv (x:Violation):(qek x).isAgg=true:=rfl
@[go_sem] theorem vcw (x:Violation):(qek x).isTup=false:=rfl
@[simp] theorem vkl (a_Constraint:Int) (a_Rows:List Int):qek ⟨a_Constraint,a_Rows⟩=.agg [.int .i64 a_Constraint,.slc (v58 (uap .i64) a_Rows)]:=rfl
theorem qle (a b:Arr3_int64):qnl prog 174 (qac a) (qac b)=some (decide (a=b)):=by
  obtain ⟨a0,a1,a2⟩:=a;obtain ⟨b0,b1,b2⟩:=b;simp only [qac,qnl,qxg,eqC,go_sem,seval,beq_self_eq_true,Bool.true_and,Bool.and_true,if_true,v40,uao];congr 1;rw [Bool.eq_iff_iff];simp
@[go_sem] theorem q4x (x:Arr3_int64):qxg prog 174 (qac x)=true:=by
  obtain ⟨a0,a1,a2⟩:=x;simp only [qac,qnl,qxg,eqC,go_sem,seval,beq_self_eq_true,Bool.true_and,Bool.and_true,if_true,v40,uao]
@[go_sem] theorem qqe {V:Type} (k:Arr3_int64) (m:List (Arr3_int64×V)) (g:V→PV):qsb prog 174 (qac k) (qfj qac m) ((qfw g m).map AV.p)=some ((qnq m k).map fun v=>AV.p (g v)):=q5o _ _ _ qle k m g
@[go_sem] theorem q4q {V:Type} (a0:Int) (a1:Int) (a2:Int) (m:List (Arr3_int64×V)) (g:V→PV):qsb prog 174 (.agg [.int .i64 a0,.int .i64 a1,.int .i64 a2]) (qfj qac m) ((qfw g m).map AV.p)=some ((qnq m (Arr3_int64.mk a0 a1 a2)).map fun v=>AV.p (g v)):=qqe (Arr3_int64.mk a0 a1 a2) m g
@[go_sem] theorem qrk {V:Type} (k:Arr3_int64) (m:List (Arr3_int64×V)) (g:V→PV) (v:V):q77 prog 174 (qac k) (.p (g v)) (qfj qac m) ((qfw g m).map AV.p)=some (qfj qac (qrz m k v),(qfw g (qrz m k v)).map AV.p):=vay _ _ _ qle k m g v
@[go_sem] theorem q4y {V:Type} (a0:Int) (a1:Int) (a2:Int) (m:List (Arr3_int64×V)) (g:V→PV) (v:V):q77 prog 174 (.agg [.int .i64 a0,.int .i64 a1,.int .i64 a2]) (.p (g v)) (qfj qac m) ((qfw g m).map AV.p)=some (qfj qac (qrz m (Arr3_int64.mk a0 a1 a2) v),(qfw g (qrz m (Arr3_int64.mk a0 a1 a2) v)).map AV.p):=qrk (Arr3_int64.mk a0 a1 a2) m g v
theorem qir (c1:Int) (r2:Value) (h:qda c1=some r2):Con D prog 37 [(.int .u8 c1)] (qaw r2):=by
 refine zP call37 func37 rfl ntmps37 fun X w hT=>?_
 simp only [qda] at h
 refine Ml ?_
 refine Mc ?_
 refine Tb ?_
 refine Ma ?_
 obtain ⟨h3,h⟩|⟨h3,h⟩:=zI h
 refine M4 ?_
 exact T0 h results37
 refine Mx ?_
 refine Ma ?_
 obtain ⟨h4,h⟩|⟨h4,h⟩:=zI h
 refine M4 ?_
 exact T0 h results37
 refine Mx ?_
 refine Ma ?_
 obtain ⟨h5,h⟩|⟨h5,h⟩:=zI h
 refine M4 ?_
 exact T0 h results37
 refine Mx ?_
 refine Ma ?_
 obtain ⟨h6,h⟩|⟨h6,h⟩:=zI h
 refine M4 ?_
 exact T0 h results37
 refine Mx ?_
 refine Ma ?_
 obtain ⟨h7,h⟩|⟨h7,h⟩:=zI h
 refine M4 ?_
 exact T0 h results37
 refine Mx ?_
 refine Ma ?_
 obtain ⟨h8,h⟩|⟨h8,h⟩:=zI h
 refine M4 ?_
 exact T0 h results37
 refine Mx ?_
 refine Ma ?_
 obtain ⟨h9,h⟩|⟨h9,h⟩:=zI h
 refine M4 ?_
 exact T0 h results37
 refine Mx ?_
 refine Ma ?_
 obtain ⟨h10,h⟩|⟨h10,h⟩:=zI h
 refine M4 ?_
 exact T0 h results37
 refine Mx ?_
 refine Ma ?_
 obtain ⟨h11,h⟩|⟨h11,h⟩:=zI h
 refine M4 ?_
 exact T0 h results37
 refine Mx ?_
 refine Ma ?_
 obtain ⟨h12,h⟩|⟨h12,h⟩:=zI h
 refine M4 ?_
 exact T0 h results37
 refine Mx ?_
 refine Ma ?_
 obtain ⟨h13,h⟩|⟨h13,h⟩:=zI h
 refine M4 ?_
 exact T0 h results37
 refine T4 ?_
 exact M1 h results37
theorem qtn (x1:Drossref03_Recipe) (n2:Int) (r3:Table) (h:qh4 x1 n2=some r3):Con D prog 16 [(qat x1),(.int .i64 n2)] (qaa r3):=by
 refine zP call16 func16 rfl ntmps16 fun X w hT=>?_
 simp only [qh4] at h
 refine Ml ?_
 refine M6 ?_
 obtain ⟨h4,h⟩:=qae h
 obtain ⟨h5,h⟩:=qae h
 refine zW 4 ?_
 obtain ⟨l6,h7,h⟩:=zB h
 replace h7:=v6z h7
 refine vk8 (st':=⟨[(1,.p (.int .i64 n2)),(2,.loc 2 1 0 0),(4,.loc 4 1 0 0),(10,.own 10 1 0 0),(13,.own 11 1 0 n2.toNat)],[(2,.arr 24 3 1 [.p (qat x1)]),(4,.arr 29 3 1 [.agg [.p (.str []),.nils,.nils]]),(10,.arr 9 1 1 []),(11,.arr 9 1 1 (v58 AV.p (v58 uaq l6)))]⟩) (by simp only [go_sem,seval,←h7];all_goals ((repeat' refine uam ?_ ?_) <;> first | rfl | (simp;done) | (simp;rfl) | (simp [*];done) | (simp [*];rfl))) ?_
 have h7n:l6.length=8:=by rw [←h7];rfl
 clear h7
 obtain ⟨h8,h⟩:=qae h
 refine M5 ?_
 obtain ⟨t9,h10,h⟩:=zB h
 refine zO (fun (s:List Row×Int)=>⟨[(1,.p (.int .i64 n2)),(2,.loc 2 1 0 0),(4,.loc 4 1 0 0),(5,.loc 5 1 0 0),(6,.p (.int .i64 s.2))],[(2,.arr 24 3 1 [.p (qat x1)]),(4,.arr 29 3 1 [.agg [.p (.str []),.nils,.nils]]),(5,.arr 29 3 1 [.agg [.p (.str [114]),.own 10 1 0 ((l6.take n2.toNat)).length,.own 64 1 0 s.1.length]]),(10,.arr 9 1 1 (v58 AV.p (v58 uaq (l6.take n2.toNat)))),(64,.arr 94 2 1 (v58 AV.p (v58 qag s.1)))]⟩) (fun (o11:List Row)=>tE (cX Tryz.f16 X w D hT) (.exit 0) ⟨[(4,.loc 4 1 0 0),(5,.loc 5 1 0 0)],[(4,.arr 29 3 1 [.agg [.p (.str []),.nils,.nils]]),(5,.arr 29 3 1 [.agg [.p (.str [114]),.own 10 1 0 ((l6.take n2.toNat)).length,.own 64 1 0 o11.length]]),(10,.arr 9 1 1 (v58 AV.p (v58 uaq (l6.take n2.toNat)))),(64,.arr 94 2 1 (v58 AV.p (v58 qag o11)))]⟩) h10 ?_ ?_
 clear h h4 h5 h7n h8 h10
 intro s x h
 obtain ⟨t12,i13⟩:=s
 simp only [qfy] at h
 refine Mt ?_
 refine Ma ?_
 obtain ⟨h14,h⟩|⟨h14,h⟩:=zI h
 refine Mb ?_
 refine M5 ?_
 obtain ⟨r15,h16,h⟩:=zB h
 refine zO (fun (s:List Value×Int)=>⟨[(1,.p (.int .i64 n2)),(2,.loc 2 1 0 0),(4,.loc 4 1 0 0),(5,.loc 5 1 0 0),(6,.p (.int .i64 i13)),(7,.loc 7 1 0 0),(8,.p (.int .i64 s.2))],[(2,.arr 24 3 1 [.p (qat x1)]),(4,.arr 29 3 1 [.agg [.p (.str []),.nils,.nils]]),(5,.arr 29 3 1 [.agg [.p (.str [114]),.own 10 1 0 ((l6.take n2.toNat)).length,.own 64 1 0 t12.length]]),(7,.arr 94 2 1 [.agg [.p (.int .i64 (v67.wrap (1+(v67.wrap (i13 * (v67.wrap (1+(v67.wrap (v7u x1.Gap 3))))))))),.own 58 1 0 s.1.length]]),(10,.arr 9 1 1 (v58 AV.p (v58 uaq (l6.take n2.toNat)))),(58,.arr 130 3 1 (v58 AV.p (v58 qaw s.1))),(64,.arr 94 2 1 (v58 AV.p (v58 qag t12)))]⟩) (fun (o17:List Value)=>tE (cX Tryz.f16 X w D hT) (.exit 2) ⟨[(1,.p (.int .i64 n2)),(2,.loc 2 1 0 0),(4,.loc 4 1 0 0),(5,.loc 5 1 0 0),(6,.p (.int .i64 i13)),(7,.loc 7 1 0 0)],[(2,.arr 24 3 1 [.p (qat x1)]),(4,.arr 29 3 1 [.agg [.p (.str []),.nils,.nils]]),(5,.arr 29 3 1 [.agg [.p (.str [114]),.own 10 1 0 ((l6.take n2.toNat)).length,.own 64 1 0 t12.length]]),(7,.arr 94 2 1 [.agg [.p (.int .i64 (v67.wrap (1+(v67.wrap (i13 * (v67.wrap (1+(v67.wrap (v7u x1.Gap 3))))))))),.own 58 1 0 o17.length]]),(10,.arr 9 1 1 (v58 AV.p (v58 uaq (l6.take n2.toNat)))),(58,.arr 130 3 1 (v58 AV.p (v58 qaw o17))),(64,.arr 94 2 1 (v58 AV.p (v58 qag t12)))]⟩) h16 ?_ ?_
 clear h h14 h16
 intro s x h
 obtain ⟨r18,k19⟩:=s
 simp only [qfx] at h
 refine Mt ?_
 refine Ma ?_
 obtain ⟨h20,h⟩|⟨h20,h⟩:=zI h
 refine Mb ?_
 refine Mc ?_
 obtain ⟨x21,h22,h22a,h22b,h⟩:=zX h
 refine Ma ?_
 obtain ⟨h23,h⟩|⟨h23,h⟩:=zI h
 refine zi<|zr ?_
 obtain ⟨x24,h25,h25a,h25b,h⟩:=zX h
 refine Tg ?_
 obtain ⟨r26,h27,h⟩:=zB h
 refine yc (qir x24 _ h27) ?_
 obtain ⟨h28,h⟩:=qae h
 refine T3 ?_
 exact M0 h
 refine zj<|zk<|zn<|zd ?_
 refine yU ?_
 obtain ⟨r29,h30,h⟩:=zB h
 refine yc (qir 0 _ h30) ?_
 obtain ⟨h31,h⟩:=qae h
 refine T3 ?_
 exact M0 h
 exact M3 h
 try simp only at h
 refine zA<|yh<|zn<|zr ?_
 refine zW 4 ?_
 refine zM ⟨[(1,.p (.int .i64 n2)),(2,.loc 2 1 0 0),(4,.loc 4 1 0 0),(5,.loc 5 1 0 0),(6,.p (.int .i64 i13)),(61,.own 64 1 0 t12.length),(63,.own 63 1 0 1)],[(2,.arr 24 3 1 [.p (qat x1)]),(4,.arr 29 3 1 [.agg [.p (.str []),.nils,.nils]]),(5,.arr 29 3 1 [.agg [.p (.str [114]),.own 10 1 0 ((l6.take n2.toNat)).length,.own 64 1 0 t12.length]]),(10,.arr 9 1 1 (v58 AV.p (v58 uaq (l6.take n2.toNat)))),(63,.arr 94 2 1 [.p (.agg [.int .i64 (v67.wrap (1+(v67.wrap (i13 * (v67.wrap (1+(v67.wrap (v7u x1.Gap 3)))))))),.slc (v58 qaw r15)])]),(64,.arr 94 2 1 (v58 AV.p (v58 qag t12)))]⟩ ?_
 obtain ⟨h32,h⟩:=qae h
 refine Mk ?_
 exact M0 h
 exact M3 h
 try simp only at h
 refine Md ?_
 exact M1 h results16
theorem qsh (x1:Drossref03_Recipe) (m2:Int) (r3:Table×Bool) (h:qeo x1 m2=some r3):Con D prog 4 [(qat x1),(.int .i64 m2)] (.tup [(qaa r3.1),(.bool r3.2)]):=by
 refine zP call4 func4 rfl ntmps4 fun X w hT=>?_
 simp only [qeo] at h
 refine Ml ?_
 refine Mc ?_
 refine Ma ?_
 obtain ⟨h4,h⟩|⟨h4,h⟩:=zI h
 exact M2 h results4
 refine Mi ?_
 refine zU ?_
 obtain ⟨r5,h6,h⟩:=zB h
 refine zc (qtn x1 (v67.wrap (v7u x1.Attrs 6)) _ h6) ?_
 exact M1 h results4
theorem qu8 (s1:Int) (i2:Int) (r3:Bool) (h:qhm s1 i2=some r3):Con D prog 81 [(.int .u32 s1),(.int .i64 i2)] (.bool r3):=by
 refine zP call81 func81 rfl ntmps81 fun X w hT=>?_
 simp only [qhm] at h
 refine Ml ?_
 refine M6 ?_
 refine zU ?_
 obtain ⟨h4,h⟩|⟨h4,h⟩:=zI h
 refine zw 7 true ?_
 refine M7 ?_
 refine zU ?_
 obtain ⟨h5,h⟩|⟨h5,h⟩:=zI h
 refine zw 11 true ?_
 refine M7 ?_
 obtain ⟨h6,h⟩:=qdm h
 replace h:=h.symm
 refine M7 ?_
 refine zg ?_
 exact M1 h results81
 refine zw 11 false ?_
 refine zh ?_
 exact M1 h results81
 refine zw 7 false ?_
 refine Mh ?_
 exact M1 h results81
theorem qwa (n1:Int) (d2:Drossref16_Draft) (r3:CFD) (h:qjz n1 d2=some r3):Con D prog 38 [(.int .i64 n1),(qa3 d2)] (qg2 r3):=by
 refine zP call38 func38 rfl ntmps38 fun X w hT=>?_
 simp only [qjz] at h
 refine Ml ?_
 refine M6 ?_
 obtain ⟨h4,h⟩:=qdm h
 refine M5 ?_
 obtain ⟨c5,h6,h⟩:=zB h
 refine zO (fun (s:List Int×Int)=>⟨[(0,.p (.int .i64 n1)),(3,.loc 3 1 0 0),(4,.loc 4 1 0 0),(5,.loc 5 1 0 0),(6,.p (.int .i64 s.2))],[(3,.arr 83 3 1 [.p (qa3 d2)]),(4,.arr 69 3 1 [.agg [.nils,.p (.int .i64 0),.nils]]),(5,.arr 69 3 1 [.agg [.own 34 1 0 s.1.length,.p (.int .i64 (v7u (v67.wrap d2.Rhs) n1)),.nils]]),(34,.arr 3 1 1 (v58 AV.p (v58 (uap .i64) s.1)))]⟩) (fun (o7:List Int)=>tE (cX Tryz.f38 X w D hT) (.exit 0) ⟨[(3,.loc 3 1 0 0),(4,.loc 4 1 0 0),(5,.loc 5 1 0 0)],[(3,.arr 83 3 1 [.p (qa3 d2)]),(4,.arr 69 3 1 [.agg [.nils,.p (.int .i64 0),.nils]]),(5,.arr 69 3 1 [.agg [.own 34 1 0 o7.length,.p (.int .i64 (v7u (v67.wrap d2.Rhs) n1)),.nils]]),(34,.arr 3 1 1 (v58 AV.p (v58 (uap .i64) o7)))]⟩) h6 ?_ ?_
 clear h h4 h6
 intro s x h
 obtain ⟨c8,a9⟩:=s
 simp only [qhd] at h
 refine Mt ?_
 refine Ma ?_
 obtain ⟨h10,h⟩|⟨h10,h⟩:=zI h
 refine zi<|zk<|zn<|zs<|zb ?_
 obtain ⟨t11,h12,h⟩:=zB h
 refine zJ (fun (o13:Bool)=>tE (cX Tryz.f38 X w D hT) .normal ⟨[(0,.p (.int .i64 n1)),(3,.loc 3 1 0 0),(4,.loc 4 1 0 0),(5,.loc 5 1 0 0),(6,.p (.int .i64 a9)),(29,.p (.bool o13))],[(3,.arr 83 3 1 [.p (qa3 d2)]),(4,.arr 69 3 1 [.agg [.nils,.p (.int .i64 0),.nils]]),(5,.arr 69 3 1 [.agg [.own 34 1 0 c8.length,.p (.int .i64 (v7u (v67.wrap d2.Rhs) n1)),.nils]]),(34,.arr 3 1 1 (v58 AV.p (v58 (uap .i64) c8)))]⟩) t11 ?_ ?_
 replace h:=h12
 clear h12
 refine Td ?_
 obtain ⟨r14,h15,h⟩:=zB h
 refine zc (qu8 (IntKind.u32.wrap d2.Lhs) a9 _ h15) ?_
 refine zU ?_
 obtain ⟨h16,h⟩|⟨h16,h⟩:=zI h
 replace h:=h.symm
 refine zw 24 true ?_
 refine M7 ?_
 refine M7 ?_
 exact M0 h
 refine zw 24 false ?_
 refine zh ?_
 exact M0 h
 try simp only at h
 refine zA<|zn ?_
 obtain ⟨h17,h⟩|⟨h17,h⟩:=zI h
 refine zi<|zr ?_
 obtain ⟨h18,h⟩:=qae h
 refine Mk ?_
 exact M0 h
 refine Me ?_
 exact M0 h
 exact M3 h
 try simp only at h
 refine Te ?_
 refine Mq ?_
 obtain ⟨c19,h20,h⟩:=zB h
 refine zO (fun (s:List Cell×Int)=>⟨[(3,.loc 3 1 0 0),(4,.loc 4 1 0 0),(5,.loc 5 1 0 0),(7,.p (.int .i64 s.2))],[(3,.arr 83 3 1 [.p (qa3 d2)]),(4,.arr 69 3 1 [.agg [.nils,.p (.int .i64 0),.nils]]),(5,.arr 69 3 1 [.agg [.own 34 1 0 c5.length,.p (.int .i64 (v7u (v67.wrap d2.Rhs) n1)),.own 61 1 0 s.1.length]]),(34,.arr 3 1 1 (v58 AV.p (v58 (uap .i64) c5))),(61,.arr 198 4 1 (v58 AV.p (v58 qd1 s.1)))]⟩) (fun (o21:List Cell)=>tE (cX Tryz.f38 X w D hT) (.exit 2) ⟨[(4,.loc 4 1 0 0),(5,.loc 5 1 0 0)],[(4,.arr 69 3 1 [.agg [.nils,.p (.int .i64 0),.nils]]),(5,.arr 69 3 1 [.agg [.own 34 1 0 c5.length,.p (.int .i64 (v7u (v67.wrap d2.Rhs) n1)),.own 61 1 0 o21.length]]),(34,.arr 3 1 1 (v58 AV.p (v58 (uap .i64) c5))),(61,.arr 198 4 1 (v58 AV.p (v58 qd1 o21)))]⟩) h20 ?_ ?_
 clear h h4 h6 h20
 intro s x h
 obtain ⟨c22,k23⟩:=s
 simp only [qhe] at h
 refine Mt ?_
 refine Ma ?_
 obtain ⟨h24,h⟩|⟨h24,h⟩:=zI h
 refine zi<|zk<|zn<|zs<|zb ?_
 obtain ⟨t25,h26,h⟩:=zB h
 refine zJ (fun (o27:Bool)=>tE (cX Tryz.f38 X w D hT) .normal ⟨[(3,.loc 3 1 0 0),(4,.loc 4 1 0 0),(5,.loc 5 1 0 0),(7,.p (.int .i64 k23)),(56,.p (.bool o27))],[(3,.arr 83 3 1 [.p (qa3 d2)]),(4,.arr 69 3 1 [.agg [.nils,.p (.int .i64 0),.nils]]),(5,.arr 69 3 1 [.agg [.own 34 1 0 c5.length,.p (.int .i64 (v7u (v67.wrap d2.Rhs) n1)),.own 61 1 0 c22.length]]),(34,.arr 3 1 1 (v58 AV.p (v58 (uap .i64) c5))),(61,.arr 198 4 1 (v58 AV.p (v58 qd1 c22)))]⟩) t25 ?_ ?_
 replace h:=h26
 clear h26
 refine Td ?_
 obtain ⟨h28,h⟩|⟨h28,h⟩:=zI h
 refine zw 48 true ?_
 refine zh ?_
 exact M0 h
 refine zw 48 false ?_
 refine M7 ?_
 refine zg ?_
 obtain ⟨x29,h30,h30a,h30b,h⟩:=zX h
 replace h:=h.symm
 refine M7 ?_
 refine M7 ?_
 exact M0 h
 try simp only at h
 refine zA<|zn ?_
 obtain ⟨h31,h⟩|⟨h31,h⟩:=zI h
 refine zi<|zr ?_
 obtain ⟨h32,h⟩:=qae h
 refine Mk ?_
 exact M0 h
 refine zj<|zd ?_
 obtain ⟨x33,h34,h34a,h34b,h⟩:=zX h
 refine yU ?_
 obtain ⟨r35,h36,h⟩:=zB h
 refine yc (qir (v7u (IntKind.u8.wrap (Int.tdiv x33 2)) 3) _ h36) ?_
 obtain ⟨h37,h⟩:=qae h
 refine T3 ?_
 exact M0 h
 exact M3 h
 try simp only at h
 refine Md ?_
 exact M1 h results38
theorem qkn (n1:Int) (l2:List Int) (r3:List Int) (h:qdn n1 l2=some r3):Con D prog 82 [(.int .i64 n1),(.slc (v58 (uap .u8) l2))] (.slc (v58 (uap .i64) r3)):=by
 refine zP call82 func82 rfl ntmps82 fun X w hT=>?_
 simp only [qdn] at h
 refine Ml ?_
 refine M6 ?_
 refine M5 ?_
 obtain ⟨o4,h5,h⟩:=zB h
 refine zO (fun (s:List Int×Int)=>⟨[(0,.p (.int .i64 n1)),(1,.p (.slc (v58 (uap .u8) l2))),(5,.own 30 1 0 s.1.length),(6,.p (.int .i64 s.2))],[(30,.arr 3 1 1 (v58 AV.p (v58 (uap .i64) s.1)))]⟩) (fun (o6:List Int)=>tE (cX Tryz.f82 X w D hT) (.exit 0) ⟨[(5,.own 30 1 0 o6.length)],[(30,.arr 3 1 1 (v58 AV.p (v58 (uap .i64) o6)))]⟩) h5 ?_ ?_
 clear h h5
 intro s x h
 obtain ⟨o7,i8⟩:=s
 simp only [qcf] at h
 refine Mt ?_
 refine zU ?_
 obtain ⟨h9,h⟩|⟨h9,h⟩:=zI h
 refine zw 11 true ?_
 refine M7 ?_
 refine zU ?_
 obtain ⟨h10,h⟩|⟨h10,h⟩:=zI h
 refine zw 15 true ?_
 refine M7 ?_
 refine Ma ?_
 obtain ⟨h11,h⟩|⟨h11,h⟩:=zI h
 refine Tf ?_
 obtain ⟨x12,h13,h13a,h13b,h⟩:=zX h
 obtain ⟨h14,h⟩:=qdm h
 obtain ⟨h15,h⟩:=qae h
 refine Mk ?_
 exact M0 h
 exact M3 h
 refine zw 15 false ?_
 refine zh ?_
 refine Ma ?_
 exact M3 h
 refine zw 11 false ?_
 refine Mh ?_
 refine Ma ?_
 exact M3 h
 try simp only at h
 refine Md ?_
 exact M1 h results82
theorem qwb (n1:Int) (x2:Drossref17_Lists) (r3:OD) (h:qj0 n1 x2=some r3):Con D prog 39 [(.int .i64 n1),(qde x2)] (qtm r3):=by
 refine zP call39 func39 rfl ntmps39 fun X w hT=>?_
 simp only [qj0] at h
 refine Ml ?_
 refine Mv ?_
 refine yU ?_
 obtain ⟨r4,h5,h⟩:=zB h
 refine yc (qkn n1 x2.X _ h5) ?_
 refine yU ?_
 obtain ⟨r6,h7,h⟩:=zB h
 refine yc (qkn n1 x2.Y _ h7) ?_
 exact Mp h results39
theorem qmy (n1:Int) (v2:Int) (s3:Drossref18_Side) (r4:Term) (h:qgk n1 v2 s3=some r4):Con D prog 83 [(.int .i64 n1),(.int .i64 v2),(qb9 s3)] (qoa r4):=by
 refine zP call83 func83 rfl ntmps83 fun X w hT=>?_
 simp only [qgk] at h
 refine Ml ?_
 refine M6 ?_
 obtain ⟨h5,h⟩:=qdm h
 refine zU<|zl<|zn<|zs ?_
 obtain ⟨t6,h7,h⟩:=zB h
 refine zJ (fun (o8:Bool)=>tE (cX Tryz.f83 X w D hT) .normal ⟨[(0,.p (.int .i64 n1)),(5,.loc 5 1 0 0),(6,.loc 6 1 0 0),(7,.p (.int .i64 (v7u (v67.wrap s3.Var) (v67.wrap (v2+1))))),(19,.p (.bool o8))],[(5,.arr 201 2 1 [.p (qb9 s3)]),(6,.arr 205 5 1 [.p (.agg [.int .i64 0,.int .i64 0,.int .i64 0,.int .i64 0,.str []])])]⟩) t6 ?_ ?_
 replace h:=h7
 clear h7
 refine Td ?_
 obtain ⟨h9,h⟩|⟨h9,h⟩:=zI h
 refine zw 16 true ?_
 refine zh ?_
 exact M0 h
 replace h:=h.symm
 refine zw 16 false ?_
 refine M7 ?_
 exact M0 h
 try simp only at h
 refine zA<|zn ?_
 obtain ⟨h10,h⟩|⟨h10,h⟩:=zI h
 refine Mr ?_
 obtain ⟨r11,h12,h⟩:=zB h
 refine zc (qir s3.Code _ h12) ?_
 refine Mm ?_
 exact T0 h results83
 refine Mi ?_
 obtain ⟨h13,h⟩:=qdm h
 exact M1 h results83
theorem qwc (n1:Int) (r2:Drossref18_Recipe) (r3:Denial×Bool) (h:qj1 n1 r2=some r3):Con D prog 40 [(.int .i64 n1),(qbo r2)] (.tup [(qad r3.1),(.bool r3.2)]):=by
 refine zP call40 func40 rfl ntmps40 fun X w hT=>?_
 simp only [qj1] at h
 refine Ml ?_
 refine M6 ?_
 refine M5 ?_
 obtain ⟨d4,h5,h⟩:=zB h
 refine zO (fun (s:List Atom×Int)=>⟨[(0,.p (.int .i64 n1)),(3,.loc 3 1 0 0),(4,.loc 4 1 0 0),(6,.loc 6 1 0 0),(7,.p (.int .i64 s.2))],[(3,.arr 88 2 1 [.p (qbo r2)]),(4,.arr 74 2 1 [.agg [.p (.int .i64 0),.nils]]),(6,.arr 74 2 1 [.agg [.p (.int .i64 (v67.wrap (1+(v67.wrap (v7u r2.Vars 3))))),.own 48 1 0 s.1.length]]),(48,.arr 208 11 1 (v58 AV.p (v58 qcu s.1)))]⟩) (fun (o6:List Atom)=>tE (cX Tryz.f40 X w D hT) (.exit 0) ⟨[(3,.loc 3 1 0 0),(4,.loc 4 1 0 0),(6,.loc 6 1 0 0)],[(3,.arr 88 2 1 [.p (qbo r2)]),(4,.arr 74 2 1 [.agg [.p (.int .i64 0),.nils]]),(6,.arr 74 2 1 [.agg [.p (.int .i64 (v67.wrap (1+(v67.wrap (v7u r2.Vars 3))))),.own 48 1 0 o6.length]]),(48,.arr 208 11 1 (v58 AV.p (v58 qcu o6)))]⟩) h5 ?_ ?_
 clear h h5
 intro s x h
 obtain ⟨d7,i8⟩:=s
 simp only [qhf] at h
 refine Mt ?_
 refine Ma ?_
 obtain ⟨h9,h⟩|⟨h9,h⟩:=zI h
 refine Mb ?_
 obtain ⟨x10,h11,h11a,h11b,h⟩:=zX h
 refine Tg ?_
 obtain ⟨r12,h13,h⟩:=zB h
 refine yc (qmy n1 (v67.wrap (1+(v67.wrap (v7u r2.Vars 3)))) x10.Left _ h13) ?_
 refine yU ?_
 obtain ⟨r14,h15,h⟩:=zB h
 refine yc (qmy n1 (v67.wrap (1+(v67.wrap (v7u r2.Vars 3)))) x10.Right _ h15) ?_
 obtain ⟨h16,h⟩:=qae h
 refine T3 ?_
 exact M0 h
 exact M3 h
 try simp only at h
 refine zA<|yh<|zn<|zs<|zd ?_
 exact Mp h results40
theorem qto (n1:Int) (r2:Int) (h:qh5 n1=some r2):Con D prog 84 [(.int .i64 n1)] (.int .u32 r2):=by
 refine zP call84 func84 rfl ntmps84 fun X w hT=>?_
 simp only [qh5] at h
 refine Ml ?_
 refine M6 ?_
 refine M5 ?_
 obtain ⟨s3,h4,h⟩:=zB h
 refine zO (fun (s:Int×Int)=>⟨[(0,.p (.int .i64 n1)),(3,.p (.int .u32 s.1)),(4,.p (.int .i64 s.2))],[]⟩) (fun (o5:Int)=>tE (cX Tryz.f84 X w D hT) (.exit 0) ⟨[(3,.p (.int .u32 o5))],[]⟩) h4 ?_ ?_
 clear h h4
 intro s x h
 obtain ⟨s6,i7⟩:=s
 simp only [qfz] at h
 refine Mt ?_
 refine zU ?_
 obtain ⟨h8,h⟩|⟨h8,h⟩:=zI h
 refine zw 8 true ?_
 refine M7 ?_
 refine Ma ?_
 obtain ⟨h9,h⟩|⟨h9,h⟩:=zI h
 refine Tf ?_
 obtain ⟨h10,h⟩:=qdm h
 refine Mk ?_
 exact M0 h
 exact M3 h
 refine zw 8 false ?_
 refine zh ?_
 refine Ma ?_
 exact M3 h
 try simp only at h
 refine Md ?_
 exact M1 h results84
theorem qmz (n1:Int) (l2:List Drossref09_Dep) (r3:List FD) (h:qgl n1 l2=some r3):Con D prog 41 [(.int .i64 n1),(.slc (v58 qcq l2))] (.slc (v58 qsg r3)):=by
 refine zP call41 func41 rfl ntmps41 fun X w hT=>?_
 simp only [qgl] at h
 refine Ml ?_
 refine M6 ?_
 refine zU ?_
 obtain ⟨r4,h5,h⟩:=zB h
 refine zc (qto n1 _ h5) ?_
 refine M6 ?_
 refine M5 ?_
 obtain ⟨o6,h7,h⟩:=zB h
 refine zO (fun (s:List FD×Int)=>⟨[(1,.p (.slc (v58 qcq l2))),(5,.p (.int .u32 r4)),(6,.own 35 1 0 s.1.length),(7,.p (.int .i64 s.2))],[(35,.arr 62 2 1 (v58 AV.p (v58 qsg s.1)))]⟩) (fun (o8:List FD)=>tE (cX Tryz.f41 X w D hT) (.exit 0) ⟨[(6,.own 35 1 0 o8.length)],[(35,.arr 62 2 1 (v58 AV.p (v58 qsg o8)))]⟩) h7 ?_ ?_
 clear h h5 h7
 intro s x h
 obtain ⟨o9,i10⟩:=s
 simp only [qhs] at h
 refine Mt ?_
 refine Ma ?_
 obtain ⟨h11,h⟩|⟨h11,h⟩:=zI h
 refine zi<|zk<|zn<|zs<|zb<|zd ?_
 obtain ⟨x12,h13,h13a,h13b,h⟩:=zX h
 obtain ⟨h14,h⟩:=qae h
 refine T3 ?_
 exact M0 h
 exact M3 h
 try simp only at h
 refine Md ?_
 exact M1 h results41
theorem qwd (n1:Int) (x2:Drossref37_Rule) (r3:Constraint×Bool) (h:qj2 n1 x2=some r3):Con D prog 17 [(.int .i64 n1),(qa7 x2)] (.tup [(qak r3.1),(.bool r3.2)]):=by
 refine zP call17 func17 rfl ntmps17 fun X w hT=>?_
 simp only [qj2] at h
 refine Ml ?_
 refine M6 ?_
 refine Mc ?_
 refine Tb ?_
 refine Ma ?_
 obtain ⟨h4,h⟩|⟨h4,h⟩:=zI h
 refine T5 ?_
 refine Ma ?_
 obtain ⟨h5,h⟩|⟨h5,h⟩:=zI h
 refine Mr ?_
 obtain ⟨r6,h7,h⟩:=zB h
 refine zc (qwa n1 x2.C _ h7) ?_
 refine M6 ?_
 exact Mn h results17
 refine zj<|zk<|yn<|zn<|zs<|zd ?_
 refine yV 3 ?_
 refine yS 50 ?_
 obtain ⟨r8,h9,h⟩:=zB h
 refine yc (qmz n1 [x2.F] _ h9) ?_
 obtain ⟨x10,h11,h11l,h11L,h⟩:=zY 0 h
 refine T7 ?_
 exact M1 h results17
 refine Mx ?_
 refine Ma ?_
 obtain ⟨h12,h⟩|⟨h12,h⟩:=zI h
 refine Mr ?_
 obtain ⟨r13,h14,h⟩:=zB h
 refine zc (qwb n1 x2.O _ h14) ?_
 refine M6 ?_
 exact Mn h results17
 refine Mx ?_
 refine Ma ?_
 obtain ⟨h15,h⟩|⟨h15,h⟩:=zI h
 refine Mr ?_
 obtain ⟨r16,h17,h⟩:=zB h
 refine zc (qwc n1 x2.N _ h17) ?_
 refine Mv ?_
 refine T7 ?_
 exact Mn h results17
 refine zj<|zk<|yn<|zn<|zs<|zd ?_
 refine yV 3 ?_
 refine yS 50 ?_
 obtain ⟨r18,h19,h⟩:=zB h
 refine yc (qmz n1 [x2.F] _ h19) ?_
 obtain ⟨x20,h21,h21l,h21L,h⟩:=zY 0 h
 refine T7 ?_
 exact M1 h results17
theorem qtp (n1:Int) (l2:List Drossref37_Rule) (r3:List Constraint×Bool) (h:qh6 n1 l2=some r3):Con D prog 5 [(.int .i64 n1),(.slc (v58 qa7 l2))] (.tup [(.slc (v58 qak r3.1)),(.bool r3.2)]):=by
 refine zP call5 func5 rfl ntmps5 fun X w hT=>?_
 simp only [qh6] at h
 refine Ml ?_
 refine M6 ?_
 refine M5 ?_
 obtain ⟨o4,h5,h⟩:=zB h
 refine zO (fun (s:List Constraint×Int)=>⟨[(0,.p (.int .i64 n1)),(1,.p (.slc (v58 qa7 l2))),(6,.own 30 1 0 s.1.length),(7,.p (.int .i64 s.2))],[(30,.arr 76 18 1 (v58 AV.p (v58 qak s.1)))]⟩) (fun (o:(List Constraint) ⊕ (List Constraint×Bool))=>match o with | .inl o6=>tE (cX Tryz.f5 X w D hT) (.exit 0) ⟨[(1,.p (.slc (v58 qa7 l2))),(6,.own 30 1 0 o6.length)],[(30,.arr 76 18 1 (v58 AV.p (v58 qak o6)))]⟩ | .inr o7=>tR prog Tryz.f5 (.tup [(.slc (v58 qak o7.1)),(.bool o7.2)])) h5 ?_ ?_
 clear h h5
 intro s x h
 obtain ⟨o8,i9⟩:=s
 simp only [qf0] at h
 refine Mt ?_
 refine Ma ?_
 obtain ⟨h10,h⟩|⟨h10,h⟩:=zI h
 refine Mb ?_
 obtain ⟨x11,h12,h12a,h12b,h⟩:=zX h
 refine zU ?_
 obtain ⟨r13,h14,h⟩:=zB h
 refine zc (qwd n1 x11 _ h14) ?_
 refine Mc ?_
 refine Ma ?_
 obtain ⟨h15,h⟩|⟨h15,h⟩:=zI h
 refine zj<|zk<|zn<|zr ?_
 obtain ⟨h16,h⟩:=qae h
 refine Mk ?_
 exact M0 h
 refine Mg ?_
 cases h
 exact ⟨rfl,zT results5⟩
 exact M3 h
 rcases o4 with o17 | r18
 try simp only at h
 refine Md ?_
 exact M1 h results5
 exact M8 h
theorem qjt (x:Int) (r:Int) (h:qgf x=some r):Con D prog 183 [(.int .u32 x)] (.int .i64 r):=by
 obtain ⟨hx,h⟩:=qae h
 obtain ⟨n,rfl⟩:=v8d hx.1
 have hn:n < 4294967296:=by omega
 replace h:=v6z h
 subst h
 rw [Int.toNat_natCast]
 refine zP call183 func183 rfl ntmps183 fun X w hT=>?_
 refine Ml ?_
 refine Ma ?_
 by_cases h0:n=0
 subst h0
 refine zs<|zs<|zr ?_
 refine Ma ?_
 refine T5 ?_
 refine Mm ?_
 exact zT results183
 have hb:((n:Int) == 0)=false:=by simp;omega
 refine zs<|zs<|zr ?_
 refine Ma ?_
 refine Mi ?_
 refine zW 6 ?_
 refine zTab (g:=0) (x:=.tmp 10) (k:=.u32) (tzI n) (by kernel_rfl) underlying365 (vpa n) (by simp only [go_sem,seval, *];exact vx2 h0 hn) ?_
 have hw:=@vhq n
 refine My ?_
 have ht:vvg n=qm8.getD (tzI n) 0:=if_neg h0
 rw [ht]
 exact zT results183
theorem v18 (a b:List UInt8) (w:World):(callFunc 299 #[.string ⟨a.toArray⟩,.string ⟨b.toArray⟩]).run prog w=.ok (.value (.int .i64 (v8n a b))) w:=by
  rw [run_callFunc_extern func299 (by kernel_rfl) (by kernel_rfl) (by kernel_rfl) (e:=Extern.BytealgCompare.compare) (by kernel_rfl),Lib.run_compareString];rfl
theorem qob (a1:List UInt8) (b2:List UInt8) (r3:Int) (h:qf2 a1 b2=some r3):Con D prog 291 [(.str a1),(.str b2)] (.int .i64 r3):=by
 refine zP call291 func291 rfl ntmps291 fun X w hT=>?_
 simp only [qf2] at h
 refine Ml ?_
 refine M6 ?_
 refine zU ?_
 refine vrk (v18 a1 b2) (by simp only [go_sem,seval];all_goals ((repeat' refine uam ?_ ?_) <;> first | rfl | (simp;done) | (simp;rfl) | (simp [*];done) | (simp [*];rfl))) (by simp only [go_sem,seval];all_goals ((repeat' refine uam ?_ ?_) <;> first | rfl | (simp;done) | (simp;rfl) | (simp [*];done) | (simp [*];rfl))) rfl ?_
 exact M1 h results291
theorem qm0 (a1:List UInt8) (b2:List UInt8) (r3:Int) (h:qia a1 b2=some r3):Con D prog 275 [(.str a1),(.str b2)] (.int .i64 r3):=by
 refine zP call275 func275 rfl ntmps275 fun X w hT=>?_
 simp only [qia] at h
 refine Ml ?_
 refine M6 ?_
 refine zU ?_
 obtain ⟨r4,h5,h⟩:=zB h
 refine zc (qob a1 b2 _ h5) ?_
 exact M1 h results275
theorem vkm:vee prog vbm:=by
  intro k t ps r h1 h2;unfold vbm at h1;by_cases hk:k=275
  · subst hk
    simp only [Nat.beq_refl,cond_true,v5a] at h1;subst h1;dsimp only at h2;split at h2
    · rename_i x y
      cases h2;have c:∀D,Con D prog 275 [(.str x),(.str y)] (.int .i64 (v8n x y)):=fun D=>qm0 x y _ rfl
      exact ⟨(c True).1,fun D=>(c D).2⟩
    · cases h2
  · have:Nat.beq k 275=false:=v5k.2 fun h=>hk (uan h)
    rw [this,cond_false] at h1;by_cases hk:k=183
    · subst hk
      simp only [Nat.beq_refl,cond_true,v5a] at h1;subst h1;dsimp only at h2;split at h2
      · rename_i n
        split at h2
        · rename_i hn
          cases h2;have c:∀D,Con D prog 183 [.int .u32 n] (.int .i64 (vvg n.toNat)):=fun D=>qjt n _ (if_pos hn)
          exact ⟨(c True).1,fun D=>(c D).2⟩
        · cases h2
      · cases h2
    · have:Nat.beq k 183=false:=v5k.2 fun h=>hk (uan h)
      rw [this,cond_false] at h1;cases h1
theorem run6:vk6 D prog 6 [] (.bool true):=q3z (by decide +kernel) mixed vkm vmp
theorem qlw (r:Bool) (h:qjd=some r):Con D prog 6 [] (.bool r):=by
 cases h;exact ⟨call6,run6⟩
theorem qsi (l1:List Constraint) (r2:List Constraint) (h:qhg l1=some r2):Con D prog 7 [(.slc (v58 qak l1))] (.slc (v58 qak r2)):=by
 refine zP call7 func7 rfl ntmps7 fun X w hT=>?_
 simp only [qhg] at h
 refine Ml ?_
 refine M6 ?_
 obtain ⟨h3,h⟩:=qae h
 refine M5 ?_
 obtain ⟨o4,h5,h⟩:=zB h
 refine zO (fun (s:List Constraint×Int)=>⟨[(3,.own 5 1 0 s.1.length),(9,.p (.int .i64 ((l1.length:Nat):Int))),(10,.p (.int .i64 s.2))],[(5,.arr 76 18 1 (v58 AV.p (v58 qak s.1)))]⟩) (fun (o6:List Constraint)=>tE (cX Tryz.f7 X w D hT) (.exit 0) ⟨[(3,.own 5 1 0 o6.length)],[(5,.arr 76 18 1 (v58 AV.p (v58 qak o6)))]⟩) h5 ?_ ?_
 clear h h3 h5
 intro s x h
 obtain ⟨o7,t8⟩:=s
 simp only [qfb] at h
 dsimp only
 refine M9 ?_
 obtain ⟨h9,h⟩|⟨h9,h⟩:=zI h
 refine Mb ?_
 refine Mu ?_
 refine zW 5 ?_
 obtain ⟨h10,h⟩:=qae h
 obtain ⟨h11,h⟩:=qae h
 refine zChr h10 h11 underlying21 underlying9 ?_
 obtain ⟨x12,h13,h13a,h13b,h⟩:=zX h
 refine Mk ?_
 exact M0 h
 exact M3 h
 try simp only at h
 refine Md ?_
 exact M1 h results7
theorem qp9 (s1:List UInt8) (r2:Bool) (h:qjp s1=some r2):Con D prog 54 [(.str s1)] (.bool r2):=by
 refine zP call54 func54 rfl ntmps54 fun X w hT=>?_
 simp only [qjp] at h
 refine Ml ?_
 refine Mc ?_
 refine zU ?_
 obtain ⟨h3,h⟩|⟨h3,h⟩:=zI h
 refine zw 8 true ?_
 refine Mh ?_
 refine Ma ?_
 exact M2 h results54
 refine zw 8 false ?_
 refine M7 ?_
 refine Mw ?_
 obtain ⟨h4,h⟩|⟨h4,h⟩:=zI h
 refine zw 13 true ?_
 refine zh ?_
 refine Ma ?_
 exact M2 h results54
 refine zw 13 false ?_
 refine M7 ?_
 refine Ma ?_
 obtain ⟨h5,h⟩|⟨h5,h⟩:=zI h
 exact M2 h results54
 refine Mj ?_
 refine Mq ?_
 obtain ⟨o6,h7,h⟩:=zB h
 refine zO (fun (s:Int)=>⟨[(0,.p (.str s1)),(18,.p (.int .i64 (s1.length:Int))),(19,.p (.int .i64 s))],[]⟩) (fun (o:(Unit) ⊕ (Bool))=>match o with | .inl o8=>tE (cX Tryz.f54 X w D hT) (.exit 0) ⟨[],[]⟩ | .inr o9=>tR prog Tryz.f54 (.bool o9)) h7 ?_ ?_
 clear h h3 h4 h5 h7
 intro t10 x h
 simp only [qgm] at h
 refine M9 ?_
 obtain ⟨h11,h⟩|⟨h11,h⟩:=zI h
 refine Mb ?_
 refine M6 ?_
 obtain ⟨c12,h13,h13a,h13b,h⟩:=zX h
 refine Ma ?_
 obtain ⟨l14,h15,h⟩:=zB h
 refine zJ (fun (o16:Bool)=>tE (cX Tryz.f54 X w D hT) .normal ⟨[(0,.p (.str s1)),(3,.p (.int .i64 t10)),(4,.p (.int .u8 ((c12.toNat:Nat):Int))),(5,.p (.bool o16)),(18,.p (.int .i64 (s1.length:Int))),(19,.p (.int .i64 t10))],[]⟩) l14 ?_ ?_
 replace h:=h15
 clear h15
 refine Td ?_
 obtain ⟨h17,h⟩|⟨h17,h⟩:=zI h
 refine zw 27 true ?_
 refine M7 ?_
 refine zU ?_
 obtain ⟨h18,h⟩|⟨h18,h⟩:=zI h
 refine zw 31 true ?_
 refine Mh ?_
 exact M0 h
 refine zw 31 false ?_
 refine M7 ?_
 refine zg ?_
 obtain ⟨h19,h⟩|⟨h19,h⟩:=zI h
 refine zw 34 true ?_
 refine M7 ?_
 refine Mw ?_
 obtain ⟨h20,h⟩|⟨h20,h⟩:=zI h
 refine zw 39 true ?_
 refine zh ?_
 exact M0 h
 replace h:=h.symm
 refine zw 39 false ?_
 refine M7 ?_
 exact M0 h
 replace h:=h.symm
 refine zw 34 false ?_
 refine zh ?_
 refine Mw ?_
 refine M7 ?_
 exact M0 h
 refine zw 27 false ?_
 refine zh ?_
 refine zU ?_
 refine M7 ?_
 refine zg ?_
 obtain ⟨h21,h⟩|⟨h21,h⟩:=zI h
 refine zw 34 true ?_
 refine M7 ?_
 refine Mw ?_
 obtain ⟨h22,h⟩|⟨h22,h⟩:=zI h
 refine zw 39 true ?_
 refine zh ?_
 exact M0 h
 replace h:=h.symm
 refine zw 39 false ?_
 refine M7 ?_
 exact M0 h
 replace h:=h.symm
 refine zw 34 false ?_
 refine zh ?_
 refine Mw ?_
 refine M7 ?_
 exact M0 h
 try simp only at h
 refine zA<|zn<|zs<|zr ?_
 refine zU ?_
 obtain ⟨h23,h⟩|⟨h23,h⟩:=zI h
 refine zw 45 false ?_
 refine zh ?_
 refine Ma ?_
 refine Me ?_
 exact M0 h
 refine zw 45 true ?_
 refine M7 ?_
 refine zg ?_
 obtain ⟨h24,h⟩|⟨h24,h⟩:=zI h
 replace h:=h.symm
 refine zw 48 true ?_
 refine zh ?_
 refine M7 ?_
 refine zh ?_
 refine zg ?_
 refine Ma ?_
 refine M4 ?_
 cases h
 exact ⟨rfl,zT results54⟩
 refine zw 48 false ?_
 refine M7 ?_
 refine M7 ?_
 obtain ⟨h25,h⟩|⟨h25,h⟩:=zI h
 replace h:=h.symm
 refine zw 52 true ?_
 refine zh ?_
 refine zg ?_
 refine Ma ?_
 refine M4 ?_
 cases h
 exact ⟨rfl,zT results54⟩
 refine zw 52 false ?_
 refine M7 ?_
 refine zg ?_
 refine Ma ?_
 obtain ⟨h26,h⟩|⟨h26,h⟩:=zI h
 refine M4 ?_
 cases h
 exact ⟨rfl,zT results54⟩
 refine Me ?_
 exact M0 h
 exact M3 h
 rcases o6 with ⟨⟩ | r27
 try simp only at h
 refine Md ?_
 exact M1 h results54
 exact M8 h
theorem qpx (s1:List (List UInt8)) (v2:List UInt8) (r3:Int) (h:qfc s1 v2=some r3):Con D prog 109 [(.slc (v58 uaq s1)),(.str v2)] (.int .i64 r3):=by
 refine zP call109 func109 rfl ntmps109 fun X w hT=>?_
 simp only [qfc] at h
 refine Ml ?_
 refine M5 ?_
 obtain ⟨o4,h5,h⟩:=zB h
 refine zO (fun (s:Int)=>⟨[(0,.p (.slc (v58 uaq s1))),(1,.p (.str v2)),(7,.p (.int .i64 (s1.length:Int))),(8,.p (.int .i64 s))],[]⟩) (fun (o:(Unit) ⊕ (Int))=>match o with | .inl o6=>tE (cX Tryz.f109 X w D hT) (.exit 0) ⟨[],[]⟩ | .inr o7=>tR prog Tryz.f109 (.int .i64 o7)) h5 ?_ ?_
 clear h h5
 intro t8 x h
 simp only [qcv] at h
 refine M9 ?_
 obtain ⟨h9,h⟩|⟨h9,h⟩:=zI h
 refine Mb ?_
 refine M6 ?_
 obtain ⟨x10,h11,h11a,h11b,h⟩:=zX h
 refine Ma ?_
 obtain ⟨h12,h⟩|⟨h12,h⟩:=zI h
 refine M4 ?_
 cases h
 exact ⟨rfl,zT results109⟩
 refine Me ?_
 exact M0 h
 exact M3 h
 rcases o4 with ⟨⟩ | r13
 try simp only at h
 refine Md ?_
 exact M1 h results109
 exact M8 h
theorem qng (s1:List (List UInt8)) (v2:List UInt8) (r3:Bool) (h:qd2 s1 v2=some r3):Con D prog 55 [(.slc (v58 uaq s1)),(.str v2)] (.bool r3):=by
 refine zP call55 func55 rfl ntmps55 fun X w hT=>?_
 simp only [qd2] at h
 refine Ml ?_
 refine M6 ?_
 refine zU ?_
 obtain ⟨r4,h5,h⟩:=zB h
 refine zc (qpx s1 v2 _ h5) ?_
 exact M1 h results55
theorem qnh (s1:List Value) (f2:Value→Option (Bool)) (f2_k:FuncId) (f2_cs:List PV) (f2_h:∀(y3:Value) (r4:Bool),f2 y3=some r4→Con D prog f2_k ((qaw y3) :: f2_cs) (.bool r4)) (r5:Int) (h:qd3 s1 f2=some r5):Con D prog 182 [(.slc (v58 qaw s1)),.func (.func f2_k) f2_cs] (.int .i64 r5):=by
 refine zP call182 func182 rfl ntmps182 fun X w hT=>?_
 simp only [qd3] at h
 refine Ml ?_
 refine M5 ?_
 obtain ⟨o6,h7,h⟩:=zB h
 refine zO (fun (s:Int)=>⟨[(0,.p (.slc (v58 qaw s1))),(1,.p (.func (.func f2_k) f2_cs)),(7,.p (.int .i64 (s1.length:Int))),(8,.p (.int .i64 s))],[]⟩) (fun (o:(Unit) ⊕ (Int))=>match o with | .inl o8=>tE (cX Tryz.f182 X w D hT) (.exit 0) ⟨[],[]⟩ | .inr o9=>tR prog Tryz.f182 (.int .i64 o9)) h7 ?_ ?_
 clear h h7
 intro t10 x h
 simp only [qb1] at h
 refine M9 ?_
 obtain ⟨h11,h⟩|⟨h11,h⟩:=zI h
 refine Mb ?_
 refine M6 ?_
 obtain ⟨x12,h13,h13a,h13b,h⟩:=zX h
 refine zU ?_
 obtain ⟨r14,h15,h⟩:=zB h
 refine zc (f2_h x12 _ h15) ?_
 refine zl<|zn ?_
 obtain ⟨h16,h⟩|⟨h16,h⟩:=zI h
 refine M4 ?_
 cases h
 exact ⟨rfl,zT results182⟩
 refine Me ?_
 exact M0 h
 exact M3 h
 rcases o6 with ⟨⟩ | r17
 try simp only at h
 refine Md ?_
 exact M1 h results182
 exact M8 h
theorem qln (s1:List Value) (f2:Value→Option (Bool)) (f2_k:FuncId) (f2_cs:List PV) (f2_h:∀(y3:Value) (r4:Bool),f2 y3=some r4→Con D prog f2_k ((qaw y3) :: f2_cs) (.bool r4)) (r5:Bool) (h:qc6 s1 f2=some r5):Con D prog 110 [(.slc (v58 qaw s1)),.func (.func f2_k) f2_cs] (.bool r5):=by
 refine zP call110 func110 rfl ntmps110 fun X w hT=>?_
 simp only [qc6] at h
 refine Ml ?_
 refine M6 ?_
 refine zU ?_
 obtain ⟨r6,h7,h⟩:=zB h
 refine zc (qnh s1 f2 f2_k f2_cs f2_h _ h7) ?_
 exact M1 h results110
theorem qkg (v1:Value) (r2:Bool) (h:qh7 v1=some r2):Con D prog 112 [(qaw v1)] (.bool r2):=by
 refine zP call112 func112 rfl ntmps112 fun X w hT=>?_
 simp only [qh7] at h
 refine Ml ?_
 refine Mc ?_
 refine Tb ?_
 refine Ma ?_
 obtain ⟨h3,h⟩|⟨h3,h⟩:=zI h
 refine Mr ?_
 obtain ⟨h4,h⟩|⟨h4,h⟩:=zI h
 replace h:=h.symm
 refine zw 10 true ?_
 refine M7 ?_
 refine zg ?_
 exact Mn h results112
 refine zw 10 false ?_
 refine zh ?_
 exact Mn h results112
 refine Mx ?_
 refine Ma ?_
 obtain ⟨h5,h⟩|⟨h5,h⟩:=zI h
 refine M4 ?_
 exact T0 h results112
 refine Mx ?_
 refine Ma ?_
 obtain ⟨h6,h⟩|⟨h6,h⟩:=zI h
 refine Mr ?_
 obtain ⟨h7,h⟩|⟨h7,h⟩:=zI h
 replace h:=h.symm
 refine zw 25 true ?_
 refine M7 ?_
 refine M7 ?_
 exact Mn h results112
 refine zw 25 false ?_
 refine zh ?_
 exact Mn h results112
 refine Mx ?_
 refine Ma ?_
 obtain ⟨h8,h⟩|⟨h8,h⟩:=zI h
 refine Mr ?_
 obtain ⟨h9,h⟩|⟨h9,h⟩:=zI h
 replace h:=h.symm
 refine zw 36 true ?_
 refine M7 ?_
 refine zg ?_
 exact Mn h results112
 refine zw 36 false ?_
 refine zh ?_
 exact Mn h results112
 refine T4 ?_
 exact M1 h results112
theorem qpy (v1:Value) (r2:Bool) (h:qd7 v1=some r2):Con D prog 111 [(qaw v1)] (.bool r2):=by
 refine zP call111 func111 rfl ntmps111 fun X w hT=>?_
 simp only [qd7] at h
 refine Ml ?_
 refine M6 ?_
 refine zU ?_
 obtain ⟨r3,h4,h⟩:=zB h
 refine zc (qkg v1 _ h4) ?_
 exact M1 h results111
theorem qrl (l1:List Value) (r2:Bool) (h:qgn l1=some r2):Con D prog 56 [(.slc (v58 qaw l1))] (.bool r2):=by
 refine zP call56 func56 rfl ntmps56 fun X w hT=>?_
 simp only [qgn] at h
 refine Ml ?_
 refine M6 ?_
 refine zU ?_
 obtain ⟨r3,h4,h⟩:=zB h
 refine zc (qln l1 (fun (y5:Value)=>qd7 y5) 111 [] (fun y5 r h=>qpy y5 r h) _ h4) ?_
 exact M1 h results56
theorem qfh (t1:Table) (r2:Int) (h:qfd t1=some r2):Con D prog 23 [(qaa t1)] (.int .i64 r2):=by
 refine zP call23 func23 rfl ntmps23 fun X w hT=>?_
 simp only [qfd] at h
 refine Ml ?_
 refine Mc ?_
 refine zU ?_
 obtain ⟨r3,h4,h⟩:=zB h
 refine zc (qp9 t1.Name _ h4) ?_
 refine Ma ?_
 obtain ⟨h5,h⟩|⟨h5,h⟩:=zI h
 refine Mj ?_
 refine zU ?_
 obtain ⟨h6,h⟩|⟨h6,h⟩:=zI h
 refine zw 16 true ?_
 refine zh ?_
 refine Ma ?_
 exact M2 h results23
 refine zw 16 false ?_
 refine M7 ?_
 refine M7 ?_
 refine Ma ?_
 obtain ⟨h7,h⟩|⟨h7,h⟩:=zI h
 exact M2 h results23
 refine Mj ?_
 refine Mq ?_
 obtain ⟨o8,h9,h⟩:=zB h
 refine zO (fun (s:Int)=>⟨[(1,.loc 1 1 0 0),(23,.p (.slc (v58 uaq t1.Attrs))),(24,.p (.int .i64 (t1.Attrs.length:Int))),(25,.p (.int .i64 s))],[(1,.arr 29 3 1 [.p (qaa t1)])]⟩) (fun (o:(Unit) ⊕ (Int))=>match o with | .inl o10=>tE (cX Tryz.f23 X w D hT) (.exit 0) ⟨[(1,.loc 1 1 0 0)],[(1,.arr 29 3 1 [.p (qaa t1)])]⟩ | .inr o11=>tR prog Tryz.f23 (.int .i64 o11)) h9 ?_ ?_
 clear h h4 h5 h6 h7 h9
 intro t12 x h
 simp only [qhn] at h
 refine M9 ?_
 obtain ⟨h13,h⟩|⟨h13,h⟩:=zI h
 refine Mb ?_
 obtain ⟨x14,h15,h15a,h15b,h⟩:=zX h
 refine M6 ?_
 refine zU ?_
 obtain ⟨r16,h17,h⟩:=zB h
 refine zc (qp9 x14 _ h17) ?_
 refine zU ?_
 obtain ⟨h18,h⟩|⟨h18,h⟩:=zI h
 refine zw 33 false ?_
 refine M7 ?_
 refine zg ?_
 obtain ⟨h19,h⟩:=qae h
 obtain ⟨h20,h⟩:=qae h
 refine M7 ?_
 obtain ⟨r21,h22,h⟩:=zB h
 refine zc (qng (t1.Attrs.take (t12.toNat)) x14 _ h22) ?_
 refine Ma ?_
 obtain ⟨h23,h⟩|⟨h23,h⟩:=zI h
 refine M4 ?_
 cases h
 exact ⟨rfl,zT results23⟩
 refine Me ?_
 exact M0 h
 refine zw 33 true ?_
 refine zh ?_
 refine Ma ?_
 refine M4 ?_
 cases h
 exact ⟨rfl,zT results23⟩
 exact M3 h
 rcases o8 with ⟨⟩ | r24
 try simp only at h
 refine Md ?_
 refine M5 ?_
 obtain ⟨o25,h26,h⟩:=zB h
 refine zO (fun (s:Int×Int)=>⟨[(1,.loc 1 1 0 0),(5,.p (.int .i64 s.1)),(43,.p (.slc (v58 qag t1.Rows))),(44,.p (.int .i64 (t1.Rows.length:Int))),(45,.p (.int .i64 s.2))],[(1,.arr 29 3 1 [.p (qaa t1)])]⟩) (fun (o:(Unit) ⊕ (Int))=>match o with | .inl o27=>tE (cX Tryz.f23 X w D hT) (.exit 2) ⟨[],[]⟩ | .inr o28=>tR prog Tryz.f23 (.int .i64 o28)) h26 ?_ ?_
 clear h h4 h5 h6 h7 h9 h26
 intro s x h
 obtain ⟨l29,t30⟩:=s
 simp only [qi1] at h
 dsimp only
 refine M9 ?_
 obtain ⟨h31,h⟩|⟨h31,h⟩:=zI h
 refine Mb ?_
 obtain ⟨x32,h33,h33a,h33b,h⟩:=zX h
 refine zU<|zl<|zn<|zs<|zb<|zs<|zr ?_
 refine Ma ?_
 obtain ⟨h34,h⟩|⟨h34,h⟩:=zI h
 refine T5 ?_
 refine zU<|zl<|zn<|zq<|yr<|zt<|yr<|zt ?_
 cases h
 exact ⟨rfl,zT results23⟩
 refine Mx ?_
 refine Ma ?_
 obtain ⟨h35,h⟩|⟨h35,h⟩:=zI h
 refine T5 ?_
 refine zU<|zl<|zn<|zq<|yr<|zt<|yr<|zt ?_
 cases h
 exact ⟨rfl,zT results23⟩
 refine Mx ?_
 refine zU ?_
 obtain ⟨r36,h37,h⟩:=zB h
 refine zc (qrl x32.Values _ h37) ?_
 refine Ma ?_
 obtain ⟨h38,h⟩|⟨h38,h⟩:=zI h
 refine Me ?_
 refine Mk ?_
 exact M0 h
 refine T5 ?_
 refine zU<|zl<|zn<|zq<|yr<|zt<|yr<|zt ?_
 cases h
 exact ⟨rfl,zT results23⟩
 exact M3 h
 rcases o25 with ⟨⟩ | r39
 try simp only at h
 refine Md ?_
 exact M1 h results23
 exact M8 h
 exact M8 h
 exact M2 h results23
theorem qwe (n1:Int) (f2:List FD) (r3:Int) (h:qj3 n1 f2=some r3):Con D prog 91 [(.int .i64 n1),(.slc (v58 qsg f2))] (.int .i64 r3):=by
 refine zP call91 func91 rfl ntmps91 fun X w hT=>?_
 simp only [qj3] at h
 refine Ml ?_
 refine Mc ?_
 refine zU ?_
 obtain ⟨h4,h⟩|⟨h4,h⟩:=zI h
 refine zw 9 true ?_
 refine zh ?_
 refine Ma ?_
 exact M2 h results91
 refine zw 9 false ?_
 refine M7 ?_
 refine Ma ?_
 obtain ⟨h5,h⟩|⟨h5,h⟩:=zI h
 exact M2 h results91
 refine Mj ?_
 refine Ma ?_
 obtain ⟨h6,h⟩|⟨h6,h⟩:=zI h
 exact M2 h results91
 refine Mj ?_
 refine Mq ?_
 obtain ⟨o7,h8,h⟩:=zB h
 refine zO (fun (s:Int)=>⟨[(0,.p (.int .i64 n1)),(16,.p (.slc (v58 qsg f2))),(17,.p (.int .i64 (f2.length:Int))),(18,.p (.int .i64 s))],[]⟩) (fun (o:(Unit) ⊕ (Int))=>match o with | .inl o9=>tE (cX Tryz.f91 X w D hT) (.exit 0) ⟨[],[]⟩ | .inr o10=>tR prog Tryz.f91 (.int .i64 o10)) h8 ?_ ?_
 clear h h4 h5 h6 h8
 intro t11 x h
 simp only [qfm] at h
 refine M9 ?_
 obtain ⟨h12,h⟩|⟨h12,h⟩:=zI h
 refine Mb ?_
 obtain ⟨x13,h14,h14a,h14b,h⟩:=zX h
 refine M6 ?_
 obtain ⟨h15,h⟩:=qdm h
 refine Ma ?_
 obtain ⟨h16,h⟩|⟨h16,h⟩:=zI h
 refine M4 ?_
 cases h
 exact ⟨rfl,zT results91⟩
 refine Me ?_
 exact M0 h
 exact M3 h
 rcases o7 with ⟨⟩ | r17
 try simp only at h
 refine Md ?_
 exact M1 h results91
 exact M8 h
theorem qjl (s1:Int) (r2:List Int) (h:qfe s1=some r2):Con D prog 113 [(.int .u32 s1)] (.slc (v58 (uap .i64) r2)):=by
 refine zP call113 func113 rfl ntmps113 fun X w hT=>?_
 simp only [qfe] at h
 refine Ml ?_
 refine M6 ?_
 refine zU<|zl<|zn<|zs<|zb ?_
 obtain ⟨o3,h4,h⟩:=zB h
 refine zO (fun (s:Int×List Int)=>⟨[(0,.p (.int .u32 s.1)),(3,.own 14 1 0 s.2.length)],[(14,.arr 3 1 1 (v58 AV.p (v58 (uap .i64) s.2)))]⟩) (fun (o5:List Int)=>tE (cX Tryz.f113 X w D hT) (.exit 0) ⟨[(3,.own 14 1 0 o5.length)],[(14,.arr 3 1 1 (v58 AV.p (v58 (uap .i64) o5)))]⟩) h4 ?_ ?_
 clear h h4
 intro s x h
 obtain ⟨s6,o7⟩:=s
 simp only [qf1] at h
 refine Mt ?_
 refine Ma ?_
 obtain ⟨h8,h⟩|⟨h8,h⟩:=zI h
 refine Tf ?_
 refine zU ?_
 obtain ⟨r9,h10,h⟩:=zB h
 refine zc (qjt s6 _ h10) ?_
 obtain ⟨h11,h⟩:=qae h
 refine Mk ?_
 exact M0 h
 exact M3 h
 try simp only at h
 refine Md ?_
 exact M1 h results113
theorem qu9 (v1:Int) (a2:Int) (r3:Term) (h:qum v1 a2=some r3):Con D prog 184 [(.int .i64 v1),(.int .i64 a2)] (qoa r3):=by
 refine zP call184 func184 rfl ntmps184 fun X w hT=>?_
 simp only [qum] at h
 refine Ml ?_
 refine M6 ?_
 exact M1 h results184
theorem qrm (o1:Int) (a2:Int) (r3:Atom) (h:qmr o1 a2=some r3):Con D prog 114 [(.int .i64 o1),(.int .i64 a2)] (qcu r3):=by
 refine zP call114 func114 rfl ntmps114 fun X w hT=>?_
 simp only [qmr] at h
 refine Ml ?_
 refine M6 ?_
 refine zU ?_
 obtain ⟨r4,h5,h⟩:=zB h
 refine zc (qu9 1 a2 _ h5) ?_
 refine zU ?_
 obtain ⟨r6,h7,h⟩:=zB h
 refine zc (qu9 2 a2 _ h7) ?_
 exact M1 h results114
theorem qwf (n1:Int) (f2:FD) (r3:List Denial×Int) (h:qj4 n1 f2=some r3):Con D prog 57 [(.int .i64 n1),(qsg f2)] (.tup [(.slc (v58 qad r3.1)),(.int .i64 r3.2)]):=by
 refine zP call57 func57 rfl ntmps57 fun X w hT=>?_
 simp only [qj4] at h
 refine Ml ?_
 refine Mc ?_
 refine zU ?_
 obtain ⟨r4,h5,h⟩:=zB h
 refine zc (qwe n1 [f2] _ h5) ?_
 refine M6 ?_
 refine Ma ?_
 obtain ⟨h6,h⟩|⟨h6,h⟩:=zI h
 exact M2 h results57
 refine Mi ?_
 refine Mc ?_
 refine zU ?_
 obtain ⟨r7,h8,h⟩:=zB h
 refine zc (qjl (IntKind.u32.wrap ((BitVec.ofInt 32 f2.Rhs &&& ~~~ (BitVec.ofInt 32 f2.Lhs)).toNat:Int)) _ h8) ?_
 refine Mq ?_
 obtain ⟨o9,h10,h⟩:=zB h
 refine zO (fun (s:List Denial×Int)=>⟨[(3,.loc 3 1 0 0),(7,.own 58 1 0 s.1.length),(25,.p (.slc (v58 (uap .i64) r7))),(26,.p (.int .i64 (r7.length:Int))),(27,.p (.int .i64 s.2))],[(3,.arr 62 2 1 [.p (qsg f2)]),(58,.arr 74 2 1 (v58 AV.p (v58 qad s.1)))]⟩) (fun (o11:List Denial)=>tE (cX Tryz.f57 X w D hT) (.exit 0) ⟨[(7,.own 58 1 0 o11.length)],[(58,.arr 74 2 1 (v58 AV.p (v58 qad o11)))]⟩) h10 ?_ ?_
 clear h h5 h6 h8 h10
 intro s x h
 obtain ⟨o12,t13⟩:=s
 simp only [qhh] at h
 dsimp only
 refine M9 ?_
 obtain ⟨h14,h⟩|⟨h14,h⟩:=zI h
 refine Mb ?_
 obtain ⟨x15,h16,h16a,h16b,h⟩:=zX h
 refine M6 ?_
 refine Mc ?_
 refine zU ?_
 obtain ⟨r17,h18,h⟩:=zB h
 refine zc (qjl f2.Lhs _ h18) ?_
 refine Mq ?_
 obtain ⟨d19,h20,h⟩:=zB h
 refine zO (fun (s:List Atom×Int)=>⟨[(3,.loc 3 1 0 0),(7,.own 58 1 0 o12.length),(9,.p (.int .i64 x15)),(10,.loc 10 1 0 0),(25,.p (.slc (v58 (uap .i64) r7))),(26,.p (.int .i64 (r7.length:Int))),(27,.p (.int .i64 t13)),(34,.p (.slc (v58 (uap .i64) r17))),(35,.p (.int .i64 (r17.length:Int))),(36,.p (.int .i64 s.2))],[(3,.arr 62 2 1 [.p (qsg f2)]),(10,.arr 74 2 1 [.agg [.p (.int .i64 2),.own 45 1 0 s.1.length]]),(45,.arr 208 11 1 (v58 AV.p (v58 qcu s.1))),(58,.arr 74 2 1 (v58 AV.p (v58 qad o12)))]⟩) (fun (o21:List Atom)=>tE (cX Tryz.f57 X w D hT) (.exit 2) ⟨[(3,.loc 3 1 0 0),(7,.own 58 1 0 o12.length),(9,.p (.int .i64 x15)),(10,.loc 10 1 0 0),(25,.p (.slc (v58 (uap .i64) r7))),(26,.p (.int .i64 (r7.length:Int))),(27,.p (.int .i64 t13))],[(3,.arr 62 2 1 [.p (qsg f2)]),(10,.arr 74 2 1 [.agg [.p (.int .i64 2),.own 45 1 0 o21.length]]),(45,.arr 208 11 1 (v58 AV.p (v58 qcu o21))),(58,.arr 74 2 1 (v58 AV.p (v58 qad o12)))]⟩) h20 ?_ ?_
 clear h h14 h16 h16a h16b h18 h20
 intro s x h
 obtain ⟨d22,t23⟩:=s
 simp only [qfn] at h
 dsimp only
 refine M9 ?_
 obtain ⟨h24,h⟩|⟨h24,h⟩:=zI h
 refine Mb ?_
 obtain ⟨x25,h26,h26a,h26b,h⟩:=zX h
 refine Tg ?_
 obtain ⟨r27,h28,h⟩:=zB h
 refine yc (qrm 1 x25 _ h28) ?_
 obtain ⟨h29,h⟩:=qae h
 refine T3 ?_
 exact M0 h
 exact M3 h
 try simp only at h
 refine zA<|yh<|zn<|zs<|zd ?_
 refine yU ?_
 obtain ⟨r30,h31,h⟩:=zB h
 refine yc (qrm 2 x15 _ h31) ?_
 obtain ⟨h32,h⟩:=qae h
 refine yU ?_
 refine yd<|zn<|zr ?_
 refine zW 3 ?_
 refine zM ⟨[(3,.loc 3 1 0 0),(25,.p (.slc (v58 (uap .i64) r7))),(26,.p (.int .i64 (r7.length:Int))),(27,.p (.int .i64 t13)),(55,.own 58 1 0 o12.length),(57,.own 57 1 0 1)],[(3,.arr 62 2 1 [.p (qsg f2)]),(57,.arr 74 2 1 [.p (.agg [.int .i64 2,.slc (v58 qcu (d19++[r30]))])]),(58,.arr 74 2 1 (v58 AV.p (v58 qad o12)))]⟩ ?_
 obtain ⟨h33,h⟩:=qae h
 refine Mk ?_
 exact M0 h
 exact M3 h
 try simp only at h
 refine Md ?_
 exact M1 h results57
theorem qoc (s1:List Atom) (f2:Atom→Option (Bool)) (f2_k:FuncId) (f2_cs:List PV) (f2_h:∀(y3:Atom) (r4:Bool),f2 y3=some r4→Con D prog f2_k ((qcu y3) :: f2_cs) (.bool r4)) (r5:Int) (h:qeh s1 f2=some r5):Con D prog 185 [(.slc (v58 qcu s1)),.func (.func f2_k) f2_cs] (.int .i64 r5):=by
 refine zP call185 func185 rfl ntmps185 fun X w hT=>?_
 simp only [qeh] at h
 refine Ml ?_
 refine M5 ?_
 obtain ⟨o6,h7,h⟩:=zB h
 refine zO (fun (s:Int)=>⟨[(0,.p (.slc (v58 qcu s1))),(1,.p (.func (.func f2_k) f2_cs)),(7,.p (.int .i64 (s1.length:Int))),(8,.p (.int .i64 s))],[]⟩) (fun (o:(Unit) ⊕ (Int))=>match o with | .inl o8=>tE (cX Tryz.f185 X w D hT) (.exit 0) ⟨[],[]⟩ | .inr o9=>tR prog Tryz.f185 (.int .i64 o9)) h7 ?_ ?_
 clear h h7
 intro t10 x h
 simp only [qca] at h
 refine M9 ?_
 obtain ⟨h11,h⟩|⟨h11,h⟩:=zI h
 refine Mb ?_
 refine M6 ?_
 obtain ⟨x12,h13,h13a,h13b,h⟩:=zX h
 refine zU ?_
 obtain ⟨r14,h15,h⟩:=zB h
 refine zc (f2_h x12 _ h15) ?_
 refine zl<|zn ?_
 obtain ⟨h16,h⟩|⟨h16,h⟩:=zI h
 refine M4 ?_
 cases h
 exact ⟨rfl,zT results185⟩
 refine Me ?_
 exact M0 h
 exact M3 h
 rcases o6 with ⟨⟩ | r17
 try simp only at h
 refine Md ?_
 exact M1 h results185
 exact M8 h
theorem qma (s1:List Atom) (f2:Atom→Option (Bool)) (f2_k:FuncId) (f2_cs:List PV) (f2_h:∀(y3:Atom) (r4:Bool),f2 y3=some r4→Con D prog f2_k ((qcu y3) :: f2_cs) (.bool r4)) (r5:Bool) (h:qdg s1 f2=some r5):Con D prog 115 [(.slc (v58 qcu s1)),.func (.func f2_k) f2_cs] (.bool r5):=by
 refine zP call115 func115 rfl ntmps115 fun X w hT=>?_
 simp only [qdg] at h
 refine Ml ?_
 refine M6 ?_
 refine zU ?_
 obtain ⟨r6,h7,h⟩:=zB h
 refine zc (qoc s1 f2 f2_k f2_cs f2_h _ h7) ?_
 exact M1 h results115
theorem qlx (n1:Int) (v2:Int) (t3:Term) (r4:Bool) (h:qfo n1 v2 t3=some r4):Con D prog 117 [(.int .i64 n1),(.int .i64 v2),(qoa t3)] (.bool r4):=by
 refine zP call117 func117 rfl ntmps117 fun X w hT=>?_
 simp only [qfo] at h
 refine Ml ?_
 refine Mc ?_
 refine Ma ?_
 obtain ⟨h5,h⟩|⟨h5,h⟩:=zI h
 refine Mr ?_
 obtain ⟨h6,h⟩|⟨h6,h⟩:=zI h
 refine zw 13 true ?_
 refine M7 ?_
 obtain ⟨r7,h8,h⟩:=zB h
 refine zc (qkg t3.Value _ h8) ?_
 refine Mm ?_
 exact T0 h results117
 refine zw 13 false ?_
 refine zh ?_
 refine Mm ?_
 exact T0 h results117
 refine Mi ?_
 refine zU ?_
 obtain ⟨h9,h⟩|⟨h9,h⟩:=zI h
 refine zw 21 true ?_
 refine M7 ?_
 refine M7 ?_
 refine zU ?_
 obtain ⟨h10,h⟩|⟨h10,h⟩:=zI h
 refine zw 27 true ?_
 refine M7 ?_
 refine Mw ?_
 obtain ⟨h11,h⟩|⟨h11,h⟩:=zI h
 refine zw 32 true ?_
 refine M7 ?_
 refine M7 ?_
 refine zU ?_
 obtain ⟨h12,h⟩|⟨h12,h⟩:=zI h
 replace h:=h.symm
 refine zw 38 true ?_
 refine M7 ?_
 refine M7 ?_
 exact M1 h results117
 refine zw 38 false ?_
 refine zh ?_
 exact M1 h results117
 refine zw 32 false ?_
 refine Mh ?_
 exact M1 h results117
 refine zw 27 false ?_
 refine Mh ?_
 refine zU ?_
 refine zh ?_
 exact M1 h results117
 refine zw 21 false ?_
 refine Mh ?_
 refine zU ?_
 refine Mh ?_
 exact M1 h results117
theorem qva (a1:Atom) (c2:Int) (c3:Denial) (r4:Bool) (h:qho a1 c2 c3=some r4):Con D prog 116 [(qcu a1),.imm [.int .i64 c2],.imm [.int .i64 c3.Vars,.slc (v58 qcu c3.Atoms)]] (.bool r4):=by
 refine zP call116 func116 rfl ntmps116 fun X w hT=>?_
 simp only [qho] at h
 refine Ml ?_
 refine M6 ?_
 refine zU ?_
 obtain ⟨h5,h⟩|⟨h5,h⟩:=zI h
 refine zw 8 true ?_
 refine Mh ?_
 refine zU ?_
 refine zh ?_
 exact M1 h results116
 refine zw 8 false ?_
 refine M7 ?_
 refine Mw ?_
 obtain ⟨h6,h⟩|⟨h6,h⟩:=zI h
 refine zw 13 true ?_
 refine Mh ?_
 exact M1 h results116
 refine zw 13 false ?_
 refine M7 ?_
 refine M7 ?_
 refine zg ?_
 obtain ⟨r7,h8,h⟩:=zB h
 refine zc (qlx c2 c3.Vars a1.Left _ h8) ?_
 refine Mw ?_
 obtain ⟨h9,h⟩|⟨h9,h⟩:=zI h
 refine zw 22 false ?_
 refine M7 ?_
 refine M7 ?_
 refine zg ?_
 obtain ⟨r10,h11,h⟩:=zB h
 replace h:=h.symm
 refine zc (qlx c2 c3.Vars a1.Right _ h11) ?_
 refine zg ?_
 exact M1 h results116
 refine zw 22 true ?_
 refine zh ?_
 exact M1 h results116
theorem qlo (n1:Int) (d2:Denial) (r3:Bool) (h:qh8 n1 d2=some r3):Con D prog 58 [(.int .i64 n1),(qad d2)] (.bool r3):=by
 refine zP call58 func58 rfl ntmps58 fun X w hT=>?_
 simp only [qh8] at h
 refine Ml ?_
 refine Mc ?_
 refine zU ?_
 obtain ⟨h4,h⟩|⟨h4,h⟩:=zI h
 refine zw 8 true ?_
 refine Mh ?_
 refine Ma ?_
 exact M2 h results58
 refine zw 8 false ?_
 refine M7 ?_
 refine Mw ?_
 obtain ⟨h5,h⟩|⟨h5,h⟩:=zI h
 refine zw 13 true ?_
 refine zh ?_
 refine Ma ?_
 exact M2 h results58
 refine zw 13 false ?_
 refine M7 ?_
 refine M7 ?_
 refine Ma ?_
 obtain ⟨h6,h⟩|⟨h6,h⟩:=zI h
 exact M2 h results58
 refine Mi ?_
 refine zU ?_
 obtain ⟨r7,h8,h⟩:=zB h
 refine zc (qma d2.Atoms (fun (y9:Atom)=>qho y9 n1 d2) 116 [.imm [.int .i64 n1],.imm [.int .i64 d2.Vars,.slc (v58 qcu d2.Atoms)]] (fun y9 r h=>qva y9 n1 d2 r h) _ h8) ?_
 exact M1 h results58
theorem qod (s1:List Cell) (f2:Cell→Option (Bool)) (f2_k:FuncId) (f2_cs:List PV) (f2_h:∀(y3:Cell) (r4:Bool),f2 y3=some r4→Con D prog f2_k ((qd1 y3) :: f2_cs) (.bool r4)) (r5:Int) (h:qei s1 f2=some r5):Con D prog 186 [(.slc (v58 qd1 s1)),.func (.func f2_k) f2_cs] (.int .i64 r5):=by
 refine zP call186 func186 rfl ntmps186 fun X w hT=>?_
 simp only [qei] at h
 refine Ml ?_
 refine M5 ?_
 obtain ⟨o6,h7,h⟩:=zB h
 refine zO (fun (s:Int)=>⟨[(0,.p (.slc (v58 qd1 s1))),(1,.p (.func (.func f2_k) f2_cs)),(7,.p (.int .i64 (s1.length:Int))),(8,.p (.int .i64 s))],[]⟩) (fun (o:(Unit) ⊕ (Int))=>match o with | .inl o8=>tE (cX Tryz.f186 X w D hT) (.exit 0) ⟨[],[]⟩ | .inr o9=>tR prog Tryz.f186 (.int .i64 o9)) h7 ?_ ?_
 clear h h7
 intro t10 x h
 simp only [qcb] at h
 refine M9 ?_
 obtain ⟨h11,h⟩|⟨h11,h⟩:=zI h
 refine Mb ?_
 refine M6 ?_
 obtain ⟨x12,h13,h13a,h13b,h⟩:=zX h
 refine zU ?_
 obtain ⟨r14,h15,h⟩:=zB h
 refine zc (f2_h x12 _ h15) ?_
 refine zl<|zn ?_
 obtain ⟨h16,h⟩|⟨h16,h⟩:=zI h
 refine M4 ?_
 cases h
 exact ⟨rfl,zT results186⟩
 refine Me ?_
 exact M0 h
 exact M3 h
 rcases o6 with ⟨⟩ | r17
 try simp only at h
 refine Md ?_
 exact M1 h results186
 exact M8 h
theorem qmb (s1:List Cell) (f2:Cell→Option (Bool)) (f2_k:FuncId) (f2_cs:List PV) (f2_h:∀(y3:Cell) (r4:Bool),f2 y3=some r4→Con D prog f2_k ((qd1 y3) :: f2_cs) (.bool r4)) (r5:Bool) (h:qdh s1 f2=some r5):Con D prog 118 [(.slc (v58 qd1 s1)),.func (.func f2_k) f2_cs] (.bool r5):=by
 refine zP call118 func118 rfl ntmps118 fun X w hT=>?_
 simp only [qdh] at h
 refine Ml ?_
 refine M6 ?_
 refine zU ?_
 obtain ⟨r6,h7,h⟩:=zB h
 refine zc (qod s1 f2 f2_k f2_cs f2_h _ h7) ?_
 exact M1 h results118
theorem qpz (p1:Cell) (r2:Bool) (h:qd8 p1=some r2):Con D prog 119 [(qd1 p1)] (.bool r2):=by
 refine zP call119 func119 rfl ntmps119 fun X w hT=>?_
 simp only [qd8] at h
 refine Ml ?_
 refine M6 ?_
 refine zU ?_
 obtain ⟨h3,h⟩|⟨h3,h⟩:=zI h
 refine zw 5 true ?_
 refine M7 ?_
 refine M7 ?_
 refine zU ?_
 obtain ⟨h4,h⟩|⟨h4,h⟩:=zI h
 replace h:=h.symm
 refine zw 11 false ?_
 refine M7 ?_
 refine M7 ?_
 refine zw 15 false ?_
 refine zh ?_
 refine zg ?_
 exact M1 h results119
 refine zw 11 true ?_
 refine zh ?_
 exact M1 h results119
 refine zw 5 false ?_
 refine zh ?_
 refine zU ?_
 refine M7 ?_
 refine M7 ?_
 refine zw 15 true ?_
 refine M7 ?_
 obtain ⟨r5,h6,h⟩:=zB h
 replace h:=h.symm
 refine zc (qkg p1.Value _ h6) ?_
 refine M7 ?_
 exact M1 h results119
theorem qik (n1:Int) (c2:CFD) (r3:Bool) (h:qd9 n1 c2=some r3):Con D prog 59 [(.int .i64 n1),(qg2 c2)] (.bool r3):=by
 refine zP call59 func59 rfl ntmps59 fun X w hT=>?_
 simp only [qd9] at h
 refine Ml ?_
 refine Mc ?_
 refine zU ?_
 obtain ⟨h4,h⟩|⟨h4,h⟩:=zI h
 refine zw 10 true ?_
 refine Mh ?_
 refine zU ?_
 refine Mh ?_
 refine Ma ?_
 exact M2 h results59
 refine zw 10 false ?_
 refine M7 ?_
 refine zU ?_
 obtain ⟨h5,h⟩|⟨h5,h⟩:=zI h
 refine zw 14 true ?_
 refine Mh ?_
 refine zU ?_
 refine zh ?_
 refine Ma ?_
 exact M2 h results59
 refine zw 14 false ?_
 refine M7 ?_
 refine Mw ?_
 obtain ⟨h6,h⟩|⟨h6,h⟩:=zI h
 refine zw 19 true ?_
 refine Mh ?_
 refine Ma ?_
 exact M2 h results59
 refine zw 19 false ?_
 refine M7 ?_
 refine M7 ?_
 refine zU ?_
 obtain ⟨h7,h⟩|⟨h7,h⟩:=zI h
 refine zw 25 true ?_
 refine zh ?_
 refine Ma ?_
 exact M2 h results59
 refine zw 25 false ?_
 iterate 4 refine M7 ?_
 refine Ma ?_
 obtain ⟨h8,h⟩|⟨h8,h⟩:=zI h
 exact M2 h results59
 refine Mi ?_
 refine M5 ?_
 obtain ⟨o9,h10,h⟩:=zB h
 refine zO (fun (s:Int×Int)=>⟨[(0,.p (.int .i64 n1)),(3,.loc 3 1 0 0),(5,.p (.int .i64 s.1)),(36,.p (.slc (v58 (uap .i64) c2.Lhs))),(37,.p (.int .i64 (c2.Lhs.length:Int))),(38,.p (.int .i64 s.2))],[(3,.arr 69 3 1 [.p (qg2 c2)])]⟩) (fun (o:(Unit) ⊕ (Bool))=>match o with | .inl o11=>tE (cX Tryz.f59 X w D hT) (.exit 0) ⟨[(3,.loc 3 1 0 0)],[(3,.arr 69 3 1 [.p (qg2 c2)])]⟩ | .inr o12=>tR prog Tryz.f59 (.bool o12)) h10 ?_ ?_
 clear h h4 h5 h6 h7 h8 h10
 intro s x h
 obtain ⟨b13,t14⟩:=s
 simp only [qbl] at h
 dsimp only
 refine M9 ?_
 obtain ⟨h15,h⟩|⟨h15,h⟩:=zI h
 refine Mb ?_
 obtain ⟨x16,h17,h17a,h17b,h⟩:=zX h
 refine Mc ?_
 refine zU ?_
 obtain ⟨h18,h⟩|⟨h18,h⟩:=zI h
 refine zw 45 true ?_
 refine Mh ?_
 refine Ma ?_
 refine Mg ?_
 cases h
 exact ⟨rfl,zT results59⟩
 refine zw 45 false ?_
 refine M7 ?_
 refine Mw ?_
 obtain ⟨h19,h⟩|⟨h19,h⟩:=zI h
 refine zw 50 true ?_
 refine zh ?_
 refine Ma ?_
 refine Mg ?_
 cases h
 exact ⟨rfl,zT results59⟩
 refine zw 50 false ?_
 refine M7 ?_
 refine M7 ?_
 refine Ma ?_
 obtain ⟨h20,h⟩|⟨h20,h⟩:=zI h
 refine Mg ?_
 cases h
 exact ⟨rfl,zT results59⟩
 refine zj<|zk<|zn<|zr ?_
 refine Mk ?_
 exact M0 h
 exact M3 h
 rcases o9 with ⟨⟩ | r21
 try simp only at h
 refine Md ?_
 refine zU ?_
 obtain ⟨r22,h23,h⟩:=zB h
 refine zc (qmb c2.Pattern (fun (y24:Cell)=>qd8 y24) 119 [] (fun y24 r h=>qpz y24 r h) _ h23) ?_
 exact M1 h results59
 exact M8 h
theorem qo5 (s1:List Int) (f2:Int→Option (Bool)) (f2_k:FuncId) (f2_cs:List PV) (f2_h:∀(y3:Int) (r4:Bool),f2 y3=some r4→Con D prog f2_k ((.int .i64 y3) :: f2_cs) (.bool r4)) (r5:Int) (h:qet s1 f2=some r5):Con D prog 216 [(.slc (v58 (uap .i64) s1)),.func (.func f2_k) f2_cs] (.int .i64 r5):=by
 refine zP call216 func216 rfl ntmps216 fun X w hT=>?_
 simp only [qet] at h
 refine Ml ?_
 refine M5 ?_
 obtain ⟨o6,h7,h⟩:=zB h
 refine zO (fun (s:Int)=>⟨[(0,.p (.slc (v58 (uap .i64) s1))),(1,.p (.func (.func f2_k) f2_cs)),(7,.p (.int .i64 (s1.length:Int))),(8,.p (.int .i64 s))],[]⟩) (fun (o:(Unit) ⊕ (Int))=>match o with | .inl o8=>tE (cX Tryz.f216 X w D hT) (.exit 0) ⟨[],[]⟩ | .inr o9=>tR prog Tryz.f216 (.int .i64 o9)) h7 ?_ ?_
 clear h h7
 intro t10 x h
 simp only [qcm] at h
 refine M9 ?_
 obtain ⟨h11,h⟩|⟨h11,h⟩:=zI h
 refine Mb ?_
 refine M6 ?_
 obtain ⟨x12,h13,h13a,h13b,h⟩:=zX h
 refine zU ?_
 obtain ⟨r14,h15,h⟩:=zB h
 refine zc (f2_h x12 _ h15) ?_
 refine zl<|zn ?_
 obtain ⟨h16,h⟩|⟨h16,h⟩:=zI h
 refine M4 ?_
 cases h
 exact ⟨rfl,zT results216⟩
 refine Me ?_
 exact M0 h
 exact M3 h
 rcases o6 with ⟨⟩ | r17
 try simp only at h
 refine Md ?_
 exact M1 h results216
 exact M8 h
theorem qfi (s1:List Int) (f2:Int→Option (Bool)) (f2_k:FuncId) (f2_cs:List PV) (f2_h:∀(y3:Int) (r4:Bool),f2 y3=some r4→Con D prog f2_k ((.int .i64 y3) :: f2_cs) (.bool r4)) (r5:Bool) (h:qbz s1 f2=some r5):Con D prog 153 [(.slc (v58 (uap .i64) s1)),.func (.func f2_k) f2_cs] (.bool r5):=by
 refine zP call153 func153 rfl ntmps153 fun X w hT=>?_
 simp only [qbz] at h
 refine Ml ?_
 refine M6 ?_
 refine zU ?_
 obtain ⟨r6,h7,h⟩:=zB h
 refine zc (qo5 s1 f2 f2_k f2_cs f2_h _ h7) ?_
 exact M1 h results153
theorem qtq (a1:Int) (c2:Int) (r3:Bool) (h:qgo a1 c2=some r3):Con D prog 187 [(.int .i64 a1),.imm [.int .i64 c2]] (.bool r3):=by
 refine zP call187 func187 rfl ntmps187 fun X w hT=>?_
 simp only [qgo] at h
 refine Ml ?_
 refine M6 ?_
 refine zU ?_
 obtain ⟨h4,h⟩|⟨h4,h⟩:=zI h
 refine zw 6 true ?_
 refine zh ?_
 exact M1 h results187
 replace h:=h.symm
 refine zw 6 false ?_
 refine M7 ?_
 refine zg ?_
 exact M1 h results187
theorem qo6 (n1:Int) (l2:List Int) (r3:Bool) (h:qim n1 l2=some r3):Con D prog 120 [(.int .i64 n1),(.slc (v58 (uap .i64) l2))] (.bool r3):=by
 refine zP call120 func120 rfl ntmps120 fun X w hT=>?_
 simp only [qim] at h
 refine Ml ?_
 refine M6 ?_
 refine zU ?_
 obtain ⟨h4,h⟩|⟨h4,h⟩:=zI h
 refine zw 8 true ?_
 refine M7 ?_
 obtain ⟨r5,h6,h⟩:=zB h
 replace h:=h.symm
 refine zc (qfi l2 (fun (y7:Int)=>qgo y7 n1) 187 [.imm [.int .i64 n1]] (fun y7 r h=>qtq y7 n1 r h) _ h6) ?_
 refine zg ?_
 exact M1 h results120
 refine zw 8 false ?_
 refine zh ?_
 exact M1 h results120
theorem qkh (n1:Int) (d2:OD) (r3:Bool) (h:qgc n1 d2=some r3):Con D prog 60 [(.int .i64 n1),(qtm d2)] (.bool r3):=by
 refine zP call60 func60 rfl ntmps60 fun X w hT=>?_
 simp only [qgc] at h
 refine Ml ?_
 refine M6 ?_
 refine zU ?_
 obtain ⟨r4,h5,h⟩:=zB h
 refine zc (qo6 n1 d2.Lhs _ h5) ?_
 refine zU ?_
 obtain ⟨h6,h⟩|⟨h6,h⟩:=zI h
 refine zw 9 true ?_
 refine M7 ?_
 refine zg ?_
 obtain ⟨r7,h8,h⟩:=zB h
 refine zc (qo6 n1 d2.Rhs _ h8) ?_
 exact M1 h results60
 refine zw 9 false ?_
 refine zh ?_
 exact M1 h results60
theorem qki (t1:Table) (c2:Constraint) (r3:List Denial×Int) (h:qay t1 c2=some r3):Con D prog 24 [(qaa t1),(qak c2)] (.tup [(.slc (v58 qad r3.1)),(.int .i64 r3.2)]):=by
 refine zP call24 func24 rfl ntmps24 fun X w hT=>?_
 simp only [qay] at h
 refine Ml ?_
 refine M6 ?_
 refine Mc ?_
 refine zU ?_
 obtain ⟨h4,h⟩|⟨h4,h⟩:=zI h
 refine zw 15 false ?_
 refine M7 ?_
 refine Mw ?_
 obtain ⟨h5,h⟩|⟨h5,h⟩:=zI h
 refine zw 20 true ?_
 refine zh ?_
 refine Ma ?_
 exact M2 h results24
 refine zw 20 false ?_
 refine M7 ?_
 refine zg ?_
 refine Ma ?_
 obtain ⟨h6,h⟩|⟨h6,h⟩:=zI h
 exact M2 h results24
 refine Mj ?_
 refine zU<|zl<|zn<|zb<|zs<|zs<|zr ?_
 refine Ma ?_
 obtain ⟨h7,h⟩|⟨h7,h⟩:=zI h
 refine zi<|zk<|zn ?_
 refine M4 ?_
 exact T0 h results24
 refine zj<|zr ?_
 refine Ma ?_
 obtain ⟨h8,h⟩|⟨h8,h⟩:=zI h
 refine M4 ?_
 exact T0 h results24
 refine Mx ?_
 refine Ma ?_
 obtain ⟨h9,h⟩|⟨h9,h⟩:=zI h
 refine zi<|zs<|zs<|zr ?_
 obtain ⟨h10,h⟩:=qdm h
 refine Ma ?_
 obtain ⟨h11,h⟩|⟨h11,h⟩:=zI h
 refine Mg ?_
 exact T0 h results24
 refine Mi ?_
 refine zU ?_
 obtain ⟨r12,h13,h⟩:=zB h
 refine zc (qwf (t1.Attrs.length:Int) c2.FD _ h13) ?_
 exact Mn h results24
 refine Mx ?_
 refine Ma ?_
 obtain ⟨h14,h⟩|⟨h14,h⟩:=zI h
 refine zi<|zs<|zs<|zr ?_
 refine zU ?_
 obtain ⟨r15,h16,h⟩:=zB h
 refine zc (qlo (t1.Attrs.length:Int) c2.Denial _ h16) ?_
 refine Ma ?_
 obtain ⟨h17,h⟩|⟨h17,h⟩:=zI h
 refine Mi ?_
 exact Mn h results24
 refine Mg ?_
 exact T0 h results24
 refine Mx ?_
 refine Ma ?_
 obtain ⟨h18,h⟩|⟨h18,h⟩:=zI h
 refine Mr ?_
 obtain ⟨r19,h20,h⟩:=zB h
 refine zc (qik (t1.Attrs.length:Int) c2.CFD _ h20) ?_
 refine Ma ?_
 obtain ⟨h21,h⟩|⟨h21,h⟩:=zI h
 refine T4 ?_
 exact M1 h results24
 refine M4 ?_
 exact T0 h results24
 refine Mx ?_
 refine Ma ?_
 obtain ⟨h22,h⟩|⟨h22,h⟩:=zI h
 refine Mr ?_
 obtain ⟨r23,h24,h⟩:=zB h
 refine zc (qkh (t1.Attrs.length:Int) c2.OD _ h24) ?_
 refine Ma ?_
 obtain ⟨h25,h⟩|⟨h25,h⟩:=zI h
 refine T4 ?_
 exact M1 h results24
 refine M4 ?_
 exact T0 h results24
 refine T4 ?_
 exact M1 h results24
 refine zw 15 true ?_
 refine Mh ?_
 refine Ma ?_
 exact M2 h results24
theorem qly (p1:Cell) (v2:Value) (r3:Bool) (h:qep p1 v2=some r3):Con D prog 122 [(qd1 p1),(qaw v2)] (.bool r3):=by
 refine zP call122 func122 rfl ntmps122 fun X w hT=>?_
 simp only [qep] at h
 refine Ml ?_
 refine M6 ?_
 refine zU ?_
 obtain ⟨h4,h⟩|⟨h4,h⟩:=zI h
 refine zw 7 true ?_
 refine zh ?_
 exact M1 h results122
 replace h:=h.symm
 refine zw 7 false ?_
 refine M7 ?_
 refine M7 ?_
 exact M1 h results122
theorem qsj (c1:CFD) (l2:List Value) (r3:Bool) (h:qfp c1 l2=some r3):Con D prog 121 [(qg2 c1),(.slc (v58 qaw l2))] (.bool r3):=by
 refine zP call121 func121 rfl ntmps121 fun X w hT=>?_
 simp only [qfp] at h
 refine Ml ?_
 refine M5 ?_
 obtain ⟨o4,h5,h⟩:=zB h
 refine zO (fun (s:Int)=>⟨[(1,.p (.slc (v58 qaw l2))),(2,.loc 2 1 0 0),(8,.p (.slc (v58 (uap .i64) c1.Lhs))),(9,.p (.int .i64 (c1.Lhs.length:Int))),(10,.p (.int .i64 s))],[(2,.arr 69 3 1 [.p (qg2 c1)])]⟩) (fun (o:(Unit) ⊕ (Bool))=>match o with | .inl o6=>tE (cX Tryz.f121 X w D hT) (.exit 0) ⟨[],[]⟩ | .inr o7=>tR prog Tryz.f121 (.bool o7)) h5 ?_ ?_
 clear h h5
 intro t8 x h
 simp only [qff] at h
 refine M9 ?_
 obtain ⟨h9,h⟩|⟨h9,h⟩:=zI h
 refine Mb ?_
 obtain ⟨x10,h11,h11a,h11b,h⟩:=zX h
 refine Mv ?_
 obtain ⟨x12,h13,h13a,h13b,h⟩:=zX h
 obtain ⟨x14,h15,h15a,h15b,h⟩:=zX h
 refine yU ?_
 obtain ⟨r16,h17,h⟩:=zB h
 refine yc (qly x12 x14 _ h17) ?_
 refine Ms ?_
 obtain ⟨h18,h⟩|⟨h18,h⟩:=zI h
 refine Me ?_
 exact M0 h
 refine M4 ?_
 cases h
 exact ⟨rfl,zT results121⟩
 exact M3 h
 rcases o4 with ⟨⟩ | r19
 try simp only at h
 refine Md ?_
 exact M1 h results121
 exact M8 h
theorem qrn (c1:CFD) (r2:Cell) (h:qin c1=some r2):Con D prog 123 [(qg2 c1)] (qd1 r2):=by
 refine zP call123 func123 rfl ntmps123 fun X w hT=>?_
 simp only [qin] at h
 refine Ml ?_
 refine M6 ?_
 obtain ⟨x3,h4,h4a,h4b,h⟩:=zX h
 have h4N:=vhf h4
 exact M1 h results123
theorem qqf (k1:Int) (c2:List Value) (c3:List Value) (r4:Bool) (h:qb6 k1 c2 c3=some r4):Con D prog 188 [(.int .i64 k1),.imm [.slc (v58 qaw c2)],.imm [.slc (v58 qaw c3)]] (.bool r4):=by
 refine zP call188 func188 rfl ntmps188 fun X w hT=>?_
 simp only [qb6] at h
 refine Ml ?_
 refine Mv ?_
 obtain ⟨x5,h6,h6a,h6b,h⟩:=zX h
 obtain ⟨x7,h8,h8a,h8b,h⟩:=zX h
 exact Mp h results188
theorem qlz (c1:CFD) (a2:List Value) (b3:List Value) (r4:Bool) (h:qeq c1 a2 b3=some r4):Con D prog 124 [(qg2 c1),(.slc (v58 qaw a2)),(.slc (v58 qaw b3))] (.bool r4):=by
 refine zP call124 func124 rfl ntmps124 fun X w hT=>?_
 simp only [qeq] at h
 refine Ml ?_
 refine Mv ?_
 obtain ⟨x5,h6,h6a,h6b,h⟩:=zX h
 obtain ⟨x7,h8,h8a,h8b,h⟩:=zX h
 refine yU ?_
 obtain ⟨h9,h⟩|⟨h9,h⟩:=zI h
 refine yw 18 false ?_
 refine yk ?_
 exact Mp h results124
 refine yw 18 true ?_
 refine Mf ?_
 obtain ⟨r10,h11,h⟩:=zB h
 replace h:=h.symm
 refine yc (qfi c1.Lhs (fun (y12:Int)=>qb6 y12 a2 b3) 188 [.imm [.slc (v58 qaw a2)],.imm [.slc (v58 qaw b3)]] (fun y12 r h=>qqf y12 a2 b3 r h) _ h11) ?_
 refine yg ?_
 exact Mp h results124
theorem qis (t1:Table) (c2:CFD) (r3:List (List Int)×Int) (h:qb5 t1 c2=some r3):Ip D prog 61 [.p (qaa t1),.p (qg2 c2)] [] (.tup [.own 300000 1 0 (r3.1).length,.p (.int .i64 r3.2)]) [(300000,.arr 37 1 1 (v58 AV.p (v58 (qav (uap .i64)) r3.1)))]:=by
 simp only [qb5] at h
 refine Ip.of_awp 0 ⟨[(4,.own 300000 1 0 (r3.1).length),(5,.p (.int .i64 r3.2))],[(300000,.arr 37 1 1 (v58 AV.p (v58 (qav (uap .i64)) r3.1)))]⟩ call61 func61 rfl ntmps61 (by simp) (by simp only [results61];simp only [go_sem,seval];all_goals exact rfl) fun X i4 w5 h6=>?_
 show AWp _ _ _ ⟨[(0,.p (qaa t1)),(1,.p (qg2 c2))],[]⟩
 refine Ml ?_
 refine Mc ?_
 refine zU ?_
 obtain ⟨r7,h8,h⟩:=zB h
 refine zc (qfh t1 _ h8) ?_
 refine M6 ?_
 refine Ma ?_
 obtain ⟨h9,h⟩|⟨h9,h⟩:=zI h
 refine T5 ?_
 refine Ma ?_
 refine zL ⟨[(4,.own 300000 1 0 0),(5,.p (.int .i64 r7))],[(300000,.arr 37 1 1 [])]⟩ ?_
 refine zq<|zt ?_
 exact Mo h
 refine Mj ?_
 refine zU ?_
 obtain ⟨r10,h11,h⟩:=zB h
 refine zc (qik (t1.Attrs.length:Int) c2 _ h11) ?_
 refine Ma ?_
 obtain ⟨h12,h⟩|⟨h12,h⟩:=zI h
 refine Mi ?_
 refine M5 ?_
 obtain ⟨m13,h14,h⟩:=zB h
 refine zO (fun (s:List Row×Int)=>⟨[(3,.loc 3 1 0 0),(7,.own 41 1 0 s.1.length),(28,.p (.slc (v58 qag t1.Rows))),(29,.p (.int .i64 (t1.Rows.length:Int))),(30,.p (.int .i64 s.2))],[(3,.arr 69 3 1 [.p (qg2 c2)]),(41,.arr 94 2 1 (v58 AV.p (v58 qag s.1)))]⟩) (fun (o15:List Row)=>tE ⟨prog,94,0,X,[],i4,w5,D,h6⟩ (.exit 0) ⟨[(3,.loc 3 1 0 0),(7,.own 41 1 0 o15.length)],[(3,.arr 69 3 1 [.p (qg2 c2)]),(41,.arr 94 2 1 (v58 AV.p (v58 qag o15)))]⟩) h14 ?_ ?_
 clear h h8 h9 h11 h12 h14
 intro s x h
 obtain ⟨m16,t17⟩:=s
 simp only [qb2] at h
 dsimp only
 refine M9 ?_
 obtain ⟨h18,h⟩|⟨h18,h⟩:=zI h
 refine Mb ?_
 obtain ⟨x19,h20,h20a,h20b,h⟩:=zX h
 refine M6 ?_
 refine zU ?_
 obtain ⟨r21,h22,h⟩:=zB h
 refine zc (qsj c2 x19.Values _ h22) ?_
 refine zl<|zn ?_
 obtain ⟨h23,h⟩|⟨h23,h⟩:=zI h
 refine zi<|zr ?_
 obtain ⟨h24,h⟩:=qae h
 refine Mk ?_
 exact M0 h
 refine Me ?_
 exact M0 h
 exact M3 h
 try simp only at h
 refine Md ?_
 refine M5 ?_
 obtain ⟨o25,h26,h⟩:=zB h
 refine zO (fun (s:List (List Int)×List (List Int)×Int)=>⟨[(3,.loc 3 1 0 0),(7,.own 41 1 0 m13.length),(10,.own 65 1 0 s.1.length),(11,.own 88 1 0 s.2.1.length),(43,.own 41 1 0 m13.length),(44,.p (.int .i64 ((m13.length:Nat):Int))),(45,.p (.int .i64 s.2.2))],[(3,.arr 69 3 1 [.p (qg2 c2)]),(41,.arr 94 2 1 (v58 AV.p (v58 qag m13))),(65,.arr 37 1 1 (v58 AV.p (v58 (qav (uap .i64)) s.1))),(88,.arr 37 1 1 (v58 AV.p (v58 (qav (uap .i64)) s.2.1)))]⟩) (fun (o27:List (List Int)×List (List Int))=>tE ⟨prog,94,0,X,[],i4,w5,D,h6⟩ (.exit 2) ⟨[(10,.own 65 1 0 o27.1.length),(11,.own 88 1 0 o27.2.length)],[(65,.arr 37 1 1 (v58 AV.p (v58 (qav (uap .i64)) o27.1))),(88,.arr 37 1 1 (v58 AV.p (v58 (qav (uap .i64)) o27.2)))]⟩) h26 ?_ ?_
 clear h h8 h9 h11 h12 h14 h26
 intro s x h
 obtain ⟨o28,b29,t30⟩:=s
 simp only [qc7] at h
 dsimp only
 refine M9 ?_
 obtain ⟨h31,h⟩|⟨h31,h⟩:=zI h
 refine Mb ?_
 obtain ⟨x32,h33,h33a,h33b,h⟩:=zX h
 refine Ta ?_
 obtain ⟨r34,h35,h⟩:=zB h
 refine yc (qrn c2 _ h35) ?_
 obtain ⟨x36,h37,h37a,h37b,h⟩:=zX h
 refine yU ?_
 obtain ⟨r38,h39,h⟩:=zB h
 refine yc (qly r34 x36 _ h39) ?_
 refine Ms ?_
 obtain ⟨h40,h⟩|⟨h40,h⟩:=zI h
 refine Mi ?_
 obtain ⟨h41,h⟩:=qae h
 obtain ⟨h42,h⟩:=qae h
 refine Mq ?_
 obtain ⟨b43,h44,h⟩:=zB h
 refine zO (fun (s:List (List Int)×Int)=>⟨[(3,.loc 3 1 0 0),(7,.own 41 1 0 m13.length),(10,.own 65 1 0 o28.length),(11,.own 88 1 0 s.1.length),(13,.loc 13 1 0 0),(43,.own 41 1 0 m13.length),(44,.p (.int .i64 ((m13.length:Nat):Int))),(45,.p (.int .i64 t30)),(69,.own 41 1 (v67.wrap (t30+1)).toNat (m13.length - (v67.wrap (t30+1)).toNat)),(70,.p (.int .i64 (((m13.length - (v67.wrap (t30+1)).toNat):Nat):Int))),(71,.p (.int .i64 s.2))],[(3,.arr 69 3 1 [.p (qg2 c2)]),(13,.arr 94 2 1 [.p (qag x32)]),(41,.arr 94 2 1 (v58 AV.p (v58 qag m13))),(65,.arr 37 1 1 (v58 AV.p (v58 (qav (uap .i64)) o28))),(88,.arr 37 1 1 (v58 AV.p (v58 (qav (uap .i64)) s.1)))]⟩) (fun (o45:List (List Int))=>tE ⟨prog,94,0,X,[],i4,w5,D,h6⟩ (.exit 4) ⟨[(3,.loc 3 1 0 0),(7,.own 41 1 0 m13.length),(10,.own 65 1 0 o28.length),(11,.own 88 1 0 o45.length),(43,.own 41 1 0 m13.length),(44,.p (.int .i64 ((m13.length:Nat):Int))),(45,.p (.int .i64 t30))],[(3,.arr 69 3 1 [.p (qg2 c2)]),(41,.arr 94 2 1 (v58 AV.p (v58 qag m13))),(65,.arr 37 1 1 (v58 AV.p (v58 (qav (uap .i64)) o28))),(88,.arr 37 1 1 (v58 AV.p (v58 (qav (uap .i64)) o45)))]⟩) h44 ?_ ?_
 clear h h31 h33 h33a h33b h35 h37 h37a h37b h39 h40 h41 h42 h44
 intro s x h
 obtain ⟨b46,t47⟩:=s
 simp only [qb3] at h
 dsimp only
 refine M9 ?_
 obtain ⟨h48,h⟩|⟨h48,h⟩:=zI h
 refine Mb ?_
 obtain ⟨x49,h50,h50a,h50b,h⟩:=zX h
 obtain ⟨h51,h51n⟩:=qua h50
 have h51N:=eq_true (qyn h51n h50a)
 refine M6 ?_
 refine zU ?_
 obtain ⟨r52,h53,h⟩:=zB h
 refine zc (qlz c2 x32.Values x49.Values _ h53) ?_
 refine zl<|zn ?_
 obtain ⟨h54,h⟩|⟨h54,h⟩:=zI h
 refine zi<|zr ?_
 refine zW 7 ?_
 refine zM ⟨[(3,.loc 3 1 0 0),(7,.own 41 1 0 m13.length),(10,.own 65 1 0 o28.length),(13,.loc 13 1 0 0),(43,.own 41 1 0 m13.length),(44,.p (.int .i64 ((m13.length:Nat):Int))),(45,.p (.int .i64 t30)),(69,.own 41 1 (v67.wrap (t30+1)).toNat (m13.length - (v67.wrap (t30+1)).toNat)),(70,.p (.int .i64 (((m13.length - (v67.wrap (t30+1)).toNat):Nat):Int))),(71,.p (.int .i64 t47)),(81,.own 88 1 0 b46.length),(87,.own 87 1 0 1)],[(3,.arr 69 3 1 [.p (qg2 c2)]),(13,.arr 94 2 1 [.p (qag x32)]),(41,.arr 94 2 1 (v58 AV.p (v58 qag m13))),(65,.arr 37 1 1 (v58 AV.p (v58 (qav (uap .i64)) o28))),(87,.arr 37 1 1 [.p (.slc (v58 (uap .i64) [x32.ID,x49.ID]))]),(88,.arr 37 1 1 (v58 AV.p (v58 (qav (uap .i64)) b46)))]⟩ ?_
 obtain ⟨h55,h⟩:=qae h
 refine Mk ?_
 exact M0 h
 refine Me ?_
 exact M0 h
 exact M3 h
 try simp only at h
 refine Tc ?_
 exact M0 h
 refine zi<|zr ?_
 refine zW 5 ?_
 refine zM ⟨[(3,.loc 3 1 0 0),(7,.own 41 1 0 m13.length),(11,.own 88 1 0 b29.length),(12,.p (.int .i64 t30)),(13,.loc 13 1 0 0),(43,.own 41 1 0 m13.length),(44,.p (.int .i64 ((m13.length:Nat):Int))),(45,.p (.int .i64 t30)),(60,.own 65 1 0 o28.length),(64,.own 64 1 0 1)],[(3,.arr 69 3 1 [.p (qg2 c2)]),(13,.arr 94 2 1 [.p (qag x32)]),(41,.arr 94 2 1 (v58 AV.p (v58 qag m13))),(64,.arr 37 1 1 [.p (.slc (v58 (uap .i64) [x32.ID]))]),(65,.arr 37 1 1 (v58 AV.p (v58 (qav (uap .i64)) o28))),(88,.arr 37 1 1 (v58 AV.p (v58 (qav (uap .i64)) b29)))]⟩ ?_
 obtain ⟨h56,h⟩:=qae h
 refine M6 ?_
 obtain ⟨h57,h⟩:=qae h
 obtain ⟨h58,h⟩:=qae h
 refine Mq ?_
 obtain ⟨b59,h60,h⟩:=zB h
 refine zO (fun (s:List (List Int)×Int)=>⟨[(3,.loc 3 1 0 0),(7,.own 41 1 0 m13.length),(10,.own 65 1 0 (o28.length+1)),(11,.own 88 1 0 s.1.length),(13,.loc 13 1 0 0),(43,.own 41 1 0 m13.length),(44,.p (.int .i64 ((m13.length:Nat):Int))),(45,.p (.int .i64 t30)),(69,.own 41 1 (v67.wrap (t30+1)).toNat (m13.length - (v67.wrap (t30+1)).toNat)),(70,.p (.int .i64 (((m13.length - (v67.wrap (t30+1)).toNat):Nat):Int))),(71,.p (.int .i64 s.2))],[(3,.arr 69 3 1 [.p (qg2 c2)]),(13,.arr 94 2 1 [.p (qag x32)]),(41,.arr 94 2 1 (v58 AV.p (v58 qag m13))),(65,.arr 37 1 1 (v58 AV.p (v58 (qav (uap .i64)) (o28++[[x32.ID]])))),(88,.arr 37 1 1 (v58 AV.p (v58 (qav (uap .i64)) s.1)))]⟩) (fun (o61:List (List Int))=>tE ⟨prog,94,0,X,[],i4,w5,D,h6⟩ (.exit 4) ⟨[(3,.loc 3 1 0 0),(7,.own 41 1 0 m13.length),(10,.own 65 1 0 (o28.length+1)),(11,.own 88 1 0 o61.length),(43,.own 41 1 0 m13.length),(44,.p (.int .i64 ((m13.length:Nat):Int))),(45,.p (.int .i64 t30))],[(3,.arr 69 3 1 [.p (qg2 c2)]),(41,.arr 94 2 1 (v58 AV.p (v58 qag m13))),(65,.arr 37 1 1 (v58 AV.p (v58 (qav (uap .i64)) (o28++[[x32.ID]])))),(88,.arr 37 1 1 (v58 AV.p (v58 (qav (uap .i64)) o61)))]⟩) h60 ?_ ?_
 clear h h31 h33 h33a h33b h35 h37 h37a h37b h39 h40 h56 h57 h58 h60
 intro s x h
 obtain ⟨b62,t63⟩:=s
 simp only [qgd] at h
 dsimp only
 refine M9 ?_
 obtain ⟨h64,h⟩|⟨h64,h⟩:=zI h
 refine Mb ?_
 obtain ⟨x65,h66,h66a,h66b,h⟩:=zX h
 obtain ⟨h67,h67n⟩:=qua h66
 have h67N:=eq_true (qyn h67n h66a)
 refine M6 ?_
 refine zU ?_
 obtain ⟨r68,h69,h⟩:=zB h
 refine zc (qlz c2 x32.Values x65.Values _ h69) ?_
 refine zl<|zn ?_
 obtain ⟨h70,h⟩|⟨h70,h⟩:=zI h
 refine zi<|zr ?_
 refine zW 7 ?_
 refine zM ⟨[(3,.loc 3 1 0 0),(7,.own 41 1 0 m13.length),(10,.own 65 1 0 (o28.length+1)),(13,.loc 13 1 0 0),(43,.own 41 1 0 m13.length),(44,.p (.int .i64 ((m13.length:Nat):Int))),(45,.p (.int .i64 t30)),(69,.own 41 1 (v67.wrap (t30+1)).toNat (m13.length - (v67.wrap (t30+1)).toNat)),(70,.p (.int .i64 (((m13.length - (v67.wrap (t30+1)).toNat):Nat):Int))),(71,.p (.int .i64 t63)),(81,.own 88 1 0 b62.length),(87,.own 87 1 0 1)],[(3,.arr 69 3 1 [.p (qg2 c2)]),(13,.arr 94 2 1 [.p (qag x32)]),(41,.arr 94 2 1 (v58 AV.p (v58 qag m13))),(65,.arr 37 1 1 (v58 AV.p (v58 (qav (uap .i64)) (o28++[[x32.ID]])))),(87,.arr 37 1 1 [.p (.slc (v58 (uap .i64) [x32.ID,x65.ID]))]),(88,.arr 37 1 1 (v58 AV.p (v58 (qav (uap .i64)) b62)))]⟩ ?_
 obtain ⟨h71,h⟩:=qae h
 refine Mk ?_
 exact M0 h
 refine Me ?_
 exact M0 h
 exact M3 h
 try simp only at h
 refine Tc ?_
 exact M0 h
 exact M3 h
 obtain ⟨o72,b73⟩:=o25
 try simp only at h
 refine Md ?_
 obtain ⟨h74,h⟩:=qae h
 refine Ma ?_
 refine zL ⟨[(4,.own 65 1 0 (o72.length+b73.length)),(5,.p (.int .i64 0))],[(65,.arr 37 1 1 (v58 AV.p (v58 (qav (uap .i64)) (o72++b73))))]⟩ ?_
 refine zSwA 65 300000 ?_
 refine zL ⟨[(4,.own 300000 1 0 (o72.length+b73.length)),(5,.p (.int .i64 0))],[(300000,.arr 37 1 1 (v58 AV.p (v58 (qav (uap .i64)) (o72++b73))))]⟩ ?_
 refine zq ?_
 exact Mo h
 refine T5 ?_
 refine Ma ?_
 refine zL ⟨[(4,.own 300000 1 0 0),(5,.p (.int .i64 1))],[(300000,.arr 37 1 1 [])]⟩ ?_
 refine zq<|zt ?_
 exact Mo h
theorem qni (t_1378:Table) (c_1379:CFD) (r_1811:List (List Int)×Int) (h:qb5 t_1378 c_1379=some r_1811):Con D prog 61 [(qaa t_1378),(qg2 c_1379)] (.tup [(.slc (v58 (qav (uap .i64)) r_1811.1)),(.int .i64 r_1811.2)]):=Ip.con (qis t_1378 c_1379 r_1811 h) (by simp only [go_sem,seval, *];all_goals exact zF)
theorem qvb (t1:Table) (o2:Int→Option (Bool)) (o2_k:FuncId) (o2_cs:List PV) (o2_h:∀(y3:Int) (r4:Bool),o2 y3=some r4→Con D prog o2_k ((.int .i64 y3) :: o2_cs) (.bool r4)) (r5:Int) (h:qi2 t1 o2=some r5):Con D prog 125 [(qaa t1),.func (.func o2_k) o2_cs] (.int .i64 r5):=by
 refine zP call125 func125 rfl ntmps125 fun X w hT=>?_
 simp only [qi2] at h
 refine Ml ?_
 refine Mc ?_
 refine zU ?_
 obtain ⟨r6,h7,h⟩:=zB h
 refine zc (qfh t1 _ h7) ?_
 refine M6 ?_
 refine Ma ?_
 obtain ⟨h8,h⟩|⟨h8,h⟩:=zI h
 exact M2 h results125
 refine Mj ?_
 refine zU ?_
 obtain ⟨r9,h10,h⟩:=zB h
 refine zc (o2_h (t1.Attrs.length:Int) _ h10) ?_
 refine Ma ?_
 obtain ⟨h11,h⟩|⟨h11,h⟩:=zI h
 refine Mi ?_
 exact M1 h results125
 exact M2 h results125
theorem qoe (n1:Int) (c2:OD) (r3:Bool) (h:qcg n1 c2=some r3):Con D prog 126 [(.int .i64 n1),.imm [.slc (v58 (uap .i64) c2.Lhs),.slc (v58 (uap .i64) c2.Rhs)]] (.bool r3):=by
 refine zP call126 func126 rfl ntmps126 fun X w hT=>?_
 simp only [qcg] at h
 refine Ml ?_
 refine M6 ?_
 refine zU ?_
 obtain ⟨r4,h5,h⟩:=zB h
 refine zc (qkh n1 c2 _ h5) ?_
 exact M1 h results126
theorem qhc (x1:Int) (r2:Bool) (h:qdo x1=some r2):Con D prog 203 [(.int .i64 x1)] (.bool r2):=by
 refine zP call203 func203 rfl ntmps203 fun X w hT=>?_
 simp only [qdo] at h
 refine Ml ?_
 refine M6 ?_
 exact M1 h results203
theorem qlf (x1:Int) (y2:Int) (r3:Int) (h:qe1 x1 y2=some r3):Con D prog 134 [(.int .i64 x1),(.int .i64 y2)] (.int .i64 r3):=by
 refine zP call134 func134 rfl ntmps134 fun X w hT=>?_
 simp only [qe1] at h
 refine Ml ?_
 refine M6 ?_
 refine zU ?_
 obtain ⟨r4,h5,h⟩:=zB h
 refine zc (qhc x1 _ h5) ?_
 refine M6 ?_
 refine zU ?_
 obtain ⟨r6,h7,h⟩:=zB h
 refine zc (qhc y2 _ h7) ?_
 refine Mc ?_
 refine Ma ?_
 obtain ⟨h8,h⟩|⟨h8,h⟩:=zI h
 refine zi<|zs<|zs<|zr ?_
 refine Ma ?_
 obtain ⟨h9,h⟩|⟨h9,h⟩:=zI h
 refine T5 ?_
 refine zU<|zl<|zn<|zq<|zt<|zt ?_
 exact T0 h results134
 refine Mi ?_
 refine Mm ?_
 exact T0 h results134
 refine Mj ?_
 refine Ma ?_
 obtain ⟨h10,h⟩|⟨h10,h⟩:=zI h
 exact M2 h results134
 refine Mj ?_
 refine Ma ?_
 obtain ⟨h11,h⟩|⟨h11,h⟩:=zI h
 exact M2 h results134
 refine Mj ?_
 refine Ma ?_
 obtain ⟨h12,h⟩|⟨h12,h⟩:=zI h
 exact M2 h results134
 refine Mi ?_
 exact M1 h results134
theorem q1a (v1:List Int) (r2:Int) (h:qot v1=some r2):Con D prog 166 [(.slc (v58 (uap .i64) v1))] (.int .i64 r2):=by
 refine zP call166 func166 rfl ntmps166 fun X w hT=>?_
 simp only [qot] at h
 refine Ml ?_
 refine M6 ?_
 refine M5 ?_
 obtain ⟨o3,h4,h⟩:=zB h
 refine zO (fun (s:Int)=>⟨[(3,.p (.int .i64 0)),(6,.p (.slc (v58 (uap .i64) v1))),(7,.p (.int .i64 (v1.length:Int))),(8,.p (.int .i64 s))],[]⟩) (fun (o:(Unit) ⊕ (Int))=>match o with | .inl o5=>tE (cX Tryz.f166 X w D hT) (.exit 0) ⟨[(3,.p (.int .i64 0))],[]⟩ | .inr o6=>tR prog Tryz.f166 (.int .i64 o6)) h4 ?_ ?_
 clear h h4
 intro t7 x h
 simp only [qdb] at h
 refine M9 ?_
 obtain ⟨h8,h⟩|⟨h8,h⟩:=zI h
 refine Mb ?_
 obtain ⟨x9,h10,h10a,h10b,h⟩:=zX h
 refine M6 ?_
 refine Ma ?_
 obtain ⟨h11,h⟩|⟨h11,h⟩:=zI h
 refine M4 ?_
 cases h
 exact ⟨rfl,zT results166⟩
 refine Me ?_
 exact M0 h
 exact M3 h
 rcases o3 with ⟨⟩ | r12
 try simp only at h
 refine Md ?_
 exact M1 h results166
 exact M8 h
theorem qo7 (x1:Int) (r2:Bool) (h:qj5 x1=some r2):Con D prog 231 [(.int .i64 x1)] (.bool r2):=by
 refine zP call231 func231 rfl ntmps231 fun X w hT=>?_
 simp only [qj5] at h
 refine Ml ?_
 refine M6 ?_
 exact M1 h results231
theorem qtr (x1:Int) (y2:Int) (r3:Int) (h:qh9 x1 y2=some r3):Con D prog 167 [(.int .i64 x1),(.int .i64 y2)] (.int .i64 r3):=by
 refine zP call167 func167 rfl ntmps167 fun X w hT=>?_
 simp only [qh9] at h
 refine Ml ?_
 refine M6 ?_
 refine zU ?_
 obtain ⟨r4,h5,h⟩:=zB h
 refine zc (qo7 x1 _ h5) ?_
 refine M6 ?_
 refine zU ?_
 obtain ⟨r6,h7,h⟩:=zB h
 refine zc (qo7 y2 _ h7) ?_
 refine Mc ?_
 refine Ma ?_
 obtain ⟨h8,h⟩|⟨h8,h⟩:=zI h
 refine zi<|zs<|zs<|zr ?_
 refine Ma ?_
 obtain ⟨h9,h⟩|⟨h9,h⟩:=zI h
 refine T5 ?_
 refine zU<|zl<|zn<|zq<|zt<|zt ?_
 exact T0 h results167
 refine Mi ?_
 refine Mm ?_
 exact T0 h results167
 refine Mj ?_
 refine Ma ?_
 obtain ⟨h10,h⟩|⟨h10,h⟩:=zI h
 exact M2 h results167
 refine Mj ?_
 refine Ma ?_
 obtain ⟨h11,h⟩|⟨h11,h⟩:=zI h
 exact M2 h results167
 refine Mj ?_
 refine Ma ?_
 obtain ⟨h12,h⟩|⟨h12,h⟩:=zI h
 exact M2 h results167
 refine Mi ?_
 exact M1 h results167
theorem qo8 (a1:Value) (b2:Value) (r3:Int) (h:qio a1 b2=some r3):Con D prog 233 [(qaw a1),(qaw b2)] (.int .i64 r3):=by
 refine zP call233 func233 rfl ntmps233 fun X w hT=>?_
 simp only [qio] at h
 refine Ml ?_
 refine Mv ?_
 refine yU ?_
 obtain ⟨r4,h5,h⟩:=zB h
 refine yc (qtr a1.Kind b2.Kind _ h5) ?_
 refine yU ?_
 obtain ⟨r6,h7,h⟩:=zB h
 refine yc (qlf a1.Num b2.Num _ h7) ?_
 refine yU ?_
 obtain ⟨r8,h9,h⟩:=zB h
 refine yc (qm0 a1.Str b2.Str _ h9) ?_
 refine yU ?_
 obtain ⟨r10,h11,h⟩:=zB h
 refine yc (q1a [r4,r6,r8] _ h11) ?_
 exact Mp h results233
theorem ql0 (a1:Row) (b2:Row) (l3:List Int) (r4:Int) (h:qfq a1 b2 l3=some r4):Con D prog 189 [(qag a1),(qag b2),(.slc (v58 (uap .i64) l3))] (.int .i64 r4):=by
 refine zP call189 func189 rfl ntmps189 fun X w hT=>?_
 simp only [qfq] at h
 refine Ml ?_
 refine M5 ?_
 obtain ⟨o5,h6,h⟩:=zB h
 refine zO (fun (s:Int)=>⟨[(3,.loc 3 1 0 0),(4,.loc 4 1 0 0),(10,.p (.slc (v58 (uap .i64) l3))),(11,.p (.int .i64 (l3.length:Int))),(12,.p (.int .i64 s))],[(3,.arr 94 2 1 [.p (qag a1)]),(4,.arr 94 2 1 [.p (qag b2)])]⟩) (fun (o:(Unit) ⊕ (Int))=>match o with | .inl o7=>tE (cX Tryz.f189 X w D hT) (.exit 0) ⟨[],[]⟩ | .inr o8=>tR prog Tryz.f189 (.int .i64 o8)) h6 ?_ ?_
 clear h h6
 intro t9 x h
 simp only [qea] at h
 refine M9 ?_
 obtain ⟨h10,h⟩|⟨h10,h⟩:=zI h
 refine Mb ?_
 obtain ⟨x11,h12,h12a,h12b,h⟩:=zX h
 refine Mv ?_
 obtain ⟨x13,h14,h14a,h14b,h⟩:=zX h
 obtain ⟨x15,h16,h16a,h16b,h⟩:=zX h
 refine yU ?_
 obtain ⟨r17,h18,h⟩:=zB h
 refine yc (qo8 x13 x15 _ h18) ?_
 refine T7 ?_
 refine Ma ?_
 obtain ⟨h19,h⟩|⟨h19,h⟩:=zI h
 refine M4 ?_
 cases h
 exact ⟨rfl,zT results189⟩
 refine Me ?_
 exact M0 h
 exact M3 h
 rcases o5 with ⟨⟩ | r20
 try simp only at h
 refine Md ?_
 exact M1 h results189
 exact M8 h
theorem qwg (a1:Row) (b2:Row) (d3:OD) (r4:Int) (h:qj6 a1 b2 d3=some r4):Con D prog 127 [(qag a1),(qag b2),(qtm d3)] (.int .i64 r4):=by
 refine zP call127 func127 rfl ntmps127 fun X w hT=>?_
 simp only [qj6] at h
 refine Ml ?_
 refine Mv ?_
 refine yU ?_
 obtain ⟨r5,h6,h⟩:=zB h
 refine yc (ql0 a1 b2 d3.Lhs _ h6) ?_
 refine yU ?_
 obtain ⟨r7,h8,h⟩:=zB h
 refine yc (ql0 a1 b2 d3.Rhs _ h8) ?_
 refine yU ?_
 refine yd<|zn<|zs<|zb ?_
 obtain ⟨t9,h10,h⟩:=zB h
 refine zJ (fun (o11:Bool)=>tE (cX Tryz.f127 X w D hT) .normal ⟨[(7,.p (.int .i64 r5)),(8,.p (.int .i64 r7)),(19,.p (.bool o11))],[]⟩) t9 ?_ ?_
 replace h:=h10
 clear h10
 refine Td ?_
 obtain ⟨h12,h⟩|⟨h12,h⟩:=zI h
 replace h:=h.symm
 refine zw 22 true ?_
 refine M7 ?_
 exact M0 h
 refine zw 22 false ?_
 refine zh ?_
 exact M0 h
 try simp only at h
 refine zA<|zn ?_
 obtain ⟨h13,h⟩|⟨h13,h⟩:=zI h
 refine M4 ?_
 exact T0 h results127
 refine Mx ?_
 refine Ma ?_
 obtain ⟨h14,h⟩|⟨h14,h⟩:=zI h
 refine M4 ?_
 exact T0 h results127
 refine T4 ?_
 exact M1 h results127
theorem qkj (t1:Table) (d2:OD) (r3:List (List Int)×Int) (h:qch t1 d2=some r3):Ip D prog 62 [.p (qaa t1),.p (qtm d2)] [] (.tup [.own 300000 1 0 (r3.1).length,.p (.int .i64 r3.2)]) [(300000,.arr 37 1 1 (v58 AV.p (v58 (qav (uap .i64)) r3.1)))]:=by
 simp only [qch] at h
 refine Ip.of_awp 0 ⟨[(4,.own 300000 1 0 (r3.1).length),(5,.p (.int .i64 r3.2))],[(300000,.arr 37 1 1 (v58 AV.p (v58 (qav (uap .i64)) r3.1)))]⟩ call62 func62 rfl ntmps62 (by simp) (by simp only [results62];simp only [go_sem,seval];all_goals exact rfl) fun X i4 w5 h6=>?_
 show AWp _ _ _ ⟨[(0,.p (qaa t1)),(1,.p (qtm d2))],[]⟩
 refine Ml ?_
 refine Mc ?_
 refine zU ?_
 obtain ⟨r7,h8,h⟩:=zB h
 refine zc (qvb t1 (fun (y9:Int)=>qcg y9 d2) 126 [.imm [.slc (v58 (uap .i64) d2.Lhs),.slc (v58 (uap .i64) d2.Rhs)]] (fun y9 r h=>qoe y9 d2 r h) _ h8) ?_
 refine M6 ?_
 refine Ma ?_
 obtain ⟨h10,h⟩|⟨h10,h⟩:=zI h
 refine T5 ?_
 refine Ma ?_
 refine zL ⟨[(4,.own 300000 1 0 0),(5,.p (.int .i64 r7))],[(300000,.arr 37 1 1 [])]⟩ ?_
 refine zq<|zt ?_
 exact Mo h
 refine Mi ?_
 refine M5 ?_
 obtain ⟨o11,h12,h⟩:=zB h
 refine zO (fun (s:List (List Int)×Int)=>⟨[(2,.loc 2 1 0 0),(3,.loc 3 1 0 0),(7,.own 48 1 0 s.1.length),(19,.p (.slc (v58 qag t1.Rows))),(20,.p (.int .i64 (t1.Rows.length:Int))),(21,.p (.int .i64 s.2))],[(2,.arr 29 3 1 [.p (qaa t1)]),(3,.arr 71 2 1 [.p (qtm d2)]),(48,.arr 37 1 1 (v58 AV.p (v58 (qav (uap .i64)) s.1)))]⟩) (fun (o13:List (List Int))=>tE ⟨prog,52,0,X,[],i4,w5,D,h6⟩ (.exit 0) ⟨[(7,.own 48 1 0 o13.length)],[(48,.arr 37 1 1 (v58 AV.p (v58 (qav (uap .i64)) o13)))]⟩) h12 ?_ ?_
 clear h h8 h10 h12
 intro s x h
 obtain ⟨o14,t15⟩:=s
 simp only [qcx] at h
 dsimp only
 refine M9 ?_
 obtain ⟨h16,h⟩|⟨h16,h⟩:=zI h
 refine Mb ?_
 obtain ⟨x17,h18,h18a,h18b,h⟩:=zX h
 refine M6 ?_
 obtain ⟨h19,h⟩:=qae h
 obtain ⟨h20,h⟩:=qae h
 refine Mq ?_
 obtain ⟨o21,h22,h⟩:=zB h
 refine zO (fun (s:List (List Int)×Int)=>⟨[(2,.loc 2 1 0 0),(3,.loc 3 1 0 0),(7,.own 48 1 0 s.1.length),(9,.loc 9 1 0 0),(19,.p (.slc (v58 qag t1.Rows))),(20,.p (.int .i64 (t1.Rows.length:Int))),(21,.p (.int .i64 t15)),(30,.p (.slc (v58 qag ((t1.Rows.drop (v67.wrap (t15+1)).toNat).take (t1.Rows.length - (v67.wrap (t15+1)).toNat))))),(31,.p (.int .i64 (((t1.Rows.drop (v67.wrap (t15+1)).toNat).take (t1.Rows.length - (v67.wrap (t15+1)).toNat)).length:Int))),(32,.p (.int .i64 s.2))],[(2,.arr 29 3 1 [.p (qaa t1)]),(3,.arr 71 2 1 [.p (qtm d2)]),(9,.arr 94 2 1 [.p (qag x17)]),(48,.arr 37 1 1 (v58 AV.p (v58 (qav (uap .i64)) s.1)))]⟩) (fun (o23:List (List Int))=>tE ⟨prog,52,0,X,[],i4,w5,D,h6⟩ (.exit 2) ⟨[(2,.loc 2 1 0 0),(3,.loc 3 1 0 0),(7,.own 48 1 0 o23.length),(19,.p (.slc (v58 qag t1.Rows))),(20,.p (.int .i64 (t1.Rows.length:Int))),(21,.p (.int .i64 t15))],[(2,.arr 29 3 1 [.p (qaa t1)]),(3,.arr 71 2 1 [.p (qtm d2)]),(48,.arr 37 1 1 (v58 AV.p (v58 (qav (uap .i64)) o23)))]⟩) h22 ?_ ?_
 clear h h16 h18 h18a h18b h19 h20 h22
 intro s x h
 obtain ⟨o24,t25⟩:=s
 simp only [qcw] at h
 dsimp only
 refine M9 ?_
 obtain ⟨h26,h⟩|⟨h26,h⟩:=zI h
 refine Mb ?_
 obtain ⟨x27,h28,h28a,h28b,h⟩:=zX h
 refine M6 ?_
 refine zU ?_
 obtain ⟨r29,h30,h⟩:=zB h
 refine zc (qwg x17 x27 d2 _ h30) ?_
 refine Ma ?_
 obtain ⟨h31,h⟩|⟨h31,h⟩:=zI h
 refine zi<|zr ?_
 refine zW 7 ?_
 refine zM ⟨[(2,.loc 2 1 0 0),(3,.loc 3 1 0 0),(9,.loc 9 1 0 0),(19,.p (.slc (v58 qag t1.Rows))),(20,.p (.int .i64 (t1.Rows.length:Int))),(21,.p (.int .i64 t15)),(30,.p (.slc (v58 qag ((t1.Rows.drop (v67.wrap (t15+1)).toNat).take (t1.Rows.length - (v67.wrap (t15+1)).toNat))))),(31,.p (.int .i64 (((t1.Rows.drop (v67.wrap (t15+1)).toNat).take (t1.Rows.length - (v67.wrap (t15+1)).toNat)).length:Int))),(32,.p (.int .i64 t25)),(41,.own 48 1 0 o24.length),(47,.own 47 1 0 1)],[(2,.arr 29 3 1 [.p (qaa t1)]),(3,.arr 71 2 1 [.p (qtm d2)]),(9,.arr 94 2 1 [.p (qag x17)]),(47,.arr 37 1 1 [.p (.slc (v58 (uap .i64) [x17.ID,x27.ID]))]),(48,.arr 37 1 1 (v58 AV.p (v58 (qav (uap .i64)) o24)))]⟩ ?_
 obtain ⟨h32,h⟩:=qae h
 refine Mk ?_
 exact M0 h
 refine Me ?_
 exact M0 h
 exact M3 h
 try simp only at h
 refine Tc ?_
 exact M0 h
 exact M3 h
 try simp only at h
 refine Md ?_
 refine Ma ?_
 refine zL ⟨[(4,.own 48 1 0 o11.length),(5,.p (.int .i64 0))],[(48,.arr 37 1 1 (v58 AV.p (v58 (qav (uap .i64)) o11)))]⟩ ?_
 refine zSwA 48 300000 ?_
 refine zL ⟨[(4,.own 300000 1 0 o11.length),(5,.p (.int .i64 0))],[(300000,.arr 37 1 1 (v58 AV.p (v58 (qav (uap .i64)) o11)))]⟩ ?_
 refine zq ?_
 exact Mo h
theorem qp0 (t_1983:Table) (d_1984:OD) (r_2154:List (List Int)×Int) (h:qch t_1983 d_1984=some r_2154):Con D prog 62 [(qaa t_1983),(qtm d_1984)] (.tup [(.slc (v58 (qav (uap .i64)) r_2154.1)),(.int .i64 r_2154.2)]):=Ip.con (qkj t_1983 d_1984 r_2154 h) (by simp only [go_sem,seval, *];all_goals exact zF)
end Go.Proofs.YtkebadaokhljmaaGreatDoor
namespace Go.Proofs
open Go Go.Ab Go.Shelf Tryz
variable {D:Prop}
def YtkebadaokhljmaaGreatDoor.sort68_ren:Go.Shelf.Ren:=⟨fun | 6=>68 | 15=>106 | 14=>133 | 28=>178 | 29=>179 | 20=>195 | 21=>196 | 22=>197 | 23=>198 | 24=>199 | 25=>200 | 26=>201 | 27=>202 | 46=>248 | 47=>235 | 48=>236 | 49=>249 | 50=>250 | 57=>280 | n=>n,fun | 22=>38 | 24=>37 | 25=>179 | 3=>3 | 39=>244 | 0=>0 | 53=>59 | 55=>127 | 4=>4 | 46=>308 | 45=>307 | 50=>187 | 5=>5 | 9=>9 | 66=>359 | 70=>363 | 76=>397 | 77=>398 | n=>n,fun | n=>n⟩
theorem YtkebadaokhljmaaGreatDoor.sort68:Go.Proofs.SlLaysF.n6 prog YtkebadaokhljmaaGreatDoor.sort68_ren:={
  mixed:=by kernel_rfl
  f6:=⟨f68.name,by decide,func68.trans (congrArg some (by kernel_rfl))⟩
  f14:=⟨f133.name,by decide,func133.trans (congrArg some (by kernel_rfl))⟩
  f15:=func106.trans (congrArg some (by kernel_rfl))
  f20:=⟨f195.name,by decide,func195.trans (congrArg some (by kernel_rfl))⟩
  f21:=⟨f196.name,by decide,func196.trans (congrArg some (by kernel_rfl))⟩
  f22:=⟨f197.name,by decide,func197.trans (congrArg some (by kernel_rfl))⟩
  f23:=⟨f198.name,by decide,func198.trans (congrArg some (by kernel_rfl))⟩
  f24:=⟨f199.name,by decide,func199.trans (congrArg some (by kernel_rfl))⟩
  f25:=⟨f200.name,by decide,func200.trans (congrArg some (by kernel_rfl))⟩
  f26:=⟨f201.name,by decide,func201.trans (congrArg some (by kernel_rfl))⟩
  f27:=⟨f202.name,by decide,func202.trans (congrArg some (by kernel_rfl))⟩
  f28:=func178.trans (congrArg some (by kernel_rfl))
  f29:=func179.trans (congrArg some (by kernel_rfl))
  f46:=⟨f248.name,by decide,func248.trans (congrArg some (by kernel_rfl))⟩
  f47:=func235.trans (congrArg some (by kernel_rfl))
  f48:=func236.trans (congrArg some (by kernel_rfl))
  f49:=⟨f249.name,by decide,func249.trans (congrArg some (by kernel_rfl))⟩
  f50:=⟨f250.name,by decide,func250.trans (congrArg some (by kernel_rfl))⟩
  f57:=⟨f280.name,by decide,func280.trans (congrArg some (by kernel_rfl))⟩
  t0:=underlying0
  a0:=isAgg0
  z0:=sizeOf0
  v0:=zeroValue0
  t3:=underlying3
  a3:=isAgg3
  z3:=sizeOf3
  v3:=zeroValue3
  t4:=underlying4
  a4:=isAgg4
  z4:=sizeOf4
  v4:=zeroValue4
  t5:=underlying5
  a5:=isAgg5
  z5:=sizeOf5
  v5:=zeroValue5
  t9:=underlying9
  a9:=isAgg9
  z9:=sizeOf9
  v9:=zeroValue9
  t22:=underlying38
  a22:=isAgg38
  z22:=sizeOf38
  v22:=zeroValue38
  a24:=isAgg37
  z24:=sizeOf37
  t25:=underlying179
  a25:=isAgg179
  z25:=sizeOf179
  v25:=zeroValue179
  t39:=underlying244
  a39:=isAgg244
  z39:=sizeOf244
  v39:=zeroValue244
  t45:=underlying307
  a45:=isAgg307
  z45:=sizeOf307
  v45:=zeroValue307
  t46:=underlying308
  a46:=isAgg308
  z46:=sizeOf308
  v46:=zeroValue308
  t50:=underlying187
  a50:=isAgg187
  z50:=sizeOf187
  v50:=zeroValue187
  t53:=underlying59
  a53:=isAgg59
  z53:=sizeOf59
  v53:=zeroValue59
  t55:=underlying127
  a55:=isAgg127
  z55:=sizeOf127
  v55:=zeroValue127
  t66:=underlying359
  a66:=isAgg359
  z66:=sizeOf359
  v66:=zeroValue359
  t70:=underlying363
  a70:=isAgg363
  z70:=sizeOf363
  v70:=zeroValue363
  t76:=underlying397
  a76:=isAgg397
  z76:=sizeOf397
  v76:=zeroValue397
  t77:=underlying398
  a77:=isAgg398
  z77:=sizeOf398
  v77:=zeroValue398 }
def YtkebadaokhljmaaGreatDoor.sort131_ren:Go.Shelf.Ren:=⟨fun | 5=>131 | 8=>106 | 7=>194 | 19=>178 | 20=>179 | 10=>240 | 11=>241 | 12=>242 | 13=>243 | 14=>244 | 15=>245 | 16=>145 | 17=>246 | 18=>247 | 30=>277 | 31=>235 | 32=>236 | 33=>278 | 34=>279 | 35=>203 | 40=>292 | n=>n,fun | 23=>37 | 25=>2 | 3=>3 | 32=>244 | 22=>37 | 0=>0 | 44=>59 | 46=>127 | 4=>4 | 36=>308 | 35=>307 | 41=>187 | 5=>5 | 9=>9 | 53=>359 | 57=>363 | 63=>397 | 64=>398 | n=>n,fun | n=>n⟩
theorem YtkebadaokhljmaaGreatDoor.sort131:Go.Proofs.SlLaysM.n5 prog YtkebadaokhljmaaGreatDoor.sort131_ren:={
  mixed:=by kernel_rfl
  f5:=⟨f131.name,by decide,func131.trans (congrArg some (by kernel_rfl))⟩
  f7:=⟨f194.name,by decide,func194.trans (congrArg some (by kernel_rfl))⟩
  f8:=func106.trans (congrArg some (by kernel_rfl))
  f10:=⟨f240.name,by decide,func240.trans (congrArg some (by kernel_rfl))⟩
  f11:=⟨f241.name,by decide,func241.trans (congrArg some (by kernel_rfl))⟩
  f12:=⟨f242.name,by decide,func242.trans (congrArg some (by kernel_rfl))⟩
  f13:=⟨f243.name,by decide,func243.trans (congrArg some (by kernel_rfl))⟩
  f14:=⟨f244.name,by decide,func244.trans (congrArg some (by kernel_rfl))⟩
  f15:=⟨f245.name,by decide,func245.trans (congrArg some (by kernel_rfl))⟩
  f16:=⟨f145.name,by decide,func145.trans (congrArg some (by kernel_rfl))⟩
  f17:=⟨f246.name,by decide,func246.trans (congrArg some (by kernel_rfl))⟩
  f18:=⟨f247.name,by decide,func247.trans (congrArg some (by kernel_rfl))⟩
  f19:=func178.trans (congrArg some (by kernel_rfl))
  f20:=func179.trans (congrArg some (by kernel_rfl))
  f30:=⟨f277.name,by decide,func277.trans (congrArg some (by kernel_rfl))⟩
  f31:=func235.trans (congrArg some (by kernel_rfl))
  f32:=func236.trans (congrArg some (by kernel_rfl))
  f33:=⟨f278.name,by decide,func278.trans (congrArg some (by kernel_rfl))⟩
  f34:=⟨f279.name,by decide,func279.trans (congrArg some (by kernel_rfl))⟩
  f35:=⟨f203.name,by decide,func203.trans (congrArg some (by kernel_rfl))⟩
  f40:=⟨f292.name,by decide,func292.trans (congrArg some (by kernel_rfl))⟩
  t0:=underlying0
  a0:=isAgg0
  z0:=sizeOf0
  v0:=zeroValue0
  t3:=underlying3
  a3:=isAgg3
  z3:=sizeOf3
  v3:=zeroValue3
  t4:=underlying4
  a4:=isAgg4
  z4:=sizeOf4
  v4:=zeroValue4
  t5:=underlying5
  a5:=isAgg5
  z5:=sizeOf5
  v5:=zeroValue5
  t9:=underlying9
  a9:=isAgg9
  z9:=sizeOf9
  v9:=zeroValue9
  t22:=underlying37
  a22:=isAgg37
  z22:=sizeOf37
  v22:=zeroValue37
  t23:=underlying37
  a23:=isAgg37
  z23:=sizeOf37
  v23:=zeroValue37
  t25:=underlying2
  a25:=isAgg2
  z25:=sizeOf2
  v25:=zeroValue2
  t32:=underlying244
  a32:=isAgg244
  z32:=sizeOf244
  v32:=zeroValue244
  t35:=underlying307
  a35:=isAgg307
  z35:=sizeOf307
  v35:=zeroValue307
  t36:=underlying308
  a36:=isAgg308
  z36:=sizeOf308
  v36:=zeroValue308
  t41:=underlying187
  a41:=isAgg187
  z41:=sizeOf187
  v41:=zeroValue187
  t44:=underlying59
  a44:=isAgg59
  z44:=sizeOf59
  v44:=zeroValue59
  t46:=underlying127
  a46:=isAgg127
  z46:=sizeOf127
  v46:=zeroValue127
  t53:=underlying359
  a53:=isAgg359
  z53:=sizeOf359
  v53:=zeroValue359
  t57:=underlying363
  a57:=isAgg363
  z57:=sizeOf363
  v57:=zeroValue363
  t63:=underlying397
  a63:=isAgg397
  z63:=sizeOf397
  v63:=zeroValue397
  t64:=underlying398
  a64:=isAgg398
  z64:=sizeOf398
  v64:=zeroValue398 }
theorem YtkebadaokhljmaaGreatDoor.srt68:Srt1 prog 68:=⟨call68,fun enc h1 cf hO g cb blk off cap d w eg hc hH hb hs=>Any.slices_SortFunc_eq YtkebadaokhljmaaGreatDoor.sort68 enc h1 cf hO g cb blk off cap d w eg hc hH hb hs,fun p cap fv w=>AnyF.slices_SortFunc_none { YtkebadaokhljmaaGreatDoor.sort68 with } p cap fv w⟩
theorem YtkebadaokhljmaaGreatDoor.srt131:SrtI prog 131:=⟨call131,fun blk off cap zs w hH hb hs=>AnyM.slices_Sort_int YtkebadaokhljmaaGreatDoor.sort131 blk off cap zs w hH hb hs,fun p cap w=>AnyM.slices_Sort_int_none YtkebadaokhljmaaGreatDoor.sort131 p cap w⟩
def YtkebadaokhljmaaGreatDoor.clone193_ren:Go.Shelf.Ren:=⟨fun | 41=>193 | n=>n,fun | 22=>27 | 23=>94 | 4=>4 | n=>n,fun | n=>n⟩
theorem YtkebadaokhljmaaGreatDoor.clone193:Go.Proofs.SlLaysE0.n41 prog YtkebadaokhljmaaGreatDoor.clone193_ren:={
  mixed:=by kernel_rfl
  f41:=⟨f193.name,by decide,func193.trans (congrArg some (by kernel_rfl))⟩
  t4:=underlying4
  a4:=isAgg4
  z4:=sizeOf4
  v4:=zeroValue4
  t22:=underlying27
  a22:=isAgg27
  z22:=sizeOf27
  v22:=zeroValue27 }
theorem YtkebadaokhljmaaGreatDoor.cln193:Cln prog 193 94 2 32:=AbE.cln YtkebadaokhljmaaGreatDoor.clone193 call193 Tryz.t94 _ _ _ (by kernel_rfl) rfl rfl rfl rfl (by decide)
end Go.Proofs
namespace Go.Proofs.YtkebadaokhljmaaGreatDoor
open Go Go.Ab Tryz
variable {D:Prop}
theorem qa1 (s1:List Int) (s2:List Int) (r3:Int) (h:qab s1 s2=some r3):Con D prog 69 [(.slc (v58 (uap .i64) s1)),(.slc (v58 (uap .i64) s2))] (.int .i64 r3):=by
 refine zP call69 func69 rfl ntmps69 fun X w hT=>?_
 simp only [qab] at h
 refine Ml ?_
 refine M5 ?_
 obtain ⟨o4,h5,h⟩:=zB h
 refine zO (fun (s:Int)=>⟨[(0,.p (.slc (v58 (uap .i64) s1))),(1,.p (.slc (v58 (uap .i64) s2))),(9,.p (.slc (v58 (uap .i64) s1))),(10,.p (.int .i64 (s1.length:Int))),(11,.p (.int .i64 s))],[]⟩) (fun (o:(Unit) ⊕ (Int))=>match o with | .inl o6=>tE (cX Tryz.f69 X w D hT) (.exit 0) ⟨[(0,.p (.slc (v58 (uap .i64) s1))),(1,.p (.slc (v58 (uap .i64) s2)))],[]⟩ | .inr o7=>tR prog Tryz.f69 (.int .i64 o7)) h5 ?_ ?_
 clear h h5
 intro t8 x h
 simp only [qa5] at h
 refine M9 ?_
 obtain ⟨h9,h⟩|⟨h9,h⟩:=zI h
 refine Mb ?_
 obtain ⟨x10,h11,h11a,h11b,h⟩:=zX h
 refine Mc ?_
 refine Ma ?_
 obtain ⟨h12,h⟩|⟨h12,h⟩:=zI h
 refine Mg ?_
 cases h
 exact ⟨rfl,zT results69⟩
 refine Mi ?_
 obtain ⟨x13,h14,h14a,h14b,h⟩:=zX h
 refine M6 ?_
 refine zU ?_
 obtain ⟨r15,h16,h⟩:=zB h
 refine zc (qlf x10 x13 _ h16) ?_
 refine M6 ?_
 refine Ma ?_
 obtain ⟨h17,h⟩|⟨h17,h⟩:=zI h
 refine M4 ?_
 cases h
 exact ⟨rfl,zT results69⟩
 refine Me ?_
 exact M0 h
 exact M3 h
 rcases o4 with ⟨⟩ | r18
 try simp only at h
 refine Te ?_
 refine Ma ?_
 obtain ⟨h19,h⟩|⟨h19,h⟩:=zI h
 exact M2 h results69
 refine Mi ?_
 exact M1 h results69
 exact M8 h
theorem qvc (t1:Table) (d2:Denial) (r3:Int) (h:qi3 t1 d2=some r3):Con D prog 128 [(qaa t1),(qad d2)] (.int .i64 r3):=by
 refine zP call128 func128 rfl ntmps128 fun X w hT=>?_
 simp only [qi3] at h
 refine Ml ?_
 refine Mc ?_
 refine zU ?_
 obtain ⟨r4,h5,h⟩:=zB h
 refine zc (qfh t1 _ h5) ?_
 refine M6 ?_
 refine Ma ?_
 obtain ⟨h6,h⟩|⟨h6,h⟩:=zI h
 exact M2 h results128
 refine zj<|zk<|zn<|zs<|zb<|zs<|zr ?_
 refine zU ?_
 obtain ⟨r7,h8,h⟩:=zB h
 refine zc (qlo (t1.Attrs.length:Int) d2 _ h8) ?_
 refine Ma ?_
 obtain ⟨h9,h⟩|⟨h9,h⟩:=zI h
 refine Mx ?_
 refine zU ?_
 obtain ⟨h10,h⟩|⟨h10,h⟩:=zI h
 refine zw 22 true ?_
 refine M7 ?_
 refine M7 ?_
 refine Ma ?_
 obtain ⟨h11,h⟩|⟨h11,h⟩:=zI h
 refine M4 ?_
 exact T0 h results128
 refine T4 ?_
 exact M1 h results128
 refine zw 22 false ?_
 refine zh ?_
 refine Ma ?_
 refine T4 ?_
 exact M1 h results128
 refine M4 ?_
 exact T0 h results128
theorem qsw (r1:List Row) (t2:Term) (r3:Value) (h:qmg r1 t2=some r3):Con D prog 239 [(.slc (v58 qag r1)),(qoa t2)] (qaw r3):=by
 refine zP call239 func239 rfl ntmps239 fun X w hT=>?_
 simp only [qmg] at h
 refine Ml ?_
 refine Mc ?_
 refine Ma ?_
 obtain ⟨h4,h⟩|⟨h4,h⟩:=zI h
 exact M2 h results239
 refine zj<|zk<|zn<|zs<|zd ?_
 obtain ⟨x5,h6,h6a,h6b,h⟩:=zX h
 obtain ⟨x7,h8,h8a,h8b,h⟩:=zX h
 exact Mp h results239
theorem qgh (r1:List Row) (l2:List Atom) (r3:Bool) (h:qd0 r1 l2=some r3):Con D prog 190 [(.slc (v58 qag r1)),(.slc (v58 qcu l2))] (.bool r3):=by
 refine zP call190 func190 rfl ntmps190 fun X w hT=>?_
 simp only [qd0] at h
 refine Ml ?_
 refine M5 ?_
 obtain ⟨o4,h5,h⟩:=zB h
 refine zO (fun (s:Int)=>⟨[(0,.p (.slc (v58 qag r1))),(9,.p (.slc (v58 qcu l2))),(10,.p (.int .i64 (l2.length:Int))),(11,.p (.int .i64 s))],[]⟩) (fun (o:(Unit) ⊕ (Bool))=>match o with | .inl o6=>tE (cX Tryz.f190 X w D hT) (.exit 0) ⟨[],[]⟩ | .inr o7=>tR prog Tryz.f190 (.bool o7)) h5 ?_ ?_
 clear h h5
 intro t8 x h
 simp only [qeb] at h
 refine M9 ?_
 obtain ⟨h9,h⟩|⟨h9,h⟩:=zI h
 refine Mb ?_
 obtain ⟨x10,h11,h11a,h11b,h⟩:=zX h
 refine Mv ?_
 refine yU ?_
 obtain ⟨r12,h13,h⟩:=zB h
 refine yc (qsw r1 x10.Left _ h13) ?_
 refine yU ?_
 obtain ⟨r14,h15,h⟩:=zB h
 refine yc (qsw r1 x10.Right _ h15) ?_
 obtain ⟨r16,h17,h⟩:=zB h
 refine yc (qo8 r12 r14 _ h17) ?_
 refine T7 ?_
 refine Mc ?_
 refine Tb ?_
 refine Ma ?_
 obtain ⟨h18,h⟩|⟨h18,h⟩:=zI h
 refine zi<|zr ?_
 refine T8 ?_
 refine Ma ?_
 obtain ⟨h19,h⟩|⟨h19,h⟩:=zI h
 refine Me ?_
 exact M0 h
 refine M4 ?_
 cases h
 exact ⟨rfl,zT results190⟩
 refine Mx ?_
 refine Ma ?_
 obtain ⟨h20,h⟩|⟨h20,h⟩:=zI h
 refine zi<|zr ?_
 refine T8 ?_
 refine Ma ?_
 obtain ⟨h21,h⟩|⟨h21,h⟩:=zI h
 refine Me ?_
 exact M0 h
 refine M4 ?_
 cases h
 exact ⟨rfl,zT results190⟩
 refine Mx ?_
 refine Ma ?_
 obtain ⟨h22,h⟩|⟨h22,h⟩:=zI h
 refine zi<|zr ?_
 refine T8 ?_
 refine Ma ?_
 obtain ⟨h23,h⟩|⟨h23,h⟩:=zI h
 refine Me ?_
 exact M0 h
 refine M4 ?_
 cases h
 exact ⟨rfl,zT results190⟩
 refine Mx ?_
 refine Ma ?_
 obtain ⟨h24,h⟩|⟨h24,h⟩:=zI h
 refine zi<|zr ?_
 refine T8 ?_
 refine Ma ?_
 obtain ⟨h25,h⟩|⟨h25,h⟩:=zI h
 refine Me ?_
 exact M0 h
 refine M4 ?_
 cases h
 exact ⟨rfl,zT results190⟩
 refine T4 ?_
 refine Ma ?_
 refine M4 ?_
 cases h
 exact ⟨rfl,zT results190⟩
 exact M3 h
 rcases o4 with ⟨⟩ | r26
 try simp only at h
 refine Md ?_
 exact M1 h results190
 exact M8 h
theorem qo9 (s1:List Row) (f2:Row→Option (Bool)) (f2_k:FuncId) (f2_cs:List PV) (f2_h:∀(y3:Row) (r4:Bool),f2 y3=some r4→Con D prog f2_k ((qag y3) :: f2_cs) (.bool r4)) (r5:Int) (h:qeu s1 f2=some r5):Con D prog 162 [(.slc (v58 qag s1)),.func (.func f2_k) f2_cs] (.int .i64 r5):=by
 refine zP call162 func162 rfl ntmps162 fun X w hT=>?_
 simp only [qeu] at h
 refine Ml ?_
 refine M5 ?_
 obtain ⟨o6,h7,h⟩:=zB h
 refine zO (fun (s:Int)=>⟨[(0,.p (.slc (v58 qag s1))),(1,.p (.func (.func f2_k) f2_cs)),(7,.p (.int .i64 (s1.length:Int))),(8,.p (.int .i64 s))],[]⟩) (fun (o:(Unit) ⊕ (Int))=>match o with | .inl o8=>tE (cX Tryz.f162 X w D hT) (.exit 0) ⟨[],[]⟩ | .inr o9=>tR prog Tryz.f162 (.int .i64 o9)) h7 ?_ ?_
 clear h h7
 intro t10 x h
 simp only [qcn] at h
 refine M9 ?_
 obtain ⟨h11,h⟩|⟨h11,h⟩:=zI h
 refine Mb ?_
 refine M6 ?_
 obtain ⟨x12,h13,h13a,h13b,h⟩:=zX h
 refine zU ?_
 obtain ⟨r14,h15,h⟩:=zB h
 refine zc (f2_h x12 _ h15) ?_
 refine zl<|zn ?_
 obtain ⟨h16,h⟩|⟨h16,h⟩:=zI h
 refine M4 ?_
 cases h
 exact ⟨rfl,zT results162⟩
 refine Me ?_
 exact M0 h
 exact M3 h
 rcases o6 with ⟨⟩ | r17
 try simp only at h
 refine Md ?_
 exact M1 h results162
 exact M8 h
theorem qck (s1:List Row) (f2:Row→Option (Bool)) (f2_k:FuncId) (f2_cs:List PV) (f2_h:∀(y3:Row) (r4:Bool),f2 y3=some r4→Con D prog f2_k ((qag y3) :: f2_cs) (.bool r4)) (r5:Bool) (h:qa0 s1 f2=some r5):Con D prog 191 [(.slc (v58 qag s1)),.func (.func f2_k) f2_cs] (.bool r5):=by
 refine zP call191 func191 rfl ntmps191 fun X w hT=>?_
 simp only [qa0] at h
 refine Ml ?_
 refine M6 ?_
 refine zU ?_
 obtain ⟨r6,h7,h⟩:=zB h
 refine zc (qo9 s1 f2 f2_k f2_cs f2_h _ h7) ?_
 exact M1 h results191
theorem qhy (x1:Row) (c2:Row) (r3:Bool) (h:qc8 x1 c2=some r3):Con D prog 192 [(qag x1),.imm [.int .i64 c2.ID,.slc (v58 qaw c2.Values)]] (.bool r3):=by
 refine zP call192 func192 rfl ntmps192 fun X w hT=>?_
 simp only [qc8] at h
 refine Ml ?_
 refine M6 ?_
 exact M1 h results192
theorem qlg (t1:Table) (d2:Denial) (r3:List (List Int)×Int) (h:qdi t1 d2=some r3):Ip False prog 63 [.p (qaa t1),.p (qad d2)] [] (.tup [.own 300000 1 0 (r3.1).length,.p (.int .i64 r3.2)]) [(300000,.arr 37 1 1 (v58 AV.p (v58 (qav (uap .i64)) r3.1)))]:=by
 simp only [qdi] at h
 refine Ip.of_awp 0 ⟨[(4,.own 300000 1 0 (r3.1).length),(5,.p (.int .i64 r3.2))],[(300000,.arr 37 1 1 (v58 AV.p (v58 (qav (uap .i64)) r3.1)))]⟩ call63 func63 rfl ntmps63 (by simp) (by simp only [results63];simp only [go_sem,seval];all_goals exact rfl) fun X i4 w5 h6=>?_
 show AWp _ _ _ ⟨[(0,.p (qaa t1)),(1,.p (qad d2))],[]⟩
 refine Ml ?_
 refine Mc ?_
 refine zU ?_
 obtain ⟨r7,h8,h⟩:=zB h
 refine zc (qvc t1 d2 _ h8) ?_
 refine M6 ?_
 refine Ma ?_
 obtain ⟨h9,h⟩|⟨h9,h⟩:=zI h
 refine T5 ?_
 refine Ma ?_
 refine zL ⟨[(4,.own 300000 1 0 0),(5,.p (.int .i64 r7))],[(300000,.arr 37 1 1 [])]⟩ ?_
 refine zq<|zt ?_
 exact Mo h
 have h9F:=v5k.2 h9
 refine Mi ?_
 refine M6 ?_
 refine Ma ?_
 obtain ⟨o10,h11,h⟩:=zB h
 refine zJ (fun (o12:List (List Int)×Bool)=>tE ⟨prog,26,0,X,[],i4,w5,False,h6⟩ .normal ⟨[(8,.loc 8 1 0 0),(9,.p (.bool o12.2))],[(8,.arr 38 1 1 [.own 200008 1 0 o12.1.length]),(200008,.arr 37 1 1 (v58 AV.p (v58 (qav (uap .i64)) o12.1)))]⟩) o10 ?_ ?_
 replace h:=h11
 clear h11
 refine Td ?_
 refine zM ⟨[(8,.loc 8 1 0 0),(17,.p (qaa t1)),(18,.p (qad d2)),(19,.func (.func 130) [.loc 7 1 0 0,.loc 8 1 0 0])],[(7,.arr 173 1 1 [.mapo 16 1]),(8,.arr 38 1 1 [.own 200008 1 0 0]),(16,.map 1 [] []),(200008,.arr 37 1 1 [])]⟩ ?_
 obtain ⟨m13,h14,h⟩:=zB h
 replace h14:=v6z h14
 refine vk8 (st':=⟨[(8,.loc 8 1 0 0),(17,.p (qaa t1)),(18,.p (qad d2)),(19,.func (.func 130) [.loc 7 1 0 0,.loc 8 1 0 0])],[(7,.arr 173 1 1 [.mapo 16 1]),(8,.arr 38 1 1 [.own 200008 1 0 0]),(16,.map 1 (v58 AV.p (qfj qac m13)) (v58 AV.p (qfw PV.bool m13))),(200008,.arr 37 1 1 [])]⟩) (by simp only [go_sem,seval,h9F,←h14];all_goals ((repeat' refine uam ?_ ?_) <;> first | rfl | (simp;done) | (simp;rfl) | (simp [*];done) | (simp [*];rfl))) ?_
 clear h14
 refine zM ⟨[(8,.loc 8 1 0 0),(17,.p (qaa t1)),(18,.p (qad d2)),(19,.func (.func 130) [.loc 7 1 0 0,.loc 8 1 0 0])],[(7,.arr 173 1 1 [.mapo 16 1]),(8,.arr 38 1 1 [.own 200008 1 0 0]),(16,.map 1 (v58 AV.p (qfj qac m13)) (v58 AV.p (qfw PV.bool m13))),(200008,.arr 37 1 1 [])]⟩ ?_
 refine qfa (avs:=[.p (qaa t1),.p (qad d2),.nils,.func (.func 130) [.loc 7 1 0 0,.loc 8 1 0 0]]) 26 rfl (qa6 rfl) rfl func129 rfl call129 ntmps129 (by simp) (by simp only [go_sem,seval,h9F];all_goals rfl) ?_
 intro i15 w16 h17
 obtain ⟨l18,h19,h⟩:=zB h
 replace h19:=v6z h19
 refine q1l (st':=⟨[(0,.p (qaa t1)),(1,.p (qad d2)),(2,.p (.slc (v58 qag l18))),(3,.func (.func 130) [.loc 7 1 0 0,.loc 8 1 0 0])],[(7,.arr 173 1 1 [.mapo 16 1]),(8,.arr 38 1 1 [.own 200008 1 0 0]),(16,.map 1 (v58 AV.p (qfj qac m13)) (v58 AV.p (qfw PV.bool m13))),(200008,.arr 37 1 1 [])]⟩) (by simp only [go_sem,seval,h9F,←h19];all_goals ((repeat' refine uam ?_ ?_) <;> first | rfl | (simp;done) | (simp;rfl) | (simp [*];done) | (simp [*];rfl))) ?_
 clear h19
 refine Ml ?_
 refine Mc ?_
 refine Ma ?_
 obtain ⟨h20,h⟩|⟨h20,h⟩:=zI h
 refine Mr ?_
 obtain ⟨r21,h22,h⟩:=zB h
 refine zc (qgh l18 d2.Atoms _ h22) ?_
 refine zU ?_
 obtain ⟨h23,h⟩|⟨h23,h⟩:=zI h
 refine zw 21 false ?_
 refine M7 ?_
 refine zM ⟨[(21,.p (.bool false)),(22,.func (.func 130) [.loc 7 1 0 0,.loc 8 1 0 0]),(23,.p (.slc (v58 qag l18)))],[(7,.arr 173 1 1 [.mapo 16 1]),(8,.arr 38 1 1 [.own 200008 1 0 0]),(16,.map 1 (v58 AV.p (qfj qac m13)) (v58 AV.p (qfw PV.bool m13))),(200008,.arr 37 1 1 [])]⟩ ?_
 refine qfa (avs:=[.p (.slc (v58 qag l18)),.loc 7 1 0 0,.loc 8 1 0 0]) 73 rfl (qby rfl rfl (by exact rfl) (by exact rfl)) rfl func130 rfl call130 ntmps130 (by simp) (by simp only [go_sem,seval,h9F,h20,h23];all_goals rfl) ?_
 intro i24 w25 h26
 show AWp _ _ _ ⟨[(0,.p (.slc (v58 qag l18))),(1,.loc 7 1 0 0),(2,.loc 8 1 0 0)],[(7,.arr 173 1 1 [.mapo 16 1]),(8,.arr 38 1 1 [.own 200008 1 0 0]),(16,.map 1 (v58 AV.p (qfj qac m13)) (v58 AV.p (qfw PV.bool m13))),(200008,.arr 37 1 1 [])]⟩
 refine Ml ?_
 refine M6 ?_
 refine M5 ?_
 obtain ⟨l27,h28,h⟩:=zB h
 refine zO (fun (s:List Int×Int)=>⟨[(1,.loc 7 1 0 0),(2,.loc 8 1 0 0),(5,.own 92 1 0 s.1.length),(9,.p (.slc (v58 qag l18))),(10,.p (.int .i64 (l18.length:Int))),(11,.p (.int .i64 s.2))],[(7,.arr 173 1 1 [.mapo 16 1]),(8,.arr 38 1 1 [.own 200008 1 0 0]),(16,.map 1 (v58 AV.p (qfj qac m13)) (v58 AV.p (qfw PV.bool m13))),(92,.arr 2 1 1 (v58 AV.p (v58 (uap .i64) s.1))),(200008,.arr 37 1 1 (v58 AV.p (v58 (qav (uap .i64)) [])))]⟩) (fun (o29:List Int)=>tE ⟨prog,39,73,X,[(7,.arr 173 1 1 [.mapo 16 1]),(8,.arr 38 1 1 [.own 200008 1 0 0]),(16,.map 1 (v58 AV.p (qfj qac m13)) (v58 AV.p (qfw PV.bool m13))),(200008,.arr 37 1 1 [])],i24,w25,False,h26⟩ (.exit 0) ⟨[(1,.loc 7 1 0 0),(2,.loc 8 1 0 0),(5,.own 92 1 0 o29.length)],[(7,.arr 173 1 1 [.mapo 16 1]),(8,.arr 38 1 1 [.own 200008 1 0 0]),(16,.map 1 (v58 AV.p (qfj qac m13)) (v58 AV.p (qfw PV.bool m13))),(92,.arr 2 1 1 (v58 AV.p (v58 (uap .i64) o29))),(200008,.arr 37 1 1 (v58 AV.p (v58 (qav (uap .i64)) [])))]⟩) h28 ?_ ?_
 clear h h8 h9 h9F h20 h22 h23 h28
 intro s x h
 obtain ⟨l30,t31⟩:=s
 simp only [qls] at h
 dsimp only
 refine M9 ?_
 obtain ⟨h32,h⟩|⟨h32,h⟩:=zI h
 refine Mb ?_
 obtain ⟨x33,h34,h34a,h34b,h⟩:=zX h
 refine Mu ?_
 obtain ⟨h35,h⟩:=qae h
 refine Mk ?_
 exact M0 h
 exact M3 h
 try simp only at h
 refine Md ?_
 refine zU ?_
 refine zM ⟨[(1,.loc 7 1 0 0),(2,.loc 8 1 0 0),(5,.own 92 1 0 l27.length),(21,.own 92 1 0 l27.length)],[(7,.arr 173 1 1 [.mapo 16 1]),(8,.arr 38 1 1 [.own 200008 1 0 0]),(16,.map 1 (v58 AV.p (qfj qac m13)) (v58 AV.p (qfw PV.bool m13))),(92,.arr 2 1 1 (v58 AV.p (v58 (uap .i64) l27))),(200008,.arr 37 1 1 (v58 AV.p (v58 (qav (uap .i64)) [])))]⟩ ?_
 obtain ⟨l36,h37,h⟩:=zB h
 refine zSI srt131 h37 ?_
 have h38:=qud h37
 refine zM ⟨[(1,.loc 7 1 0 0),(2,.loc 8 1 0 0),(5,.own 92 1 0 l36.length),(22,.p (.tup []))],[(7,.arr 173 1 1 [.mapo 16 1]),(8,.arr 38 1 1 [.own 200008 1 0 0]),(16,.map 1 (v58 AV.p (qfj qac m13)) (v58 AV.p (qfw PV.bool m13))),(92,.arr 2 1 1 (v58 AV.p (v58 (uap .i64) l36))),(200008,.arr 37 1 1 (v58 AV.p (v58 (qav (uap .i64)) [])))]⟩ ?_
 clear h38
 refine T6 ?_
 refine M6 ?_
 refine zM ⟨[(1,.loc 7 1 0 0),(2,.loc 8 1 0 0),(5,.p (.slc (v58 (uap .i64) l36))),(8,.loc 81 1 0 0)],[(7,.arr 173 1 1 [.mapo 16 1]),(8,.arr 38 1 1 [.own 200008 1 0 0]),(16,.map 1 (v58 AV.p (qfj qac m13)) (v58 AV.p (qfw PV.bool m13))),(81,.arr 174 3 1 [.p (.agg [.int .i64 0,.int .i64 0,.int .i64 0])]),(200008,.arr 37 1 1 (v58 AV.p (v58 (qav (uap .i64)) [])))]⟩ ?_
 refine vx5 81 0 0 0 l36 underlying174 underlying37 ?_
 refine zl<|zn<|zs<|zs<|zr ?_
 refine Ma ?_
 obtain ⟨h39,h⟩|⟨h39,h⟩:=zI h
 refine Mi ?_
 refine My ?_
 refine qa8 (by simp only [results130];simp only [go_sem,seval,h9F,h20,h23,h39];exact rfl) ?_
 refine Mm ?_
 refine qa8 (by simp only [results129];simp only [go_sem,seval,h9F,h20,h23,h39];exact rfl) ?_
 exact M0 h
 have h39F:=v5k.2 h39
 refine T5 ?_
 refine Mu ?_
 have h40:qbi 1 24=true:=by decide
 refine M6 ?_
 refine My ?_
 refine qa8 (by simp only [results130];simp only [go_sem,seval,h9F,h20,h23,h39F];exact rfl) ?_
 refine Mm ?_
 refine qa8 (by simp only [results129];simp only [go_sem,seval,h9F,h20,h23,h39F];exact rfl) ?_
 exact M0 h
 have h23F:=v5k.2 h23
 refine zw 21 true ?_
 refine zh ?_
 refine Mm ?_
 refine qa8 (by simp only [results129];simp only [go_sem,seval,h9F,h20,h23F];exact rfl) ?_
 exact M0 h
 have h20F:=v5k.2 h20
 refine Mj ?_
 refine Mq ?_
 obtain ⟨o41,h42,h⟩:=zB h
 refine zO (fun (s:(List (Arr3_int64×Bool))×List (List Int)×Int)=>⟨[(2,.p (.slc (v58 qag l18))),(3,.func (.func 130) [.loc 7 1 0 0,.loc 8 1 0 0]),(4,.loc 30 1 0 0),(5,.loc 31 1 0 0),(27,.p (.slc (v58 qag t1.Rows))),(28,.p (.int .i64 (t1.Rows.length:Int))),(29,.p (.int .i64 s.2.2))],[(7,.arr 173 1 1 [.mapo 16 1]),(8,.arr 38 1 1 [.own 200008 2 0 s.2.1.length]),(16,.map 1 (v58 AV.p (qfj qac s.1)) (v58 AV.p (qfw PV.bool s.1))),(30,.arr 29 3 1 [.p (qaa t1)]),(31,.arr 74 2 1 [.p (qad d2)]),(200008,.arr 37 1 2 (v58 AV.p (v58 (qav (uap .i64)) s.2.1)))]⟩) (fun (o:((List (Arr3_int64×Bool))×List (List Int)) ⊕ ((List (Arr3_int64×Bool))×List (List Int)))=>match o with | .inl o43=>tE ⟨prog,47,26,X,[(7,.arr 173 1 1 [.mapo 16 1]),(8,.arr 38 1 1 [.own 200008 1 0 0]),(16,.map 1 (v58 AV.p (qfj qac m13)) (v58 AV.p (qfw PV.bool m13))),(200008,.arr 37 1 1 [])],i15,w16,False,h17⟩ (.exit 0) ⟨[],[(7,.arr 173 1 1 [.mapo 16 1]),(8,.arr 38 1 1 [.own 200008 2 0 o43.2.length]),(16,.map 1 (v58 AV.p (qfj qac o43.1)) (v58 AV.p (qfw PV.bool o43.1))),(200008,.arr 37 1 2 (v58 AV.p (v58 (qav (uap .i64)) o43.2)))]⟩ | .inr o44=>tE ⟨prog,47,26,X,[(7,.arr 173 1 1 [.mapo 16 1]),(8,.arr 38 1 1 [.own 200008 1 0 0]),(16,.map 1 (v58 AV.p (qfj qac m13)) (v58 AV.p (qfw PV.bool m13))),(200008,.arr 37 1 1 [])],i15,w16,False,h17⟩ .ret ⟨[(8,.p (.bool false))],[(7,.arr 173 1 1 [.mapo 16 1]),(8,.arr 38 1 1 [.own 200008 2 0 o44.2.length]),(16,.map 1 (v58 AV.p (qfj qac o44.1)) (v58 AV.p (qfw PV.bool o44.1))),(200008,.arr 37 1 2 (v58 AV.p (v58 (qav (uap .i64)) o44.2)))]⟩) h42 ?_ ?_
 clear h h8 h9 h9F h20 h20F h42
 intro s x h
 obtain ⟨f45,f46,t47⟩:=s
 simp only [qbn] at h
 dsimp only
 refine M9 ?_
 obtain ⟨h48,h⟩|⟨h48,h⟩:=zI h
 have h48T:=eq_true h48
 refine Mb ?_
 obtain ⟨x49,h50,h50a,h50b,h⟩:=zX h
 refine Mc ?_
 refine zU ?_
 obtain ⟨r51,h52,h⟩:=zB h
 refine zc (qck l18 (fun (y53:Row)=>qc8 y53 x49) 192 [.imm [.int .i64 x49.ID,.slc (v58 qaw x49.Values)]] (fun y53 r h=>qhy y53 x49 r h) _ h52) ?_
 refine zl<|zn ?_
 obtain ⟨h54,h⟩|⟨h54,h⟩:=zI h
 refine zi<|zx<|ze<|yh<|zn<|zr ?_
 exact M0 h
 have h54F:=v5k.2 h54
 refine zj<|zk<|zn<|zs ?_
 refine zdl 8 ?_
 refine yU ?_
 obtain ⟨h55,h⟩:=qae h
 refine yK cln193 65 qag l18 _ rfl ⟨by unfold maxLen;omega,by omega⟩ ?_
 have h56:=@q3i PV
 obtain ⟨h57,h⟩:=qae h
 refine yU ?_
 refine ydlS ?_
 refine zM ⟨[(2,.p (.slc (v58 qag l18))),(3,.func (.func 130) [.loc 7 1 0 0,.loc 8 1 0 0]),(4,.loc 30 1 0 0),(5,.loc 31 1 0 0),(27,.p (.slc (v58 qag t1.Rows))),(28,.p (.int .i64 (t1.Rows.length:Int))),(29,.p (.int .i64 t47)),(36,.p (qaa t1)),(37,.p (qad d2)),(42,.p (.slc (v58 qag (l18++[x49])))),(43,.func (.func 130) [.loc 7 1 0 0,.loc 8 1 0 0])],[(7,.arr 173 1 1 [.mapo 16 1]),(8,.arr 38 1 1 [.own 200008 2 0 f46.length]),(16,.map 1 (v58 AV.p (qfj qac f45)) (v58 AV.p (qfw PV.bool f45))),(30,.arr 29 3 1 [.p (qaa t1)]),(31,.arr 74 2 1 [.p (qad d2)]),(200008,.arr 37 1 2 (v58 AV.p (v58 (qav (uap .i64)) f46)))]⟩ ?_
 refine qfa (avs:=[.p (qaa t1),.p (qad d2),.p (.slc (v58 qag (l18++[x49]))),.func (.func 130) [.loc 7 1 0 0,.loc 8 1 0 0]]) 112 rfl (qa6 rfl) rfl func129 rfl call129 ntmps129 (by simp) (by simp only [go_sem,seval,h48T,h54F];all_goals rfl) ?_
 intro i58 w59 h60
 obtain ⟨l61,h62,h⟩:=zB h
 replace h62:=v6z h62
 refine q1l (st':=⟨[(0,.p (qaa t1)),(1,.p (qad d2)),(2,.p (.slc (v58 qag l61))),(3,.func (.func 130) [.loc 7 1 0 0,.loc 8 1 0 0])],[(7,.arr 173 1 1 [.mapo 16 1]),(8,.arr 38 1 1 [.own 200008 2 0 f46.length]),(16,.map 1 (v58 AV.p (qfj qac f45)) (v58 AV.p (qfw PV.bool f45))),(30,.arr 29 3 1 [.p (qaa t1)]),(31,.arr 74 2 1 [.p (qad d2)]),(200008,.arr 37 1 2 (v58 AV.p (v58 (qav (uap .i64)) f46)))]⟩) (by simp only [go_sem,seval,h48T,h54F,←h62];all_goals ((repeat' refine uam ?_ ?_) <;> first | rfl | (simp;done) | (simp;rfl) | (simp [*];done) | (simp [*];rfl))) ?_
 clear h62
 refine Ml ?_
 refine Mc ?_
 refine Ma ?_
 obtain ⟨h63,h⟩|⟨h63,h⟩:=zI h
 refine Mr ?_
 obtain ⟨r64,h65,h⟩:=zB h
 refine zc (qgh l61 d2.Atoms _ h65) ?_
 refine zU ?_
 obtain ⟨h66,h⟩|⟨h66,h⟩:=zI h
 refine zw 21 false ?_
 refine M7 ?_
 refine zM ⟨[(21,.p (.bool false)),(22,.func (.func 130) [.loc 7 1 0 0,.loc 8 1 0 0]),(23,.p (.slc (v58 qag l61)))],[(7,.arr 173 1 1 [.mapo 16 1]),(8,.arr 38 1 1 [.own 200008 2 0 f46.length]),(16,.map 1 (v58 AV.p (qfj qac f45)) (v58 AV.p (qfw PV.bool f45))),(30,.arr 29 3 1 [.p (qaa t1)]),(31,.arr 74 2 1 [.p (qad d2)]),(200008,.arr 37 1 2 (v58 AV.p (v58 (qav (uap .i64)) f46)))]⟩ ?_
 refine qfa (avs:=[.p (.slc (v58 qag l61)),.loc 7 1 0 0,.loc 8 1 0 0]) 159 rfl (qby rfl rfl (by exact rfl) (by exact rfl)) rfl func130 rfl call130 ntmps130 (by simp) (by simp only [go_sem,seval,h48T,h54F,h63,h66];all_goals rfl) ?_
 intro i67 w68 h69
 show AWp _ _ _ ⟨[(0,.p (.slc (v58 qag l61))),(1,.loc 7 1 0 0),(2,.loc 8 1 0 0)],[(7,.arr 173 1 1 [.mapo 16 1]),(8,.arr 38 1 1 [.own 200008 2 0 f46.length]),(16,.map 1 (v58 AV.p (qfj qac f45)) (v58 AV.p (qfw PV.bool f45))),(30,.arr 29 3 1 [.p (qaa t1)]),(31,.arr 74 2 1 [.p (qad d2)]),(200008,.arr 37 1 2 (v58 AV.p (v58 (qav (uap .i64)) f46)))]⟩
 refine Ml ?_
 refine M6 ?_
 refine M5 ?_
 obtain ⟨l70,h71,h⟩:=zB h
 refine zO (fun (s:List Int×Int)=>⟨[(1,.loc 7 1 0 0),(2,.loc 8 1 0 0),(5,.own 178 1 0 s.1.length),(9,.p (.slc (v58 qag l61))),(10,.p (.int .i64 (l61.length:Int))),(11,.p (.int .i64 s.2))],[(7,.arr 173 1 1 [.mapo 16 1]),(8,.arr 38 1 1 [.own 200008 2 0 f46.length]),(16,.map 1 (v58 AV.p (qfj qac f45)) (v58 AV.p (qfw PV.bool f45))),(30,.arr 29 3 1 [.p (qaa t1)]),(31,.arr 74 2 1 [.p (qad d2)]),(178,.arr 2 1 1 (v58 AV.p (v58 (uap .i64) s.1))),(200008,.arr 37 1 2 (v58 AV.p (v58 (qav (uap .i64)) f46)))]⟩) (fun (o72:List Int)=>tE ⟨prog,39,159,X,[(7,.arr 173 1 1 [.mapo 16 1]),(8,.arr 38 1 1 [.own 200008 2 0 f46.length]),(16,.map 1 (v58 AV.p (qfj qac f45)) (v58 AV.p (qfw PV.bool f45))),(30,.arr 29 3 1 [.p (qaa t1)]),(31,.arr 74 2 1 [.p (qad d2)]),(200008,.arr 37 1 2 (v58 AV.p (v58 (qav (uap .i64)) f46)))],i67,w68,False,h69⟩ (.exit 0) ⟨[(1,.loc 7 1 0 0),(2,.loc 8 1 0 0),(5,.own 178 1 0 o72.length)],[(7,.arr 173 1 1 [.mapo 16 1]),(8,.arr 38 1 1 [.own 200008 2 0 f46.length]),(16,.map 1 (v58 AV.p (qfj qac f45)) (v58 AV.p (qfw PV.bool f45))),(30,.arr 29 3 1 [.p (qaa t1)]),(31,.arr 74 2 1 [.p (qad d2)]),(178,.arr 2 1 1 (v58 AV.p (v58 (uap .i64) o72))),(200008,.arr 37 1 2 (v58 AV.p (v58 (qav (uap .i64)) f46)))]⟩) h71 ?_ ?_
 clear h h48 h48T h50 h50a h50b h52 h54 h54F h55 h56 h57 h63 h65 h66 h71
 intro s x h
 obtain ⟨l73,t74⟩:=s
 simp only [qiu] at h
 dsimp only
 refine M9 ?_
 obtain ⟨h75,h⟩|⟨h75,h⟩:=zI h
 refine Mb ?_
 obtain ⟨x76,h77,h77a,h77b,h⟩:=zX h
 refine Mu ?_
 obtain ⟨h78,h⟩:=qae h
 refine Mk ?_
 exact M0 h
 exact M3 h
 try simp only at h
 refine Md ?_
 refine zU ?_
 refine zM ⟨[(1,.loc 7 1 0 0),(2,.loc 8 1 0 0),(5,.own 178 1 0 l70.length),(21,.own 178 1 0 l70.length)],[(7,.arr 173 1 1 [.mapo 16 1]),(8,.arr 38 1 1 [.own 200008 2 0 f46.length]),(16,.map 1 (v58 AV.p (qfj qac f45)) (v58 AV.p (qfw PV.bool f45))),(30,.arr 29 3 1 [.p (qaa t1)]),(31,.arr 74 2 1 [.p (qad d2)]),(178,.arr 2 1 1 (v58 AV.p (v58 (uap .i64) l70))),(200008,.arr 37 1 2 (v58 AV.p (v58 (qav (uap .i64)) f46)))]⟩ ?_
 obtain ⟨l79,h80,h⟩:=zB h
 refine zSI srt131 h80 ?_
 have h81:=qud h80
 refine zM ⟨[(1,.loc 7 1 0 0),(2,.loc 8 1 0 0),(5,.own 178 1 0 l79.length),(22,.p (.tup []))],[(7,.arr 173 1 1 [.mapo 16 1]),(8,.arr 38 1 1 [.own 200008 2 0 f46.length]),(16,.map 1 (v58 AV.p (qfj qac f45)) (v58 AV.p (qfw PV.bool f45))),(30,.arr 29 3 1 [.p (qaa t1)]),(31,.arr 74 2 1 [.p (qad d2)]),(178,.arr 2 1 1 (v58 AV.p (v58 (uap .i64) l79))),(200008,.arr 37 1 2 (v58 AV.p (v58 (qav (uap .i64)) f46)))]⟩ ?_
 clear h81
 refine T6 ?_
 refine M6 ?_
 refine zM ⟨[(1,.loc 7 1 0 0),(2,.loc 8 1 0 0),(5,.p (.slc (v58 (uap .i64) l79))),(8,.loc 167 1 0 0)],[(7,.arr 173 1 1 [.mapo 16 1]),(8,.arr 38 1 1 [.own 200008 2 0 f46.length]),(16,.map 1 (v58 AV.p (qfj qac f45)) (v58 AV.p (qfw PV.bool f45))),(30,.arr 29 3 1 [.p (qaa t1)]),(31,.arr 74 2 1 [.p (qad d2)]),(167,.arr 174 3 1 [.p (.agg [.int .i64 0,.int .i64 0,.int .i64 0])]),(200008,.arr 37 1 2 (v58 AV.p (v58 (qav (uap .i64)) f46)))]⟩ ?_
 refine vx5 167 0 0 0 l79 underlying174 underlying37 ?_
 refine zl<|zn<|zs<|zs<|zr ?_
 refine Ma ?_
 obtain ⟨h82,h⟩|⟨h82,h⟩:=zI h
 refine Mi ?_
 refine My ?_
 refine qa8 (by simp only [results130];simp only [go_sem,seval,h48T,h54F,h63,h66,h82];exact rfl) ?_
 refine Mm ?_
 refine qa8 (by simp only [results129];simp only [go_sem,seval,h48T,h54F,h63,h66,h82];exact rfl) ?_
 refine Ma ?_
 obtain ⟨h83,h⟩|⟨h83,h⟩:=zI h
 refine Me ?_
 exact M0 h
 refine M4 ?_
 exact Mo h
 have h82F:=v5k.2 h82
 refine T5 ?_
 refine Mu ?_
 obtain ⟨h84,h⟩:=qae h
 refine M6 ?_
 refine My ?_
 refine qa8 (by simp only [results130];simp only [go_sem,seval,h48T,h54F,h63,h66,h82F];exact rfl) ?_
 refine Mm ?_
 refine qa8 (by simp only [results129];simp only [go_sem,seval,h48T,h54F,h63,h66,h82F];exact rfl) ?_
 refine Ma ?_
 obtain ⟨h85,h⟩|⟨h85,h⟩:=zI h
 refine Me ?_
 exact M0 h
 refine M4 ?_
 exact Mo h
 have h66F:=v5k.2 h66
 refine zw 21 true ?_
 refine zh ?_
 refine Mm ?_
 refine qa8 (by simp only [results129];simp only [go_sem,seval,h48T,h54F,h63,h66F];exact rfl) ?_
 refine Ma ?_
 refine Me ?_
 exact M0 h
 have h63F:=v5k.2 h63
 refine Mj ?_
 refine Mq ?_
 obtain ⟨o86,h87,h⟩:=zB h
 refine zO (fun (s:(List (Arr3_int64×Bool))×List (List Int)×Int)=>⟨[(2,.p (.slc (v58 qag l61))),(3,.func (.func 130) [.loc 7 1 0 0,.loc 8 1 0 0]),(4,.loc 116 1 0 0),(5,.loc 117 1 0 0),(27,.p (.slc (v58 qag t1.Rows))),(28,.p (.int .i64 (t1.Rows.length:Int))),(29,.p (.int .i64 s.2.2))],[(7,.arr 173 1 1 [.mapo 16 1]),(8,.arr 38 1 1 [.own 200008 3 0 s.2.1.length]),(16,.map 1 (v58 AV.p (qfj qac s.1)) (v58 AV.p (qfw PV.bool s.1))),(30,.arr 29 3 1 [.p (qaa t1)]),(31,.arr 74 2 1 [.p (qad d2)]),(116,.arr 29 3 1 [.p (qaa t1)]),(117,.arr 74 2 1 [.p (qad d2)]),(200008,.arr 37 1 3 (v58 AV.p (v58 (qav (uap .i64)) s.2.1)))]⟩) (fun (o:((List (Arr3_int64×Bool))×List (List Int)) ⊕ ((List (Arr3_int64×Bool))×List (List Int)))=>match o with | .inl o88=>tE ⟨prog,47,112,X,[(7,.arr 173 1 1 [.mapo 16 1]),(8,.arr 38 1 1 [.own 200008 2 0 f46.length]),(16,.map 1 (v58 AV.p (qfj qac f45)) (v58 AV.p (qfw PV.bool f45))),(30,.arr 29 3 1 [.p (qaa t1)]),(31,.arr 74 2 1 [.p (qad d2)]),(200008,.arr 37 1 2 (v58 AV.p (v58 (qav (uap .i64)) f46)))],i58,w59,False,h60⟩ (.exit 0) ⟨[],[(7,.arr 173 1 1 [.mapo 16 1]),(8,.arr 38 1 1 [.own 200008 3 0 o88.2.length]),(16,.map 1 (v58 AV.p (qfj qac o88.1)) (v58 AV.p (qfw PV.bool o88.1))),(30,.arr 29 3 1 [.p (qaa t1)]),(31,.arr 74 2 1 [.p (qad d2)]),(200008,.arr 37 1 3 (v58 AV.p (v58 (qav (uap .i64)) o88.2)))]⟩ | .inr o89=>tE ⟨prog,47,112,X,[(7,.arr 173 1 1 [.mapo 16 1]),(8,.arr 38 1 1 [.own 200008 2 0 f46.length]),(16,.map 1 (v58 AV.p (qfj qac f45)) (v58 AV.p (qfw PV.bool f45))),(30,.arr 29 3 1 [.p (qaa t1)]),(31,.arr 74 2 1 [.p (qad d2)]),(200008,.arr 37 1 2 (v58 AV.p (v58 (qav (uap .i64)) f46)))],i58,w59,False,h60⟩ .ret ⟨[(8,.p (.bool false))],[(7,.arr 173 1 1 [.mapo 16 1]),(8,.arr 38 1 1 [.own 200008 3 0 o89.2.length]),(16,.map 1 (v58 AV.p (qfj qac o89.1)) (v58 AV.p (qfw PV.bool o89.1))),(30,.arr 29 3 1 [.p (qaa t1)]),(31,.arr 74 2 1 [.p (qad d2)]),(200008,.arr 37 1 3 (v58 AV.p (v58 (qav (uap .i64)) o89.2)))]⟩) h87 ?_ ?_
 clear h h48 h48T h50 h50a h50b h52 h54 h54F h55 h56 h57 h63 h63F h87
 intro s x h
 obtain ⟨f90,f91,t92⟩:=s
 simp only [qbm] at h
 dsimp only
 refine M9 ?_
 obtain ⟨h93,h⟩|⟨h93,h⟩:=zI h
 have h93T:=eq_true h93
 refine Mb ?_
 obtain ⟨x94,h95,h95a,h95b,h⟩:=zX h
 refine Mc ?_
 refine zU ?_
 obtain ⟨r96,h97,h⟩:=zB h
 refine zc (qck l61 (fun (y98:Row)=>qc8 y98 x94) 192 [.imm [.int .i64 x94.ID,.slc (v58 qaw x94.Values)]] (fun y98 r h=>qhy y98 x94 r h) _ h97) ?_
 refine zl<|zn ?_
 obtain ⟨h99,h⟩|⟨h99,h⟩:=zI h
 refine zi<|zx<|ze<|yh<|zn<|zr ?_
 exact M0 h
 have h99F:=v5k.2 h99
 refine zj<|zk<|zn<|zs ?_
 refine zdl 8 ?_
 refine yU ?_
 obtain ⟨h100,h⟩:=qae h
 refine yK cln193 151 qag l61 _ rfl ⟨by unfold maxLen;omega,by omega⟩ ?_
 have h101:=@q3i PV
 obtain ⟨h102,h⟩:=qae h
 refine yU ?_
 refine ydlS ?_
 refine zM ⟨[(2,.p (.slc (v58 qag l61))),(3,.func (.func 130) [.loc 7 1 0 0,.loc 8 1 0 0]),(4,.loc 116 1 0 0),(5,.loc 117 1 0 0),(27,.p (.slc (v58 qag t1.Rows))),(28,.p (.int .i64 (t1.Rows.length:Int))),(29,.p (.int .i64 t92)),(36,.p (qaa t1)),(37,.p (qad d2)),(42,.p (.slc (v58 qag (l61++[x94])))),(43,.func (.func 130) [.loc 7 1 0 0,.loc 8 1 0 0])],[(7,.arr 173 1 1 [.mapo 16 1]),(8,.arr 38 1 1 [.own 200008 3 0 f91.length]),(16,.map 1 (v58 AV.p (qfj qac f90)) (v58 AV.p (qfw PV.bool f90))),(30,.arr 29 3 1 [.p (qaa t1)]),(31,.arr 74 2 1 [.p (qad d2)]),(116,.arr 29 3 1 [.p (qaa t1)]),(117,.arr 74 2 1 [.p (qad d2)]),(200008,.arr 37 1 3 (v58 AV.p (v58 (qav (uap .i64)) f91)))]⟩ ?_
 refine qfa (avs:=[.p (qaa t1),.p (qad d2),.p (.slc (v58 qag (l61++[x94]))),.func (.func 130) [.loc 7 1 0 0,.loc 8 1 0 0]]) 198 rfl (qa6 rfl) rfl func129 rfl call129 ntmps129 (by simp) (by simp only [go_sem,seval,h93T,h99F];all_goals rfl) ?_
 intro i103 w104 h105
 obtain ⟨l106,h107,h⟩:=zB h
 replace h107:=v6z h107
 refine q1l (st':=⟨[(0,.p (qaa t1)),(1,.p (qad d2)),(2,.p (.slc (v58 qag l106))),(3,.func (.func 130) [.loc 7 1 0 0,.loc 8 1 0 0])],[(7,.arr 173 1 1 [.mapo 16 1]),(8,.arr 38 1 1 [.own 200008 3 0 f91.length]),(16,.map 1 (v58 AV.p (qfj qac f90)) (v58 AV.p (qfw PV.bool f90))),(30,.arr 29 3 1 [.p (qaa t1)]),(31,.arr 74 2 1 [.p (qad d2)]),(116,.arr 29 3 1 [.p (qaa t1)]),(117,.arr 74 2 1 [.p (qad d2)]),(200008,.arr 37 1 3 (v58 AV.p (v58 (qav (uap .i64)) f91)))]⟩) (by simp only [go_sem,seval,h93T,h99F,←h107];all_goals ((repeat' refine uam ?_ ?_) <;> first | rfl | (simp;done) | (simp;rfl) | (simp [*];done) | (simp [*];rfl))) ?_
 clear h107
 refine Ml ?_
 refine Mc ?_
 refine Ma ?_
 obtain ⟨h108,h⟩|⟨h108,h⟩:=zI h
 refine Mr ?_
 obtain ⟨r109,h110,h⟩:=zB h
 refine zc (qgh l106 d2.Atoms _ h110) ?_
 refine zU ?_
 obtain ⟨h111,h⟩|⟨h111,h⟩:=zI h
 refine zw 21 false ?_
 refine M7 ?_
 refine zM ⟨[(21,.p (.bool false)),(22,.func (.func 130) [.loc 7 1 0 0,.loc 8 1 0 0]),(23,.p (.slc (v58 qag l106)))],[(7,.arr 173 1 1 [.mapo 16 1]),(8,.arr 38 1 1 [.own 200008 3 0 f91.length]),(16,.map 1 (v58 AV.p (qfj qac f90)) (v58 AV.p (qfw PV.bool f90))),(30,.arr 29 3 1 [.p (qaa t1)]),(31,.arr 74 2 1 [.p (qad d2)]),(116,.arr 29 3 1 [.p (qaa t1)]),(117,.arr 74 2 1 [.p (qad d2)]),(200008,.arr 37 1 3 (v58 AV.p (v58 (qav (uap .i64)) f91)))]⟩ ?_
 refine qfa (avs:=[.p (.slc (v58 qag l106)),.loc 7 1 0 0,.loc 8 1 0 0]) 245 rfl (qby rfl rfl (by exact rfl) (by exact rfl)) rfl func130 rfl call130 ntmps130 (by simp) (by simp only [go_sem,seval,h93T,h99F,h108,h111];all_goals rfl) ?_
 intro i112 w113 h114
 show AWp _ _ _ ⟨[(0,.p (.slc (v58 qag l106))),(1,.loc 7 1 0 0),(2,.loc 8 1 0 0)],[(7,.arr 173 1 1 [.mapo 16 1]),(8,.arr 38 1 1 [.own 200008 3 0 f91.length]),(16,.map 1 (v58 AV.p (qfj qac f90)) (v58 AV.p (qfw PV.bool f90))),(30,.arr 29 3 1 [.p (qaa t1)]),(31,.arr 74 2 1 [.p (qad d2)]),(116,.arr 29 3 1 [.p (qaa t1)]),(117,.arr 74 2 1 [.p (qad d2)]),(200008,.arr 37 1 3 (v58 AV.p (v58 (qav (uap .i64)) f91)))]⟩
 refine Ml ?_
 refine M6 ?_
 refine M5 ?_
 obtain ⟨l115,h116,h⟩:=zB h
 refine zO (fun (s:List Int×Int)=>⟨[(1,.loc 7 1 0 0),(2,.loc 8 1 0 0),(5,.own 264 1 0 s.1.length),(9,.p (.slc (v58 qag l106))),(10,.p (.int .i64 (l106.length:Int))),(11,.p (.int .i64 s.2))],[(7,.arr 173 1 1 [.mapo 16 1]),(8,.arr 38 1 1 [.own 200008 3 0 f91.length]),(16,.map 1 (v58 AV.p (qfj qac f90)) (v58 AV.p (qfw PV.bool f90))),(30,.arr 29 3 1 [.p (qaa t1)]),(31,.arr 74 2 1 [.p (qad d2)]),(116,.arr 29 3 1 [.p (qaa t1)]),(117,.arr 74 2 1 [.p (qad d2)]),(264,.arr 2 1 1 (v58 AV.p (v58 (uap .i64) s.1))),(200008,.arr 37 1 3 (v58 AV.p (v58 (qav (uap .i64)) f91)))]⟩) (fun (o117:List Int)=>tE ⟨prog,39,245,X,[(7,.arr 173 1 1 [.mapo 16 1]),(8,.arr 38 1 1 [.own 200008 3 0 f91.length]),(16,.map 1 (v58 AV.p (qfj qac f90)) (v58 AV.p (qfw PV.bool f90))),(30,.arr 29 3 1 [.p (qaa t1)]),(31,.arr 74 2 1 [.p (qad d2)]),(116,.arr 29 3 1 [.p (qaa t1)]),(117,.arr 74 2 1 [.p (qad d2)]),(200008,.arr 37 1 3 (v58 AV.p (v58 (qav (uap .i64)) f91)))],i112,w113,False,h114⟩ (.exit 0) ⟨[(1,.loc 7 1 0 0),(2,.loc 8 1 0 0),(5,.own 264 1 0 o117.length)],[(7,.arr 173 1 1 [.mapo 16 1]),(8,.arr 38 1 1 [.own 200008 3 0 f91.length]),(16,.map 1 (v58 AV.p (qfj qac f90)) (v58 AV.p (qfw PV.bool f90))),(30,.arr 29 3 1 [.p (qaa t1)]),(31,.arr 74 2 1 [.p (qad d2)]),(116,.arr 29 3 1 [.p (qaa t1)]),(117,.arr 74 2 1 [.p (qad d2)]),(264,.arr 2 1 1 (v58 AV.p (v58 (uap .i64) o117))),(200008,.arr 37 1 3 (v58 AV.p (v58 (qav (uap .i64)) f91)))]⟩) h116 ?_ ?_
 clear h h93 h93T h95 h95a h95b h97 h99 h99F h100 h101 h102 h108 h110 h111 h116
 intro s x h
 obtain ⟨l118,t119⟩:=s
 simp only [qiv] at h
 dsimp only
 refine M9 ?_
 obtain ⟨h120,h⟩|⟨h120,h⟩:=zI h
 refine Mb ?_
 obtain ⟨x121,h122,h122a,h122b,h⟩:=zX h
 refine Mu ?_
 obtain ⟨h123,h⟩:=qae h
 refine Mk ?_
 exact M0 h
 exact M3 h
 try simp only at h
 refine Md ?_
 refine zU ?_
 refine zM ⟨[(1,.loc 7 1 0 0),(2,.loc 8 1 0 0),(5,.own 264 1 0 l115.length),(21,.own 264 1 0 l115.length)],[(7,.arr 173 1 1 [.mapo 16 1]),(8,.arr 38 1 1 [.own 200008 3 0 f91.length]),(16,.map 1 (v58 AV.p (qfj qac f90)) (v58 AV.p (qfw PV.bool f90))),(30,.arr 29 3 1 [.p (qaa t1)]),(31,.arr 74 2 1 [.p (qad d2)]),(116,.arr 29 3 1 [.p (qaa t1)]),(117,.arr 74 2 1 [.p (qad d2)]),(264,.arr 2 1 1 (v58 AV.p (v58 (uap .i64) l115))),(200008,.arr 37 1 3 (v58 AV.p (v58 (qav (uap .i64)) f91)))]⟩ ?_
 obtain ⟨l124,h125,h⟩:=zB h
 refine zSI srt131 h125 ?_
 have h126:=qud h125
 refine zM ⟨[(1,.loc 7 1 0 0),(2,.loc 8 1 0 0),(5,.own 264 1 0 l124.length),(22,.p (.tup []))],[(7,.arr 173 1 1 [.mapo 16 1]),(8,.arr 38 1 1 [.own 200008 3 0 f91.length]),(16,.map 1 (v58 AV.p (qfj qac f90)) (v58 AV.p (qfw PV.bool f90))),(30,.arr 29 3 1 [.p (qaa t1)]),(31,.arr 74 2 1 [.p (qad d2)]),(116,.arr 29 3 1 [.p (qaa t1)]),(117,.arr 74 2 1 [.p (qad d2)]),(264,.arr 2 1 1 (v58 AV.p (v58 (uap .i64) l124))),(200008,.arr 37 1 3 (v58 AV.p (v58 (qav (uap .i64)) f91)))]⟩ ?_
 clear h126
 refine T6 ?_
 refine M6 ?_
 refine zM ⟨[(1,.loc 7 1 0 0),(2,.loc 8 1 0 0),(5,.p (.slc (v58 (uap .i64) l124))),(8,.loc 253 1 0 0)],[(7,.arr 173 1 1 [.mapo 16 1]),(8,.arr 38 1 1 [.own 200008 3 0 f91.length]),(16,.map 1 (v58 AV.p (qfj qac f90)) (v58 AV.p (qfw PV.bool f90))),(30,.arr 29 3 1 [.p (qaa t1)]),(31,.arr 74 2 1 [.p (qad d2)]),(116,.arr 29 3 1 [.p (qaa t1)]),(117,.arr 74 2 1 [.p (qad d2)]),(253,.arr 174 3 1 [.p (.agg [.int .i64 0,.int .i64 0,.int .i64 0])]),(200008,.arr 37 1 3 (v58 AV.p (v58 (qav (uap .i64)) f91)))]⟩ ?_
 refine vx5 253 0 0 0 l124 underlying174 underlying37 ?_
 refine zl<|zn<|zs<|zs<|zr ?_
 refine Ma ?_
 obtain ⟨h127,h⟩|⟨h127,h⟩:=zI h
 refine Mi ?_
 refine My ?_
 refine qa8 (by simp only [results130];simp only [go_sem,seval,h93T,h99F,h108,h111,h127];exact rfl) ?_
 refine Mm ?_
 refine qa8 (by simp only [results129];simp only [go_sem,seval,h93T,h99F,h108,h111,h127];exact rfl) ?_
 refine Ma ?_
 obtain ⟨h128,h⟩|⟨h128,h⟩:=zI h
 refine Me ?_
 exact M0 h
 refine M4 ?_
 exact Mo h
 have h127F:=v5k.2 h127
 refine T5 ?_
 refine Mu ?_
 obtain ⟨h129,h⟩:=qae h
 refine M6 ?_
 refine My ?_
 refine qa8 (by simp only [results130];simp only [go_sem,seval,h93T,h99F,h108,h111,h127F];exact rfl) ?_
 refine Mm ?_
 refine qa8 (by simp only [results129];simp only [go_sem,seval,h93T,h99F,h108,h111,h127F];exact rfl) ?_
 refine Ma ?_
 obtain ⟨h130,h⟩|⟨h130,h⟩:=zI h
 refine Me ?_
 exact M0 h
 refine M4 ?_
 exact Mo h
 have h111F:=v5k.2 h111
 refine zw 21 true ?_
 refine zh ?_
 refine Mm ?_
 refine qa8 (by simp only [results129];simp only [go_sem,seval,h93T,h99F,h108,h111F];exact rfl) ?_
 refine Ma ?_
 refine Me ?_
 exact M0 h
 have h108F:=v5k.2 h108
 refine Mj ?_
 refine Mq ?_
 obtain ⟨o131,h132,h⟩:=zB h
 refine zO (fun (s:(List (Arr3_int64×Bool))×List (List Int)×Int)=>⟨[(2,.p (.slc (v58 qag l106))),(3,.func (.func 130) [.loc 7 1 0 0,.loc 8 1 0 0]),(4,.loc 202 1 0 0),(5,.loc 203 1 0 0),(27,.p (.slc (v58 qag t1.Rows))),(28,.p (.int .i64 (t1.Rows.length:Int))),(29,.p (.int .i64 s.2.2))],[(7,.arr 173 1 1 [.mapo 16 1]),(8,.arr 38 1 1 [.own 200008 4 0 s.2.1.length]),(16,.map 1 (v58 AV.p (qfj qac s.1)) (v58 AV.p (qfw PV.bool s.1))),(30,.arr 29 3 1 [.p (qaa t1)]),(31,.arr 74 2 1 [.p (qad d2)]),(116,.arr 29 3 1 [.p (qaa t1)]),(117,.arr 74 2 1 [.p (qad d2)]),(202,.arr 29 3 1 [.p (qaa t1)]),(203,.arr 74 2 1 [.p (qad d2)]),(200008,.arr 37 1 4 (v58 AV.p (v58 (qav (uap .i64)) s.2.1)))]⟩) (fun (o:((List (Arr3_int64×Bool))×List (List Int)) ⊕ ((List (Arr3_int64×Bool))×List (List Int)))=>match o with | .inl o133=>tE ⟨prog,47,198,X,[(7,.arr 173 1 1 [.mapo 16 1]),(8,.arr 38 1 1 [.own 200008 3 0 f91.length]),(16,.map 1 (v58 AV.p (qfj qac f90)) (v58 AV.p (qfw PV.bool f90))),(30,.arr 29 3 1 [.p (qaa t1)]),(31,.arr 74 2 1 [.p (qad d2)]),(116,.arr 29 3 1 [.p (qaa t1)]),(117,.arr 74 2 1 [.p (qad d2)]),(200008,.arr 37 1 3 (v58 AV.p (v58 (qav (uap .i64)) f91)))],i103,w104,False,h105⟩ (.exit 0) ⟨[],[(7,.arr 173 1 1 [.mapo 16 1]),(8,.arr 38 1 1 [.own 200008 4 0 o133.2.length]),(16,.map 1 (v58 AV.p (qfj qac o133.1)) (v58 AV.p (qfw PV.bool o133.1))),(30,.arr 29 3 1 [.p (qaa t1)]),(31,.arr 74 2 1 [.p (qad d2)]),(116,.arr 29 3 1 [.p (qaa t1)]),(117,.arr 74 2 1 [.p (qad d2)]),(200008,.arr 37 1 4 (v58 AV.p (v58 (qav (uap .i64)) o133.2)))]⟩ | .inr o134=>tE ⟨prog,47,198,X,[(7,.arr 173 1 1 [.mapo 16 1]),(8,.arr 38 1 1 [.own 200008 3 0 f91.length]),(16,.map 1 (v58 AV.p (qfj qac f90)) (v58 AV.p (qfw PV.bool f90))),(30,.arr 29 3 1 [.p (qaa t1)]),(31,.arr 74 2 1 [.p (qad d2)]),(116,.arr 29 3 1 [.p (qaa t1)]),(117,.arr 74 2 1 [.p (qad d2)]),(200008,.arr 37 1 3 (v58 AV.p (v58 (qav (uap .i64)) f91)))],i103,w104,False,h105⟩ .ret ⟨[(8,.p (.bool false))],[(7,.arr 173 1 1 [.mapo 16 1]),(8,.arr 38 1 1 [.own 200008 4 0 o134.2.length]),(16,.map 1 (v58 AV.p (qfj qac o134.1)) (v58 AV.p (qfw PV.bool o134.1))),(30,.arr 29 3 1 [.p (qaa t1)]),(31,.arr 74 2 1 [.p (qad d2)]),(116,.arr 29 3 1 [.p (qaa t1)]),(117,.arr 74 2 1 [.p (qad d2)]),(200008,.arr 37 1 4 (v58 AV.p (v58 (qav (uap .i64)) o134.2)))]⟩) h132 ?_ ?_
 clear h h93 h93T h95 h95a h95b h97 h99 h99F h100 h101 h102 h108 h108F h132
 intro s x h
 obtain ⟨f135,f136,t137⟩:=s
 simp only [qdy] at h
 dsimp only
 refine M9 ?_
 obtain ⟨h138,h⟩|⟨h138,h⟩:=zI h
 have h138T:=eq_true h138
 refine Mb ?_
 obtain ⟨x139,h140,h140a,h140b,h⟩:=zX h
 refine Mc ?_
 refine zU ?_
 obtain ⟨r141,h142,h⟩:=zB h
 refine zc (qck l106 (fun (y143:Row)=>qc8 y143 x139) 192 [.imm [.int .i64 x139.ID,.slc (v58 qaw x139.Values)]] (fun y143 r h=>qhy y143 x139 r h) _ h142) ?_
 refine zl<|zn ?_
 obtain ⟨h144,h⟩|⟨h144,h⟩:=zI h
 refine zi<|zx<|ze<|yh<|zn<|zr ?_
 exact M0 h
 have h144F:=v5k.2 h144
 refine zj<|zk<|zn<|zs ?_
 refine zdl 8 ?_
 refine yU ?_
 obtain ⟨h145,h⟩:=qae h
 refine yK cln193 237 qag l106 _ rfl ⟨by unfold maxLen;omega,by omega⟩ ?_
 have h146:=@q3i PV
 obtain ⟨h147,h⟩:=qae h
 refine yU ?_
 refine ydlS ?_
 refine zM ⟨[(2,.p (.slc (v58 qag l106))),(3,.func (.func 130) [.loc 7 1 0 0,.loc 8 1 0 0]),(4,.loc 202 1 0 0),(5,.loc 203 1 0 0),(27,.p (.slc (v58 qag t1.Rows))),(28,.p (.int .i64 (t1.Rows.length:Int))),(29,.p (.int .i64 t137)),(36,.p (qaa t1)),(37,.p (qad d2)),(42,.p (.slc (v58 qag (l106++[x139])))),(43,.func (.func 130) [.loc 7 1 0 0,.loc 8 1 0 0])],[(7,.arr 173 1 1 [.mapo 16 1]),(8,.arr 38 1 1 [.own 200008 4 0 f136.length]),(16,.map 1 (v58 AV.p (qfj qac f135)) (v58 AV.p (qfw PV.bool f135))),(30,.arr 29 3 1 [.p (qaa t1)]),(31,.arr 74 2 1 [.p (qad d2)]),(116,.arr 29 3 1 [.p (qaa t1)]),(117,.arr 74 2 1 [.p (qad d2)]),(202,.arr 29 3 1 [.p (qaa t1)]),(203,.arr 74 2 1 [.p (qad d2)]),(200008,.arr 37 1 4 (v58 AV.p (v58 (qav (uap .i64)) f136)))]⟩ ?_
 refine qfa (avs:=[.p (qaa t1),.p (qad d2),.p (.slc (v58 qag (l106++[x139]))),.func (.func 130) [.loc 7 1 0 0,.loc 8 1 0 0]]) 284 rfl (qa6 rfl) rfl func129 rfl call129 ntmps129 (by simp) (by simp only [go_sem,seval,h138T,h144F];all_goals rfl) ?_
 intro i148 w149 h150
 obtain ⟨l151,h152,h⟩:=zB h
 replace h152:=v6z h152
 refine q1l (st':=⟨[(0,.p (qaa t1)),(1,.p (qad d2)),(2,.p (.slc (v58 qag l151))),(3,.func (.func 130) [.loc 7 1 0 0,.loc 8 1 0 0])],[(7,.arr 173 1 1 [.mapo 16 1]),(8,.arr 38 1 1 [.own 200008 4 0 f136.length]),(16,.map 1 (v58 AV.p (qfj qac f135)) (v58 AV.p (qfw PV.bool f135))),(30,.arr 29 3 1 [.p (qaa t1)]),(31,.arr 74 2 1 [.p (qad d2)]),(116,.arr 29 3 1 [.p (qaa t1)]),(117,.arr 74 2 1 [.p (qad d2)]),(202,.arr 29 3 1 [.p (qaa t1)]),(203,.arr 74 2 1 [.p (qad d2)]),(200008,.arr 37 1 4 (v58 AV.p (v58 (qav (uap .i64)) f136)))]⟩) (by simp only [go_sem,seval,h138T,h144F,←h152];all_goals ((repeat' refine uam ?_ ?_) <;> first | rfl | (simp;done) | (simp;rfl) | (simp [*];done) | (simp [*];rfl))) ?_
 clear h152
 refine Ml ?_
 refine Mc ?_
 refine Ma ?_
 obtain ⟨h153,h⟩|⟨h153,h⟩:=zI h
 refine Mr ?_
 obtain ⟨r154,h155,h⟩:=zB h
 refine zc (qgh l151 d2.Atoms _ h155) ?_
 refine zU ?_
 obtain ⟨h156,h⟩|⟨h156,h⟩:=zI h
 refine zw 21 false ?_
 refine M7 ?_
 refine zM ⟨[(21,.p (.bool false)),(22,.func (.func 130) [.loc 7 1 0 0,.loc 8 1 0 0]),(23,.p (.slc (v58 qag l151)))],[(7,.arr 173 1 1 [.mapo 16 1]),(8,.arr 38 1 1 [.own 200008 4 0 f136.length]),(16,.map 1 (v58 AV.p (qfj qac f135)) (v58 AV.p (qfw PV.bool f135))),(30,.arr 29 3 1 [.p (qaa t1)]),(31,.arr 74 2 1 [.p (qad d2)]),(116,.arr 29 3 1 [.p (qaa t1)]),(117,.arr 74 2 1 [.p (qad d2)]),(202,.arr 29 3 1 [.p (qaa t1)]),(203,.arr 74 2 1 [.p (qad d2)]),(200008,.arr 37 1 4 (v58 AV.p (v58 (qav (uap .i64)) f136)))]⟩ ?_
 refine qfa (avs:=[.p (.slc (v58 qag l151)),.loc 7 1 0 0,.loc 8 1 0 0]) 331 rfl (qby rfl rfl (by exact rfl) (by exact rfl)) rfl func130 rfl call130 ntmps130 (by simp) (by simp only [go_sem,seval,h138T,h144F,h153,h156];all_goals rfl) ?_
 intro i157 w158 h159
 show AWp _ _ _ ⟨[(0,.p (.slc (v58 qag l151))),(1,.loc 7 1 0 0),(2,.loc 8 1 0 0)],[(7,.arr 173 1 1 [.mapo 16 1]),(8,.arr 38 1 1 [.own 200008 4 0 f136.length]),(16,.map 1 (v58 AV.p (qfj qac f135)) (v58 AV.p (qfw PV.bool f135))),(30,.arr 29 3 1 [.p (qaa t1)]),(31,.arr 74 2 1 [.p (qad d2)]),(116,.arr 29 3 1 [.p (qaa t1)]),(117,.arr 74 2 1 [.p (qad d2)]),(202,.arr 29 3 1 [.p (qaa t1)]),(203,.arr 74 2 1 [.p (qad d2)]),(200008,.arr 37 1 4 (v58 AV.p (v58 (qav (uap .i64)) f136)))]⟩
 refine Ml ?_
 refine M6 ?_
 refine M5 ?_
 obtain ⟨l160,h161,h⟩:=zB h
 refine zO (fun (s:List Int×Int)=>⟨[(1,.loc 7 1 0 0),(2,.loc 8 1 0 0),(5,.own 350 1 0 s.1.length),(9,.p (.slc (v58 qag l151))),(10,.p (.int .i64 (l151.length:Int))),(11,.p (.int .i64 s.2))],[(7,.arr 173 1 1 [.mapo 16 1]),(8,.arr 38 1 1 [.own 200008 4 0 f136.length]),(16,.map 1 (v58 AV.p (qfj qac f135)) (v58 AV.p (qfw PV.bool f135))),(30,.arr 29 3 1 [.p (qaa t1)]),(31,.arr 74 2 1 [.p (qad d2)]),(116,.arr 29 3 1 [.p (qaa t1)]),(117,.arr 74 2 1 [.p (qad d2)]),(202,.arr 29 3 1 [.p (qaa t1)]),(203,.arr 74 2 1 [.p (qad d2)]),(350,.arr 2 1 1 (v58 AV.p (v58 (uap .i64) s.1))),(200008,.arr 37 1 4 (v58 AV.p (v58 (qav (uap .i64)) f136)))]⟩) (fun (o162:List Int)=>tE ⟨prog,39,331,X,[(7,.arr 173 1 1 [.mapo 16 1]),(8,.arr 38 1 1 [.own 200008 4 0 f136.length]),(16,.map 1 (v58 AV.p (qfj qac f135)) (v58 AV.p (qfw PV.bool f135))),(30,.arr 29 3 1 [.p (qaa t1)]),(31,.arr 74 2 1 [.p (qad d2)]),(116,.arr 29 3 1 [.p (qaa t1)]),(117,.arr 74 2 1 [.p (qad d2)]),(202,.arr 29 3 1 [.p (qaa t1)]),(203,.arr 74 2 1 [.p (qad d2)]),(200008,.arr 37 1 4 (v58 AV.p (v58 (qav (uap .i64)) f136)))],i157,w158,False,h159⟩ (.exit 0) ⟨[(1,.loc 7 1 0 0),(2,.loc 8 1 0 0),(5,.own 350 1 0 o162.length)],[(7,.arr 173 1 1 [.mapo 16 1]),(8,.arr 38 1 1 [.own 200008 4 0 f136.length]),(16,.map 1 (v58 AV.p (qfj qac f135)) (v58 AV.p (qfw PV.bool f135))),(30,.arr 29 3 1 [.p (qaa t1)]),(31,.arr 74 2 1 [.p (qad d2)]),(116,.arr 29 3 1 [.p (qaa t1)]),(117,.arr 74 2 1 [.p (qad d2)]),(202,.arr 29 3 1 [.p (qaa t1)]),(203,.arr 74 2 1 [.p (qad d2)]),(350,.arr 2 1 1 (v58 AV.p (v58 (uap .i64) o162))),(200008,.arr 37 1 4 (v58 AV.p (v58 (qav (uap .i64)) f136)))]⟩) h161 ?_ ?_
 clear h h138 h138T h140 h140a h140b h142 h144 h144F h145 h146 h147 h153 h155 h156 h161
 intro s x h
 obtain ⟨l163,t164⟩:=s
 simp only [qdx] at h
 dsimp only
 refine M9 ?_
 obtain ⟨h165,h⟩|⟨h165,h⟩:=zI h
 refine Mb ?_
 obtain ⟨x166,h167,h167a,h167b,h⟩:=zX h
 refine Mu ?_
 obtain ⟨h168,h⟩:=qae h
 refine Mk ?_
 exact M0 h
 exact M3 h
 try simp only at h
 refine Md ?_
 refine zU ?_
 refine zM ⟨[(1,.loc 7 1 0 0),(2,.loc 8 1 0 0),(5,.own 350 1 0 l160.length),(21,.own 350 1 0 l160.length)],[(7,.arr 173 1 1 [.mapo 16 1]),(8,.arr 38 1 1 [.own 200008 4 0 f136.length]),(16,.map 1 (v58 AV.p (qfj qac f135)) (v58 AV.p (qfw PV.bool f135))),(30,.arr 29 3 1 [.p (qaa t1)]),(31,.arr 74 2 1 [.p (qad d2)]),(116,.arr 29 3 1 [.p (qaa t1)]),(117,.arr 74 2 1 [.p (qad d2)]),(202,.arr 29 3 1 [.p (qaa t1)]),(203,.arr 74 2 1 [.p (qad d2)]),(350,.arr 2 1 1 (v58 AV.p (v58 (uap .i64) l160))),(200008,.arr 37 1 4 (v58 AV.p (v58 (qav (uap .i64)) f136)))]⟩ ?_
 obtain ⟨l169,h170,h⟩:=zB h
 refine zSI srt131 h170 ?_
 have h171:=qud h170
 refine zM ⟨[(1,.loc 7 1 0 0),(2,.loc 8 1 0 0),(5,.own 350 1 0 l169.length),(22,.p (.tup []))],[(7,.arr 173 1 1 [.mapo 16 1]),(8,.arr 38 1 1 [.own 200008 4 0 f136.length]),(16,.map 1 (v58 AV.p (qfj qac f135)) (v58 AV.p (qfw PV.bool f135))),(30,.arr 29 3 1 [.p (qaa t1)]),(31,.arr 74 2 1 [.p (qad d2)]),(116,.arr 29 3 1 [.p (qaa t1)]),(117,.arr 74 2 1 [.p (qad d2)]),(202,.arr 29 3 1 [.p (qaa t1)]),(203,.arr 74 2 1 [.p (qad d2)]),(350,.arr 2 1 1 (v58 AV.p (v58 (uap .i64) l169))),(200008,.arr 37 1 4 (v58 AV.p (v58 (qav (uap .i64)) f136)))]⟩ ?_
 clear h171
 refine T6 ?_
 refine M6 ?_
 refine zM ⟨[(1,.loc 7 1 0 0),(2,.loc 8 1 0 0),(5,.p (.slc (v58 (uap .i64) l169))),(8,.loc 339 1 0 0)],[(7,.arr 173 1 1 [.mapo 16 1]),(8,.arr 38 1 1 [.own 200008 4 0 f136.length]),(16,.map 1 (v58 AV.p (qfj qac f135)) (v58 AV.p (qfw PV.bool f135))),(30,.arr 29 3 1 [.p (qaa t1)]),(31,.arr 74 2 1 [.p (qad d2)]),(116,.arr 29 3 1 [.p (qaa t1)]),(117,.arr 74 2 1 [.p (qad d2)]),(202,.arr 29 3 1 [.p (qaa t1)]),(203,.arr 74 2 1 [.p (qad d2)]),(339,.arr 174 3 1 [.p (.agg [.int .i64 0,.int .i64 0,.int .i64 0])]),(200008,.arr 37 1 4 (v58 AV.p (v58 (qav (uap .i64)) f136)))]⟩ ?_
 refine vx5 339 0 0 0 l169 underlying174 underlying37 ?_
 refine zl<|zn<|zs<|zs<|zr ?_
 refine Ma ?_
 obtain ⟨h172,h⟩|⟨h172,h⟩:=zI h
 refine Mi ?_
 refine My ?_
 refine qa8 (by simp only [results130];simp only [go_sem,seval,h138T,h144F,h153,h156,h172];exact rfl) ?_
 refine Mm ?_
 refine qa8 (by simp only [results129];simp only [go_sem,seval,h138T,h144F,h153,h156,h172];exact rfl) ?_
 refine Ma ?_
 obtain ⟨h173,h⟩|⟨h173,h⟩:=zI h
 refine Me ?_
 exact M0 h
 refine M4 ?_
 exact Mo h
 have h172F:=v5k.2 h172
 refine T5 ?_
 refine Mu ?_
 obtain ⟨h174,h⟩:=qae h
 refine M6 ?_
 refine My ?_
 refine qa8 (by simp only [results130];simp only [go_sem,seval,h138T,h144F,h153,h156,h172F];exact rfl) ?_
 refine Mm ?_
 refine qa8 (by simp only [results129];simp only [go_sem,seval,h138T,h144F,h153,h156,h172F];exact rfl) ?_
 refine Ma ?_
 obtain ⟨h175,h⟩|⟨h175,h⟩:=zI h
 refine Me ?_
 exact M0 h
 refine M4 ?_
 exact Mo h
 have h156F:=v5k.2 h156
 refine zw 21 true ?_
 refine zh ?_
 refine Mm ?_
 refine qa8 (by simp only [results129];simp only [go_sem,seval,h138T,h144F,h153,h156F];exact rfl) ?_
 refine Ma ?_
 refine Me ?_
 exact M0 h
 have h153F:=v5k.2 h153
 refine Mj ?_
 refine Mq ?_
 obtain ⟨o176,h177,h⟩:=zB h
 refine zO (fun (s:Int)=>⟨[(2,.p (.slc (v58 qag l151))),(3,.func (.func 130) [.loc 7 1 0 0,.loc 8 1 0 0]),(4,.loc 288 1 0 0),(5,.loc 289 1 0 0),(27,.p (.slc (v58 qag t1.Rows))),(28,.p (.int .i64 (t1.Rows.length:Int))),(29,.p (.int .i64 s))],[(7,.arr 173 1 1 [.mapo 16 1]),(8,.arr 38 1 1 [.own 200008 4 0 f136.length]),(16,.map 1 (v58 AV.p (qfj qac f135)) (v58 AV.p (qfw PV.bool f135))),(30,.arr 29 3 1 [.p (qaa t1)]),(31,.arr 74 2 1 [.p (qad d2)]),(116,.arr 29 3 1 [.p (qaa t1)]),(117,.arr 74 2 1 [.p (qad d2)]),(202,.arr 29 3 1 [.p (qaa t1)]),(203,.arr 74 2 1 [.p (qad d2)]),(288,.arr 29 3 1 [.p (qaa t1)]),(289,.arr 74 2 1 [.p (qad d2)]),(200008,.arr 37 1 4 (v58 AV.p (v58 (qav (uap .i64)) f136)))]⟩) (fun (o178:Unit)=>tE ⟨prog,47,284,X,[(7,.arr 173 1 1 [.mapo 16 1]),(8,.arr 38 1 1 [.own 200008 4 0 f136.length]),(16,.map 1 (v58 AV.p (qfj qac f135)) (v58 AV.p (qfw PV.bool f135))),(30,.arr 29 3 1 [.p (qaa t1)]),(31,.arr 74 2 1 [.p (qad d2)]),(116,.arr 29 3 1 [.p (qaa t1)]),(117,.arr 74 2 1 [.p (qad d2)]),(202,.arr 29 3 1 [.p (qaa t1)]),(203,.arr 74 2 1 [.p (qad d2)]),(200008,.arr 37 1 4 (v58 AV.p (v58 (qav (uap .i64)) f136)))],i148,w149,False,h150⟩ (.exit 0) ⟨[],[(7,.arr 173 1 1 [.mapo 16 1]),(8,.arr 38 1 1 [.own 200008 4 0 f136.length]),(16,.map 1 (v58 AV.p (qfj qac f135)) (v58 AV.p (qfw PV.bool f135))),(30,.arr 29 3 1 [.p (qaa t1)]),(31,.arr 74 2 1 [.p (qad d2)]),(116,.arr 29 3 1 [.p (qaa t1)]),(117,.arr 74 2 1 [.p (qad d2)]),(202,.arr 29 3 1 [.p (qaa t1)]),(203,.arr 74 2 1 [.p (qad d2)]),(200008,.arr 37 1 4 (v58 AV.p (v58 (qav (uap .i64)) f136)))]⟩) h177 ?_ ?_
 clear h h138 h138T h140 h140a h140b h142 h144 h144F h145 h146 h147 h153 h153F h177
 intro t179 x h
 simp only [qlt] at h
 refine M9 ?_
 obtain ⟨h180,h⟩|⟨h180,h⟩:=zI h
 refine Mb ?_
 obtain ⟨x181,h182,h182a,h182b,h⟩:=zX h
 refine Mc ?_
 refine zU ?_
 obtain ⟨r183,h184,h⟩:=zB h
 refine zc (qck l151 (fun (y185:Row)=>qc8 y185 x181) 192 [.imm [.int .i64 x181.ID,.slc (v58 qaw x181.Values)]] (fun y185 r h=>qhy y185 x181 r h) _ h184) ?_
 refine zl<|zn ?_
 obtain ⟨h186,h⟩|⟨h186,h⟩:=zI h
 refine zi<|zx<|ze<|yh<|zn<|zr ?_
 exact M0 h
 cases h
 exact M3 h
 cases o176
 try simp only at h
 refine Md ?_
 refine My ?_
 refine qa8 (by simp only [results129];simp only [go_sem,seval,h138T,h144F,h153F];exact rfl) ?_
 refine Ma ?_
 refine Me ?_
 exact M0 h
 have h138T:=eq_false h138
 exact M3 h
 rcases o131 with ⟨f187,b188⟩ | ⟨f189,b190⟩
 try simp only at h
 refine Md ?_
 refine My ?_
 refine qa8 (by simp only [results129];simp only [go_sem,seval,h93T,h99F,h108F];exact rfl) ?_
 refine Ma ?_
 refine Me ?_
 exact M0 h
 try simp only at h
 refine zA<|yr<|zt ?_
 refine qa8 (by simp only [results129];simp only [go_sem,seval,h93T,h99F,h108F];exact rfl) ?_
 refine Ma ?_
 refine M4 ?_
 exact Mo h
 have h93T:=eq_false h93
 exact M3 h
 rcases o86 with ⟨f191,b192⟩ | ⟨f193,b194⟩
 try simp only at h
 refine Md ?_
 refine My ?_
 refine qa8 (by simp only [results129];simp only [go_sem,seval,h48T,h54F,h63F];exact rfl) ?_
 refine Ma ?_
 refine Me ?_
 exact M0 h
 try simp only at h
 refine zA<|yr<|zt ?_
 refine qa8 (by simp only [results129];simp only [go_sem,seval,h48T,h54F,h63F];exact rfl) ?_
 refine Ma ?_
 refine M4 ?_
 exact Mo h
 have h48T:=eq_false h48
 exact M3 h
 rcases o41 with ⟨f195,b196⟩ | ⟨f197,b198⟩
 try simp only at h
 refine Md ?_
 refine My ?_
 refine qa8 (by simp only [results129];simp only [go_sem,seval,h9F,h20F];exact rfl) ?_
 exact M0 h
 try simp only at h
 refine zA<|yr<|zt ?_
 refine qa8 (by simp only [results129];simp only [go_sem,seval,h9F,h20F];exact rfl) ?_
 exact M0 h
 obtain ⟨o199,a200⟩:=o10
 try simp only at h
 refine zA<|zn<|zs<|zs<|zr ?_
 refine Ma ?_
 obtain ⟨h201,h⟩|⟨h201,h⟩:=zI h
 refine Mi ?_
 refine zU ?_
 refine zM ⟨[(8,.loc 8 1 0 0),(23,.own 200008 1 0 o199.length)],[(8,.arr 38 1 1 [.own 200008 1 0 o199.length]),(200008,.arr 37 1 1 (v58 AV.p (v58 (qav (uap .i64)) o199)))]⟩ ?_
 obtain ⟨l202,h203,h⟩:=zB h
 refine zSF srt68 (qav (uap .i64)) (fun (y204:List Int) (y205:List Int)=>qab y204 y205) h203 (fun y204 y205 r h=>qa1 y204 y205 r h) ?_
 have h206:=qns h203
 refine zM ⟨[(8,.loc 8 1 0 0),(24,.p (.tup []))],[(8,.arr 38 1 1 [.own 200008 1 0 l202.length]),(200008,.arr 37 1 1 (v58 AV.p (v58 (qav (uap .i64)) l202)))]⟩ ?_
 clear h206
 refine T6 ?_
 refine Ma ?_
 refine zL ⟨[(4,.own 200008 1 0 l202.length),(5,.p (.int .i64 0))],[(200008,.arr 37 1 1 (v58 AV.p (v58 (qav (uap .i64)) l202)))]⟩ ?_
 refine zSwA 200008 300000 ?_
 refine zL ⟨[(4,.own 300000 1 0 l202.length),(5,.p (.int .i64 0))],[(300000,.arr 37 1 1 (v58 AV.p (v58 (qav (uap .i64)) l202)))]⟩ ?_
 refine zq ?_
 exact Mo h
 refine T5 ?_
 refine Ma ?_
 refine zL ⟨[(4,.own 300000 1 0 0),(5,.p (.int .i64 3))],[(300000,.arr 37 1 1 [])]⟩ ?_
 refine zq<|zt ?_
 exact Mo h
theorem qro (t_2646:Table) (d_2647:Denial) (r_5014:List (List Int)×Int) (h:qdi t_2646 d_2647=some r_5014):Con False prog 63 [(qaa t_2646),(qad d_2647)] (.tup [(.slc (v58 (qav (uap .i64)) r_5014.1)),(.int .i64 r_5014.2)]):=Ip.con (qlg t_2646 d_2647 r_5014 h) (by simp only [go_sem,seval, *];all_goals exact zF)
theorem qp1 (t1:Table) (c2:Constraint) (r3:List (List Int)×Int) (h:qci t1 c2=some r3):Con False prog 25 [(qaa t1),(qak c2)] (.tup [(.slc (v58 (qav (uap .i64)) r3.1)),(.int .i64 r3.2)]):=by
 refine zP call25 func25 rfl ntmps25 fun X w hT=>?_
 simp only [qci] at h
 refine Ml ?_
 refine M6 ?_
 refine zU ?_
 obtain ⟨r4,h5,h⟩:=zB h
 refine zc (qki t1 c2 _ h5) ?_
 refine zU<|zl<|zn<|zs<|zb<|zs<|zr ?_
 refine Ma ?_
 obtain ⟨h6,h⟩|⟨h6,h⟩:=zI h
 refine M4 ?_
 exact T0 h results25
 refine Mx ?_
 refine Ma ?_
 obtain ⟨h7,h⟩|⟨h7,h⟩:=zI h
 refine Mr ?_
 obtain ⟨r8,h9,h⟩:=zB h
 refine zc (qni t1 c2.CFD _ h9) ?_
 exact Mn h results25
 refine Mx ?_
 refine Ma ?_
 obtain ⟨h10,h⟩|⟨h10,h⟩:=zI h
 refine Mr ?_
 obtain ⟨r11,h12,h⟩:=zB h
 refine zc (qp0 t1 c2.OD _ h12) ?_
 exact Mn h results25
 refine T4 ?_
 refine M5 ?_
 obtain ⟨o13,h14,h⟩:=zB h
 refine zO (fun (s:List (List Int)×Int)=>⟨[(2,.loc 2 1 0 0),(8,.own 60 1 0 s.1.length),(43,.p (.slc (v58 qad r4.1))),(44,.p (.int .i64 (r4.1.length:Int))),(45,.p (.int .i64 s.2))],[(2,.arr 29 3 1 [.p (qaa t1)]),(60,.arr 37 1 1 (v58 AV.p (v58 (qav (uap .i64)) s.1)))]⟩) (fun (o:(List (List Int)) ⊕ (List (List Int)×Int))=>match o with | .inl o15=>tE (cX Tryz.f25 X w False hT) (.exit 1) ⟨[(8,.own 60 1 0 o15.length)],[(60,.arr 37 1 1 (v58 AV.p (v58 (qav (uap .i64)) o15)))]⟩ | .inr o16=>tR prog Tryz.f25 (.tup [(.slc (v58 (qav (uap .i64)) o16.1)),(.int .i64 o16.2)])) h14 ?_ ?_
 clear h h5 h6 h7 h10 h14
 intro s x h
 obtain ⟨o17,t18⟩:=s
 simp only [qcy] at h
 dsimp only
 refine M9 ?_
 obtain ⟨h19,h⟩|⟨h19,h⟩:=zI h
 refine Mb ?_
 obtain ⟨x20,h21,h21a,h21b,h⟩:=zX h
 refine M6 ?_
 refine zU ?_
 obtain ⟨r22,h23,h⟩:=zB h
 refine zc (qro t1 x20 _ h23) ?_
 refine Mc ?_
 refine Ma ?_
 obtain ⟨h24,h⟩|⟨h24,h⟩:=zI h
 refine Mg ?_
 cases h
 exact ⟨rfl,zT results25⟩
 refine zj<|zk<|zn<|zr ?_
 obtain ⟨h25,h⟩:=qae h
 refine Mk ?_
 exact M0 h
 exact M3 h
 rcases o13 with o26 | r27
 try simp only at h
 refine Md ?_
 exact M1 h results25
 exact M8 h
theorem qgz (l1:List Int) (r2:Arr3_int64) (h:qey l1=some r2):Con D prog 64 [(.slc (v58 (uap .i64) l1))] (qac r2):=by
 refine zP call64 func64 rfl ntmps64 fun X w hT=>?_
 simp only [qey] at h
 refine Ml ?_
 refine M6 ?_
 refine M6 ?_
 refine vx5 3 0 0 0 l1 underlying174 underlying37 ?_
 refine T6 ?_
 exact M1 h results64
end Go.Proofs.YtkebadaokhljmaaGreatDoor
namespace Go.Proofs
open Go Go.Ab Go.Shelf Tryz
variable {D:Prop}
def YtkebadaokhljmaaGreatDoor.grow132_ren:Go.Shelf.Ren:=⟨fun | 4=>132 | n=>n,fun | 22=>37 | 25=>2 | 3=>3 | 4=>4 | 9=>9 | 20=>20 | 0=>0 | n=>n,fun | n=>n⟩
theorem YtkebadaokhljmaaGreatDoor.grow132:Go.Proofs.Lays8.n4 prog YtkebadaokhljmaaGreatDoor.grow132_ren:={
  mixed:=by kernel_rfl
  f4:=⟨f132.name,by decide,func132.trans (congrArg some (by kernel_rfl))⟩
  t0:=underlying0
  a0:=isAgg0
  z0:=sizeOf0
  v0:=zeroValue0
  t3:=underlying3
  a3:=isAgg3
  z3:=sizeOf3
  v3:=zeroValue3
  t4:=underlying4
  a4:=isAgg4
  z4:=sizeOf4
  v4:=zeroValue4
  t9:=underlying9
  a9:=isAgg9
  z9:=sizeOf9
  v9:=zeroValue9
  t20:=underlying20
  a20:=isAgg20
  z20:=sizeOf20
  v20:=zeroValue20
  t22:=underlying37
  a22:=isAgg37
  z22:=sizeOf37
  v22:=zeroValue37 }
theorem YtkebadaokhljmaaGreatDoor.grw132:Grw prog 132 2 1:=⟨call132,fun n w h0 hn=>by
  obtain ⟨m,rfl⟩:=v8d h0;have hi:prog.info? 2=some Tryz.t2:=by kernel_rfl
  obtain ⟨z,hz,hzs⟩:∃z,Tryz.t2.zero=some z∧z.cells.size=1:=⟨_,rfl,rfl⟩;cases m with
  | zero =>
    refine (Any8.slices_Grow_room YtkebadaokhljmaaGreatDoor.grow132 none 0 0 0 w (v4o _) (by omega) (by omega) (v4o _)).mono fun e' w' h=>?_
    obtain ⟨rfl,rfl⟩:=h;exact ⟨_,rfl,World.ownsRow_nil _ _ _ _,RowKit.Below.refl _ _,v4o _⟩
  | succ m =>
    have hby:Tryz.t2.bytes=8:=rfl;refine (Any8.slices_Grow_grow YtkebadaokhljmaaGreatDoor.grow132 Tryz.t2 z hi hz (by decide) none 0 0 (m+1) [] w (v4o _) (by omega) (by rw [hby];omega) (by omega) (by simp) (fun _=>rfl) (fun a h=>by cases h)).mono fun e' w' h=>?_
    obtain ⟨rfl,rfl⟩:=h;have hge:=grownCap_ge w (0+(m+1)) 0 2;refine ⟨_,rfl,World.ownsRow_made w.drew _ _ (v4o _) (grownCap_le_maxLen w (0+(m+1)) 0 2 (by unfold maxLen;omega)) ?_,(RowKit.Below.refl _ w).drew.alloc (v4o _) _,Nat.le_succ _⟩;simp only [Array.size_append,size_zeroCells,hzs,List.size_toArray,List.length_nil];generalize hG:grownCap w (0+(m+1)) 0 2=G at hge;show 0+(0+(m+1) - 0) * 1+(grownCap w (0+(m+1)) 0 2 - (0+(m+1))) * 1=grownCap w (0+(m+1)) 0 2 * 1;rw [hG];omega⟩
end Go.Proofs
namespace Go.Proofs.YtkebadaokhljmaaGreatDoor
open Go Go.Ab Tryz
variable {D:Prop}
theorem qkk (s1:List (List Int)) (r2:List Int) (h:qa2 s1=some r2):Con D prog 66 [(.slc (v58 (qav (uap .i64)) s1))] (.slc (v58 (uap .i64) r2)):=by
 refine zP call66 func66 rfl ntmps66 fun X w hT=>?_
 simp only [qa2] at h
 refine Ml ?_
 refine M6 ?_
 refine M5 ?_
 obtain ⟨s3,h4,h⟩:=zB h
 refine zO (fun (s:Int×Int)=>⟨[(0,.p (.slc (v58 (qav (uap .i64)) s1))),(3,.p (.int .i64 s.1)),(9,.p (.slc (v58 (qav (uap .i64)) s1))),(10,.p (.int .i64 (s1.length:Int))),(11,.p (.int .i64 s.2))],[]⟩) (fun (o5:Int)=>tE (cX Tryz.f66 X w D hT) (.exit 0) ⟨[(0,.p (.slc (v58 (qav (uap .i64)) s1))),(3,.p (.int .i64 o5))],[]⟩) h4 ?_ ?_
 clear h h4
 intro s x h
 obtain ⟨s6,t7⟩:=s
 simp only [qbj] at h
 dsimp only
 refine M9 ?_
 obtain ⟨h8,h⟩|⟨h8,h⟩:=zI h
 refine Mb ?_
 obtain ⟨x9,h10,h10a,h10b,h⟩:=zX h
 refine M6 ?_
 refine M6 ?_
 refine Ma ?_
 obtain ⟨h11,h⟩|⟨h11,h⟩:=zI h
 cases h
 refine Me ?_
 exact M0 h
 exact M3 h
 try simp only at h
 refine Md ?_
 refine zU ?_
 obtain ⟨h12,h⟩:=qae h
 obtain ⟨h13,h⟩:=qae h
 refine zN grw132 24 h12 h13 ?_
 refine M5 ?_
 obtain ⟨n14,h15,h⟩:=zB h
 refine zO (fun (s:List Int×Int)=>⟨[(6,.own 24 1 0 s.1.length),(25,.p (.slc (v58 (qav (uap .i64)) s1))),(26,.p (.int .i64 (s1.length:Int))),(27,.p (.int .i64 s.2))],[(24,.arr 2 1 1 (v58 AV.p (v58 (uap .i64) s.1)))]⟩) (fun (o16:List Int)=>tE (cX Tryz.f66 X w D hT) (.exit 2) ⟨[(6,.own 24 1 0 o16.length)],[(24,.arr 2 1 1 (v58 AV.p (v58 (uap .i64) o16)))]⟩) h15 ?_ ?_
 clear h h4 h12 h13 h15
 intro s x h
 obtain ⟨n17,t18⟩:=s
 simp only [qbk] at h
 dsimp only
 refine M9 ?_
 obtain ⟨h19,h⟩|⟨h19,h⟩:=zI h
 refine Mb ?_
 obtain ⟨x20,h21,h21a,h21b,h⟩:=zX h
 refine Mu ?_
 obtain ⟨h22,h⟩:=qae h
 refine Mk ?_
 exact M0 h
 exact M3 h
 try simp only at h
 refine Md ?_
 exact M1 h results66
section
attribute [-go_sem] qxg
theorem qqg (l1:List Int) (c2:List (Arr3_int64×Bool)) (r3:Bool) (h:qbr l1 c2=some r3):Con D prog 65 [(.slc (v58 (uap .i64) l1)),.imm [.mapv (qfj qac c2) (qfw PV.bool c2)]] (.bool r3):=by
 refine zP call65 func65 rfl ntmps65 fun X w hT=>?_
 simp only [qbr] at h
 refine Ml ?_
 refine M5 ?_
 obtain ⟨o4,h5,h⟩:=zB h
 refine zO (fun (s:Int)=>⟨[(0,.p (.slc (v58 (uap .i64) l1))),(1,.p (.imm [.mapv (qfj qac c2) (qfw PV.bool c2)])),(6,.p (.int .i64 (l1.length:Int))),(7,.p (.int .i64 s))],[]⟩) (fun (o:(Unit) ⊕ (Bool))=>match o with | .inl o6=>tE (cX Tryz.f65 X w D hT) (.exit 0) ⟨[],[]⟩ | .inr o7=>tR prog Tryz.f65 (.bool o7)) h5 ?_ ?_
 clear h h5
 intro t8 x h
 simp only [qap] at h
 refine M9 ?_
 obtain ⟨h9,h⟩|⟨h9,h⟩:=zI h
 refine Mb ?_
 refine Ta ?_
 obtain ⟨h10,h⟩|⟨h10,h⟩:=zI h
 refine yw 13 true ?_
 refine Mf ?_
 refine yg ?_
 refine yg ?_
 obtain ⟨h11,h⟩:=qae h
 obtain ⟨h12,h⟩:=qae h
 obtain ⟨h13,h⟩:=qae h
 refine yg ?_
 obtain ⟨r14,h15,h⟩:=zB h
 refine yc (qgz ((l1.drop t8.toNat).take ((v67.wrap (t8+1)).toNat - t8.toNat)) _ h15) ?_
 refine yg ?_
 refine Ms ?_
 obtain ⟨h16,h⟩|⟨h16,h⟩:=zI h
 refine Mg ?_
 cases h
 exact ⟨rfl,zT results65⟩
 refine zj<|zk<|zn<|zs<|zd ?_
 refine yU ?_
 obtain ⟨h17,h⟩|⟨h17,h⟩:=zI h
 refine yw 26 true ?_
 refine Mf ?_
 obtain ⟨h18,h⟩:=qae h
 obtain ⟨h19,h⟩:=qae h
 refine Mf ?_
 refine yg ?_
 obtain ⟨h20,h⟩:=qae h
 refine yg ?_
 refine yS 35 ?_
 obtain ⟨r21,h22,h⟩:=zB h
 refine yc (qkk [(l1.take (t8.toNat)),((l1.drop (v67.wrap (t8+1)).toNat).take (l1.length - (v67.wrap (t8+1)).toNat))] _ h22) ?_
 obtain ⟨r23,h24,h⟩:=zB h
 refine yc (qgz r21 _ h24) ?_
 refine yg ?_
 refine Ms ?_
 obtain ⟨h25,h⟩|⟨h25,h⟩:=zI h
 refine M4 ?_
 cases h
 exact ⟨rfl,zT results65⟩
 refine Me ?_
 exact M0 h
 refine yw 26 false ?_
 refine yk ?_
 refine Ms ?_
 refine Me ?_
 exact M0 h
 refine yw 13 false ?_
 refine yk ?_
 refine Ms ?_
 refine zj<|zk<|zn<|zs<|zd ?_
 refine yU ?_
 obtain ⟨h26,h⟩|⟨h26,h⟩:=zI h
 refine yw 26 true ?_
 refine Mf ?_
 obtain ⟨h27,h⟩:=qae h
 obtain ⟨h28,h⟩:=qae h
 refine Mf ?_
 refine yg ?_
 obtain ⟨h29,h⟩:=qae h
 obtain ⟨h30,h⟩:=qae h
 refine yg ?_
 refine yS 35 ?_
 obtain ⟨r31,h32,h⟩:=zB h
 refine yc (qkk [(l1.take (t8.toNat)),((l1.drop (v67.wrap (t8+1)).toNat).take (l1.length - (v67.wrap (t8+1)).toNat))] _ h32) ?_
 obtain ⟨r33,h34,h⟩:=zB h
 refine yc (qgz r31 _ h34) ?_
 refine yg ?_
 refine Ms ?_
 obtain ⟨h35,h⟩|⟨h35,h⟩:=zI h
 refine M4 ?_
 cases h
 exact ⟨rfl,zT results65⟩
 refine Me ?_
 exact M0 h
 refine yw 26 false ?_
 refine yk ?_
 refine Ms ?_
 refine Me ?_
 exact M0 h
 exact M3 h
 rcases o4 with ⟨⟩ | r36
 try simp only at h
 refine Md ?_
 exact M1 h results65
 exact M8 h
end
end Go.Proofs.YtkebadaokhljmaaGreatDoor
namespace Go.Proofs.YtkebadaokhljmaaGreatDoor
open Go Go.Ab Tryz
variable {D:Prop}
theorem qqh (l:List Int) (r:List Int) (h:qht l=some r):Con D prog 67 [(.slc (v58 (uap .i64) l))] (.slc (v58 (uap .i64) r)):=by
  obtain ⟨hc,h⟩:=qae h
  cases h
  refine ⟨call67,?_⟩
  refine qyc func67 rfl ntmps67 (by simp) fun X w hT=>?_
  show AWp _ _ _ ⟨[(0,.p (.slc (v58 (uap .i64) l)))],[]⟩
  refine qpi ?_
  refine qmd ?_
  refine q3a (by exact rfl) (by simp only [go_sem,seval];exact rfl) ?_
  refine q1j ?_
  refine qyd ?_
  refine qpi ?_
  refine qpi ?_
  refine qmd ?_
  refine vg0 1 (by simp only [go_sem,seval];exact rfl) ?_
  refine vlk (by simp only [go_sem,seval];exact rfl) (by simp only [go_sem,seval]) underlying37 rfl ?_
  intro b hb
  refine q1j ?_
  refine qyd ?_
  cases b
  · refine vgz (by simp only [go_sem,seval]) ?_
    refine q2y ?_
    refine qyd ?_
    refine qpi ?_
    refine qmd ?_
    refine q3a (by exact rfl) (by simp only [go_sem,seval,hc];exact rfl) ?_
    refine q1j ?_
    refine qyd ?_
    refine q2z ?_
    refine q3b (by simp only [results67];simp only [go_sem,seval];exact rfl) ?_
    simp only [go_sem,seval]
    all_goals ((repeat' refine uam ?_ ?_) <;> first | rfl | (simp;done) | (simp;rfl) | (simp [*];done) | (simp [*];rfl))
  · refine vgy (by simp only [go_sem,seval]) ?_
    have hl:l=[]:=by
      cases l with
      | nil=>rfl
      | cons x l=>exact absurd (hb (by simp)) (by simp)
    subst hl
    refine qpi ?_
    refine qmd ?_
    refine q3a (by exact rfl) (by simp only [go_sem,seval];exact rfl) ?_
    refine q1j ?_
    refine qyd ?_
    refine q2z ?_
    refine vf9 ?_
    refine q3b (by simp only [results67];simp only [go_sem,seval];exact rfl) ?_
    simp only [go_sem,seval]
    all_goals ((repeat' refine uam ?_ ?_) <;> first | rfl | (simp;done) | (simp;rfl) | (simp [*];done) | (simp [*];rfl))
theorem qko (s1:List Int) (s2:List Int) (r3:Bool) (h:qem s1 s2=some r3):Con D prog 71 [(.slc (v58 (uap .i64) s1)),(.slc (v58 (uap .i64) s2))] (.bool r3):=by
 refine zP call71 func71 rfl ntmps71 fun X w hT=>?_
 simp only [qem] at h
 refine Ml ?_
 refine Mc ?_
 refine Ma ?_
 obtain ⟨h4,h⟩|⟨h4,h⟩:=zI h
 exact M2 h results71
 refine Mj ?_
 refine Mq ?_
 obtain ⟨o5,h6,h⟩:=zB h
 refine zO (fun (s:Int)=>⟨[(0,.p (.slc (v58 (uap .i64) s1))),(1,.p (.slc (v58 (uap .i64) s2))),(12,.p (.int .i64 (s1.length:Int))),(13,.p (.int .i64 s))],[]⟩) (fun (o:(Unit) ⊕ (Bool))=>match o with | .inl o7=>tE (cX Tryz.f71 X w D hT) (.exit 0) ⟨[],[]⟩ | .inr o8=>tR prog Tryz.f71 (.bool o8)) h6 ?_ ?_
 clear h h4 h6
 intro t9 x h
 simp only [qf3] at h
 refine M9 ?_
 obtain ⟨h10,h⟩|⟨h10,h⟩:=zI h
 refine Mb ?_
 refine Mv ?_
 obtain ⟨x11,h12,h12a,h12b,h⟩:=zX h
 obtain ⟨x13,h14,h14a,h14b,h⟩:=zX h
 refine Ms ?_
 obtain ⟨h15,h⟩|⟨h15,h⟩:=zI h
 refine M4 ?_
 cases h
 exact ⟨rfl,zT results71⟩
 refine Me ?_
 exact M0 h
 exact M3 h
 rcases o5 with ⟨⟩ | r16
 try simp only at h
 refine Md ?_
 exact M1 h results71
 exact M8 h
section
attribute [-go_sem] qxg
theorem qsk (a1:List (List Int)) (r2:List (List Int)) (h:qfr a1=some r2):Con D prog 26 [(.slc (v58 (qav (uap .i64)) a1))] (.slc (v58 (qav (uap .i64)) r2)):=by
 refine zP call26 func26 rfl ntmps26 fun X w hT=>?_
 simp only [qfr] at h
 refine Ml ?_
 refine M6 ?_
 refine M5 ?_
 obtain ⟨s3,h4,h⟩:=zB h
 refine zO (fun (s:(List (Arr3_int64×Bool))×Int)=>⟨[(0,.p (.slc (v58 (qav (uap .i64)) a1))),(3,.loc 3 1 0 0),(12,.p (.slc (v58 (qav (uap .i64)) a1))),(13,.p (.int .i64 (a1.length:Int))),(14,.p (.int .i64 s.2))],[(3,.arr 173 1 1 [.mapo 11 1]),(11,.map 1 (v58 AV.p (qfj qac s.1)) (v58 AV.p (qfw PV.bool s.1)))]⟩) (fun (o5:(List (Arr3_int64×Bool)))=>tE (cX Tryz.f26 X w D hT) (.exit 0) ⟨[(0,.p (.slc (v58 (qav (uap .i64)) a1))),(3,.loc 3 1 0 0)],[(3,.arr 173 1 1 [.mapo 11 1]),(11,.map 1 (v58 AV.p (qfj qac o5)) (v58 AV.p (qfw PV.bool o5)))]⟩) h4 ?_ ?_
 clear h h4
 intro s x h
 obtain ⟨s6,t7⟩:=s
 simp only [qec] at h
 dsimp only
 refine M9 ?_
 obtain ⟨h8,h⟩|⟨h8,h⟩:=zI h
 refine Mb ?_
 obtain ⟨x9,h10,h10a,h10b,h⟩:=zX h
 refine Tg ?_
 obtain ⟨r11,h12,h⟩:=zB h
 refine yc (qgz x9 _ h12) ?_
 refine T3 ?_
 exact M0 h
 exact M3 h
 try simp only at h
 refine Md ?_
 refine M6 ?_
 refine M5 ?_
 obtain ⟨o13,h14,h⟩:=zB h
 refine zO (fun (s:List (List Int)×Int)=>⟨[(3,.loc 3 1 0 0),(6,.func (.func 65) [.loc 3 1 0 0]),(7,.own 44 1 0 s.1.length),(23,.p (.slc (v58 (qav (uap .i64)) a1))),(24,.p (.int .i64 (a1.length:Int))),(25,.p (.int .i64 s.2))],[(3,.arr 173 1 1 [.mapo 11 1]),(11,.map 1 (v58 AV.p (qfj qac s3)) (v58 AV.p (qfw PV.bool s3))),(44,.arr 37 1 1 (v58 AV.p (v58 (qav (uap .i64)) s.1)))]⟩) (fun (o15:List (List Int))=>tE (cX Tryz.f26 X w D hT) (.exit 2) ⟨[(7,.own 44 1 0 o15.length)],[(44,.arr 37 1 1 (v58 AV.p (v58 (qav (uap .i64)) o15)))]⟩) h14 ?_ ?_
 clear h h4 h14
 intro s x h
 obtain ⟨o16,t17⟩:=s
 simp only [qfg] at h
 dsimp only
 refine M9 ?_
 obtain ⟨h18,h⟩|⟨h18,h⟩:=zI h
 refine Mb ?_
 obtain ⟨x19,h20,h20a,h20b,h⟩:=zX h
 refine M6 ?_
 refine zU ?_
 obtain ⟨r21,h22,h⟩:=zB h
 refine zc (qgz x19 _ h22) ?_
 refine Ma ?_
 obtain ⟨t23,h24,h⟩:=zB h
 refine zJ (fun (o25:Bool)=>tE (cX Tryz.f26 X w D hT) .normal ⟨[(3,.loc 3 1 0 0),(6,.func (.func 65) [.loc 3 1 0 0]),(7,.own 44 1 0 o16.length),(9,.p (.slc (v58 (uap .i64) x19))),(23,.p (.slc (v58 (qav (uap .i64)) a1))),(24,.p (.int .i64 (a1.length:Int))),(25,.p (.int .i64 t17)),(39,.p (.bool o25))],[(3,.arr 173 1 1 [.mapo 11 1]),(11,.map 1 (v58 AV.p (qfj qac s3)) (v58 AV.p (qfw PV.bool s3))),(44,.arr 37 1 1 (v58 AV.p (v58 (qav (uap .i64)) o16)))]⟩) t23 ?_ ?_
 replace h:=h24
 clear h24
 refine Td ?_
 obtain ⟨h26,h⟩|⟨h26,h⟩:=zI h
 refine zw 34 true ?_
 refine M7 ?_
 obtain ⟨r27,h28,h⟩:=zB h
 replace h:=h.symm
 refine zc (qqg x19 s3 _ h28) ?_
 refine zg ?_
 exact M0 h
 refine zw 34 false ?_
 refine zh ?_
 exact M0 h
 try simp only at h
 refine zA<|zn ?_
 obtain ⟨h29,h⟩|⟨h29,h⟩:=zI h
 refine T9 ?_
 obtain ⟨r30,h31,h⟩:=zB h
 refine zc (qqh x19 _ h31) ?_
 obtain ⟨h32,h⟩:=qae h
 refine Mk ?_
 exact M0 h
 refine Me ?_
 exact M0 h
 exact M3 h
 try simp only at h
 refine Md ?_
 refine zU ?_
 refine zM ⟨[(7,.own 44 1 0 o13.length),(46,.own 44 1 0 o13.length)],[(44,.arr 37 1 1 (v58 AV.p (v58 (qav (uap .i64)) o13)))]⟩ ?_
 obtain ⟨l33,h34,h⟩:=zB h
 refine zSF srt68 (qav (uap .i64)) (fun (y35:List Int) (y36:List Int)=>qab y35 y36) h34 (fun y35 y36 r h=>qa1 y35 y36 r h) ?_
 have h37:=qns h34
 refine zM ⟨[(7,.own 44 1 0 l33.length),(47,.p (.tup []))],[(44,.arr 37 1 1 (v58 AV.p (v58 (qav (uap .i64)) l33)))]⟩ ?_
 clear h37
 refine T6 ?_
 refine zU ?_
 refine zM ⟨[(48,.own 44 1 0 l33.length)],[(44,.arr 37 1 1 (v58 AV.p (v58 (qav (uap .i64)) l33)))]⟩ ?_
 refine qfa (avs:=[.own 44 1 0 l33.length,.p (.func (.func 71) [])]) 50 rfl (qa6 rfl) rfl func70 rfl call70 ntmps70 (by simp) (by simp only [go_sem,seval];all_goals rfl) ?_
 intro i38 w39 h40
 show AWp _ _ _ ⟨[(0,.own 44 1 0 l33.length),(1,.p (.func (.func 71) []))],[(44,.arr 37 1 1 (v58 AV.p (v58 (qav (uap .i64)) l33)))]⟩
 refine Ml ?_
 refine Mc ?_
 refine Ma ?_
 obtain ⟨h41,h⟩|⟨h41,h⟩:=zI h
 have h41T:=eq_true h41
 refine T5 ?_
 refine Mm ?_
 refine qa8 (by simp only [results70];simp only [go_sem,seval,h41T];exact rfl) ?_
 exact M1 h results26
 have h41T:=eq_false h41
 refine Mj ?_
 refine Mq ?_
 obtain ⟨o42,h43,h⟩:=zB h
 refine zO (fun (s:Int)=>⟨[(0,.own 44 1 0 l33.length),(1,.p (.func (.func 71) [])),(5,.p (.int .i64 s))],[(44,.arr 37 1 1 (v58 AV.p (v58 (qav (uap .i64)) l33)))]⟩) (fun (o:(Unit) ⊕ (List (List Int)))=>match o with | .inl o44=>tE ⟨prog,66,50,X,[(44,.arr 37 1 1 (v58 AV.p (v58 (qav (uap .i64)) l33)))],i38,w39,D,h40⟩ (.exit 0) ⟨[(0,.own 44 1 0 l33.length)],[(44,.arr 37 1 1 (v58 AV.p (v58 (qav (uap .i64)) l33)))]⟩ | .inr o45=>tE ⟨prog,66,50,X,[(44,.arr 37 1 1 (v58 AV.p (v58 (qav (uap .i64)) l33)))],i38,w39,D,h40⟩ .ret ⟨[(4,.own 44 2 0 o45.length)],[(44,.arr 37 1 2 (v58 AV.p (v58 (qav (uap .i64)) o45)))]⟩) h43 ?_ ?_
 clear h h4 h14 h34 h41 h41T h43
 intro k46 x h
 simp only [qed] at h
 refine zs<|zs<|zr ?_
 refine Ma ?_
 obtain ⟨h47,h⟩|⟨h47,h⟩:=zI h
 refine zi<|zk<|zn<|zs<|zb<|zs<|zd ?_
 obtain ⟨x48,h49,h49a,h49b,h⟩:=zX h
 obtain ⟨x50,h51,h51a,h51b,h⟩:=zX h
 refine yU ?_
 obtain ⟨r52,h53,h⟩:=zB h
 refine yc (qko x48 x50 _ h53) ?_
 refine yd<|zn ?_
 obtain ⟨h54,h⟩|⟨h54,h⟩:=zI h
 refine T5 ?_
 obtain ⟨h55,h⟩:=qae h
 obtain ⟨h56,h⟩:=qae h
 refine M5 ?_
 obtain ⟨o57,h58,h⟩:=zB h
 refine zO (fun (s:List (List Int)×Int×Int)=>⟨[(0,.own 44 1 0 s.1.length),(1,.p (.func (.func 71) [])),(5,.p (.int .i64 s.2.1)),(6,.own 44 1 k46.toNat (l33.length - k46.toNat)),(7,.p (.int .i64 s.2.2))],[(44,.arr 37 1 1 (v58 AV.p (v58 (qav (uap .i64)) s.1)))]⟩) (fun (o59:List (List Int)×Int)=>tE ⟨prog,66,50,X,[(44,.arr 37 1 1 (v58 AV.p (v58 (qav (uap .i64)) l33)))],i38,w39,D,h40⟩ (.exit 2) ⟨[(0,.own 44 1 0 o59.1.length),(5,.p (.int .i64 o59.2))],[(44,.arr 37 1 1 (v58 AV.p (v58 (qav (uap .i64)) o59.1)))]⟩) h58 ?_ ?_
 clear h h47 h49 h49a h49b h51 h51a h51b h53 h54 h55 h56 h58
 intro s x h
 obtain ⟨s60,k61,k62⟩:=s
 simp only [qdd] at h
 refine Mt ?_
 refine Ma ?_
 obtain ⟨h63,h⟩|⟨h63,h⟩:=zI h
 refine zi<|zk<|zn<|zs<|zb<|zs<|zd ?_
 obtain ⟨x64,h65,h65a,h65b,h⟩:=zX h
 obtain ⟨h66,h66n⟩:=qua h65
 have h66N:=eq_true (qyn h66n h65a)
 obtain ⟨x67,h68,h68a,h68b,h⟩:=zX h
 obtain ⟨h69,h69n⟩:=qua h68
 have h69N:=eq_true (qyn h69n h68a)
 refine yU ?_
 obtain ⟨r70,h71,h⟩:=zB h
 refine yc (qko x64 x67 _ h71) ?_
 refine Ms ?_
 obtain ⟨h72,h⟩|⟨h72,h⟩:=zI h
 refine Me ?_
 exact M0 h
 refine T5 ?_
 obtain ⟨h73,h73n⟩:=qua h65
 have h73N:=eq_true (qyn h73n h65a)
 obtain ⟨x74,h75,h75a,h75b,h⟩:=zX h
 refine Mu ?_
 refine Mk ?_
 exact M0 h
 exact M3 h
 obtain ⟨s76,k77⟩:=o57
 try simp only at h
 refine Md ?_
 obtain ⟨h78,h⟩:=qae h
 obtain ⟨h79,h⟩:=qae h
 refine zW 3 ?_
 refine zCn (qav (uap .i64)) s76 44 k77.toNat (s76.length - k77.toNat) (by simp only [List.length_set,List.length_append,List.length_replicate] at *;omega) ?_
 refine zM ⟨[(0,.own 44 1 0 ((((s76.take k77.toNat)).length+((v4a (s76.length - k77.toNat) ([]:List Int))).length)+((s76.drop (k77.toNat+(s76.length - k77.toNat)))).length)),(5,.p (.int .i64 k77))],[(44,.arr 37 1 1 (v58 AV.p (v58 (qav (uap .i64)) (((s76.take k77.toNat)++(v4a (s76.length - k77.toNat) ([]:List Int)))++(s76.drop (k77.toNat+(s76.length - k77.toNat)))))))]⟩ ?_
 refine T6 ?_
 obtain ⟨h80,h⟩:=qae h
 obtain ⟨h81,h⟩:=qae h
 refine Ma ?_
 refine zL ⟨[(4,.own 44 1 0 k77.toNat)],[(44,.arr 37 1 1 (v58 AV.p (v58 (qav (uap .i64)) (((s76.take k77.toNat)++(v4a (s76.length - k77.toNat) ([]:List Int)))++(s76.drop (k77.toNat+(s76.length - k77.toNat)))))))]⟩ ?_
 obtain ⟨l82,h83,h⟩:=zB h
 replace h83:=v6z h83
 rw [h83]
 obtain ⟨h84,h⟩:=qae h
 obtain ⟨l85,h86,h⟩:=zB h
 replace h86:=v6z h86
 have h86L:l85.length=k77.toNat:=by rw [←h86];exact List.length_take_of_le h84
 refine q1u 4 44 1 k77.toNat 37 1 (es':=v58 AV.p (v58 (qav (uap .i64)) l85)) (by exact rfl) (by exact rfl) (by rw [←List.map_take,←List.map_take,h86]) rfl ?_
 refine zL ⟨[(4,.own 44 2 0 l85.length)],[(44,.arr 37 1 2 (v58 AV.p (v58 (qav (uap .i64)) l85)))]⟩ ?_
 clear h86L h84
 refine zq<|yr<|zt ?_
 exact Mo h
 refine Me ?_
 exact M0 h
 exact M3 h
 rcases o42 with ⟨⟩ | t87
 try simp only at h
 refine Md ?_
 refine My ?_
 refine qa8 (by simp only [results70];simp only [go_sem,seval,h41T];exact rfl) ?_
 exact M1 h results26
 try simp only at h
 refine zA<|yr<|zt ?_
 refine qa8 (by simp only [results70];simp only [go_sem,seval,h41T];exact rfl) ?_
 exact M1 h results26
end
end Go.Proofs.YtkebadaokhljmaaGreatDoor
