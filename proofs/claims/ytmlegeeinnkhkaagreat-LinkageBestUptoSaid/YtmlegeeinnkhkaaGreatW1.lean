/- Each function of the program computes what its Lean function says, where that has a value. -/
import Derived.Shelf.SlSortCmp.NoneTotal
import Derived.Ground.SlsfProg
import Derived.Shelf.SortM.Plain
import Derived.Shelf.SortM.SortNone
import Derived.Ground.SlgmProg
import Derived.Shelf.Slices.CompactI
import Derived.Ground.Names2Prog
import Derived.Shelf.Strings.Repeat
import Derived.Ground.NamesProg
import Derived.Shelf.Small.Strs
import Derived.Shelf.Spec.BitsCarry
import Derived.Shelf.Spec.SlicesGrow
import Derived.Ground.Names8Prog
import Derived.Ground.SlgnProg
import Derived.Test.YtmlegeeinnkhkaaGreatT1
import Derived.Test.YtmlegeeinnkhkaaGreatL1
import Derived.Test.YtmlegeeinnkhkaaGreatA2
import Derived.Test.YtmlegeeinnkhkaaGreatA3
set_option linter.unusedVariables false
set_option linter.unusedSimpArgs false
set_option maxHeartbeats 4000000
set_option maxRecDepth 20000
open And renaming intro→vzq
open Bool renaming eq_false_iff→vvo
open Go.IntKind renaming i64→vxc
open List renaming length_append→vtx,length_cons→vv5,length_nil→vt0,length_set→vt2,map→vwb,replicate→vuh
open Nat renaming le_refl→vuv
open Option.some renaming inj→vwz
namespace Go.Proofs.YtmlegeeinnkhkaaGreat
open Go Go.Ab Tryz
theorem mixed:Tryz.prog.follows .mixedOrders=true:=by kernel_rfl
@[reducible] noncomputable def cX (f:Func) (X:Nat→Prop) (w:World) (D:Prop) (hT:qvv Tryz.prog (fun b=>X b∨F (fun _=>none) (qaw []) b) w):Cx:=⟨Tryz.prog,f.ntmps,0,X,[],fun _=>none,w,D,hT⟩
theorem zd {N B:Nat} {X:Nat→Prop} {H0:List (Nat×AO)} {inj0:Inj} {w0:World} {D:Prop} {tb:qvv Tryz.prog (fun b=>X b∨F inj0 (qaw H0) b) w0} {Q:Exit→St→Prop} {st:St} {id:Nat} {l:List Oper} (h:DGo ⟨Tryz.prog,N,B,X,H0,inj0,w0,D,tb⟩ l.toArray l st [] (DK ⟨Tryz.prog,N,B,X,H0,inj0,w0,D,tb⟩ l.toArray Q)) (hs:qkk l.toArray=true:=by kernel_rfl):AWp ⟨Tryz.prog,N,B,X,H0,inj0,w0,D,tb⟩ (.region id l.toArray true) Q st:=qyc mixed hs h
theorem zdl (n:Nat) {N B:Nat} {X:Nat→Prop} {H0:List (Nat×AO)} {inj0:Inj} {w0:World} {D:Prop} {tb:qvv Tryz.prog (fun b=>X b∨F inj0 (qaw H0) b) w0} {Q:Exit→St→Prop} {st:St} {id:Nat} {l:List Oper} (h:DGo ⟨Tryz.prog,N,B,X,H0,inj0,w0,D,tb⟩ l.toArray (l.take n) st [] (DKL ⟨Tryz.prog,N,B,X,H0,inj0,w0,D,tb⟩ l.toArray (l.drop n) Q)) (hs:qkk l.toArray=true:=by kernel_rfl) (hl:q71 l.toArray n=true:=by kernel_rfl):AWp ⟨Tryz.prog,N,B,X,H0,inj0,w0,D,tb⟩ (.region id l.toArray true) Q st:=qyd n mixed hs hl h
def qak (x:Value):PV:=.agg [.int .i64 x.Kind,.int .i64 x.Num,.str x.Str]
@[go_sem] theorem vja (x:Value):PV.agg [.int .i64 x.Kind,.int .i64 x.Num,.str x.Str]=qak x:=rfl
@[go_sem] theorem qyq (x:Value):(qak x).cells=[.int .i64 x.Kind,.int .i64 x.Num,.str x.Str]:=rfl
@[go_sem] theorem vf9 (x:Value):(qak x).isAgg=true:=rfl
@[go_sem] theorem vga (x:Value):(qak x).isTup=false:=rfl
@[go_sem] theorem vn4 (l:List Value):((l.map qak).all fun y=>y.cells.length == 3)=true:=by simp [qak,PV.cells]
@[go_sem] theorem vn5 (l:List Value):((l.map qak).map AV.p).all (qg7 3)=true:=qjf _ _ _ fun _=>⟨rfl,rfl⟩
@[go_sem] theorem vjb:qak (Value.mk 0 0 [])=.agg [.int .i64 0,.int .i64 0,.str []]:=rfl
@[go_sem] theorem vjc (x:Value):(qak x).flat=true:=rfl
def qal (x:Similar):PV:=.agg [.int .i64 x.Attr,.int .i64 x.Measure,.int .i64 x.Limit]
@[go_sem] theorem vfy (x:Similar):PV.agg [.int .i64 x.Attr,.int .i64 x.Measure,.int .i64 x.Limit]=qal x:=rfl
@[go_sem] theorem qvh (x:Similar):(qal x).cells=[.int .i64 x.Attr,.int .i64 x.Measure,.int .i64 x.Limit]:=rfl
@[go_sem] theorem vbr (x:Similar):(qal x).isAgg=true:=rfl
@[go_sem] theorem vbs (x:Similar):(qal x).isTup=false:=rfl
@[go_sem] theorem vfz:qal (Similar.mk 0 0 0)=.agg [.int .i64 0,.int .i64 0,.int .i64 0]:=rfl
@[go_sem] theorem vf0 (x:Similar):(qal x).flat=true:=rfl
def qg3 (x:Ratio):PV:=.agg [.int .i64 x.Num,.int .i64 x.Den]
@[go_sem] theorem vjd (x:Ratio):PV.agg [.int .i64 x.Num,.int .i64 x.Den]=qg3 x:=rfl
@[go_sem] theorem vgb (x:Ratio):(qg3 x).cells=[.int .i64 x.Num,.int .i64 x.Den]:=rfl
@[go_sem] theorem vgc (x:Ratio):(qg3 x).isAgg=true:=rfl
@[go_sem] theorem vgd (x:Ratio):(qg3 x).isTup=false:=rfl
@[go_sem] theorem vje:qg3 (Ratio.mk 0 0)=.agg [.int .i64 0,.int .i64 0]:=rfl
@[go_sem] theorem vjf (x:Ratio):(qg3 x).flat=true:=rfl
def qay (x:Row):PV:=.agg [.int .i64 x.ID,.slc (vwb qak x.Values)]
@[go_sem] theorem vn6 (x:Row):PV.agg [.int .i64 x.ID,.slc (vwb qak x.Values)]=qay x:=rfl
@[go_sem] theorem q5e (x:Row):(qay x).cells=[.int .i64 x.ID,.slc (vwb qak x.Values)]:=rfl
@[go_sem] theorem vj7 (x:Row):(qay x).isAgg=true:=rfl
@[go_sem] theorem vj8 (x:Row):(qay x).isTup=false:=rfl
@[simp] theorem vsl (a_ID:Int) (a_Values:List Value):qay ⟨a_ID,a_Values⟩=.agg [.int .i64 a_ID,.slc (vwb qak a_Values)]:=rfl
def qai (x:Linkage):PV:=.agg [.slc (vwb (qat qal) x.Rules),.slc (vwb (PV.int .i64) x.Block),.slc (vwb (PV.int .i64) x.Survive)]
@[go_sem] theorem vf1 (x:Linkage):PV.agg [.slc (vwb (qat qal) x.Rules),.slc (vwb (PV.int .i64) x.Block),.slc (vwb (PV.int .i64) x.Survive)]=qai x:=rfl
@[go_sem] theorem qvi (x:Linkage):(qai x).cells=[.slc (vwb (qat qal) x.Rules),.slc (vwb (PV.int .i64) x.Block),.slc (vwb (PV.int .i64) x.Survive)]:=rfl
@[go_sem] theorem vbt (x:Linkage):(qai x).isAgg=true:=rfl
@[go_sem] theorem vbu (x:Linkage):(qai x).isTup=false:=rfl
@[simp] theorem vjg (a_Rules:List (List Similar)) (a_Block:List Int) (a_Survive:List Int):qai ⟨a_Rules,a_Block,a_Survive⟩=.agg [.slc (vwb (qat qal) a_Rules),.slc (vwb (PV.int .i64) a_Block),.slc (vwb (PV.int .i64) a_Survive)]:=rfl
def qap (x:Table):PV:=.agg [.str x.Name,.slc (vwb PV.str x.Attrs),.slc (vwb qay x.Rows)]
@[go_sem] theorem vjh (x:Table):PV.agg [.str x.Name,.slc (vwb PV.str x.Attrs),.slc (vwb qay x.Rows)]=qap x:=rfl
@[go_sem] theorem qyr (x:Table):(qap x).cells=[.str x.Name,.slc (vwb PV.str x.Attrs),.slc (vwb qay x.Rows)]:=rfl
@[go_sem] theorem vge (x:Table):(qap x).isAgg=true:=rfl
@[go_sem] theorem vgf (x:Table):(qap x).isTup=false:=rfl
@[simp] theorem vn7 (a_Name:List UInt8) (a_Attrs:List (List UInt8)) (a_Rows:List Row):qap ⟨a_Name,a_Attrs,a_Rows⟩=.agg [.str a_Name,.slc (vwb PV.str a_Attrs),.slc (vwb qay a_Rows)]:=rfl
def qac (x:Arr2_int):PV:=.agg [.int .i64 x.x0,.int .i64 x.x1]
@[go_sem] theorem vbv (x:Arr2_int):PV.agg [.int .i64 x.x0,.int .i64 x.x1]=qac x:=rfl
@[go_sem] theorem vbl (x:Arr2_int):(qac x).cells=[.int .i64 x.x0,.int .i64 x.x1]:=rfl
@[go_sem] theorem vbm (x:Arr2_int):(qac x).isAgg=true:=rfl
@[go_sem] theorem vbn (x:Arr2_int):(qac x).isTup=false:=rfl
@[go_sem] theorem vgg (l:List Arr2_int):((l.map qac).all fun y=>y.cells.length == 2)=true:=by simp [qac,PV.cells]
@[go_sem] theorem vgh (l:List Arr2_int):((l.map qac).map AV.p).all (qg7 2)=true:=qjf _ _ _ fun _=>⟨rfl,rfl⟩
@[go_sem] theorem vbw:qac (Arr2_int.mk 0 0)=.agg [.int .i64 0,.int .i64 0]:=rfl
@[go_sem] theorem vbx (x:Arr2_int):(qac x).flat=true:=rfl
def qbu (x:Arr2_int64):PV:=.agg [.int .i64 x.x0,.int .i64 x.x1]
@[go_sem] theorem q84 (x:Arr2_int64):PV.agg [.int .i64 x.x0,.int .i64 x.x1]=qbu x:=rfl
@[go_sem] theorem qrr (x:Arr2_int64):(qbu x).cells=[.int .i64 x.x0,.int .i64 x.x1]:=rfl
@[go_sem] theorem q7m (x:Arr2_int64):(qbu x).isAgg=true:=rfl
@[go_sem] theorem q7n (x:Arr2_int64):(qbu x).isTup=false:=rfl
@[go_sem] theorem q85:qbu (Arr2_int64.mk 0 0)=.agg [.int .i64 0,.int .i64 0]:=rfl
@[go_sem] theorem q86 (x:Arr2_int64):(qbu x).flat=true:=rfl
def qba (x:Pair):PV:=.agg [.int .i64 x.I,.int .i64 x.K,.int .i64 x.Weight]
@[go_sem] theorem vj9 (x:Pair):PV.agg [.int .i64 x.I,.int .i64 x.K,.int .i64 x.Weight]=qba x:=rfl
@[go_sem] theorem vji (x:Pair):(qba x).cells=[.int .i64 x.I,.int .i64 x.K,.int .i64 x.Weight]:=rfl
@[go_sem] theorem vjj (x:Pair):(qba x).isAgg=true:=rfl
@[go_sem] theorem vjk (x:Pair):(qba x).isTup=false:=rfl
@[go_sem] theorem vka:qba (Pair.mk 0 0 0)=.agg [.int .i64 0,.int .i64 0,.int .i64 0]:=rfl
@[go_sem] theorem vkb (x:Pair):(qba x).flat=true:=rfl
def qgw (x:Cluster_search):PV:=.agg [.slc (vwb (qat (PV.int .i64)) x.w),.slc (vwb (PV.int .i64) x.labels),.slc (vwb (PV.int .i64) x.best),.int .i64 x.least]
@[go_sem] theorem q2j (x:Cluster_search):PV.agg [.slc (vwb (qat (PV.int .i64)) x.w),.slc (vwb (PV.int .i64) x.labels),.slc (vwb (PV.int .i64) x.best),.int .i64 x.least]=qgw x:=rfl
@[go_sem] theorem q14 (x:Cluster_search):(qgw x).cells=[.slc (vwb (qat (PV.int .i64)) x.w),.slc (vwb (PV.int .i64) x.labels),.slc (vwb (PV.int .i64) x.best),.int .i64 x.least]:=rfl
@[go_sem] theorem q15 (x:Cluster_search):(qgw x).isAgg=true:=rfl
@[go_sem] theorem q16 (x:Cluster_search):(qgw x).isTup=false:=rfl
@[simp] theorem q5i (a_w:List (List Int)) (a_labels:List Int) (a_best:List Int) (a_least:Int):qgw ⟨a_w,a_labels,a_best,a_least⟩=.agg [.slc (vwb (qat (PV.int .i64)) a_w),.slc (vwb (PV.int .i64) a_labels),.slc (vwb (PV.int .i64) a_best),.int .i64 a_least]:=rfl
def qae (x:Drossref04_Wide):PV:=.agg [.int .u64 x.Hi,.int .u64 x.Lo]
@[go_sem] theorem q17 (x:Drossref04_Wide):PV.agg [.int .u64 x.Hi,.int .u64 x.Lo]=qae x:=rfl
@[go_sem] theorem qz5 (x:Drossref04_Wide):(qae x).cells=[.int .u64 x.Hi,.int .u64 x.Lo]:=rfl
@[go_sem] theorem qz6 (x:Drossref04_Wide):(qae x).isAgg=true:=rfl
@[go_sem] theorem qz7 (x:Drossref04_Wide):(qae x).isTup=false:=rfl
@[go_sem] theorem q18:qae (Drossref04_Wide.mk 0 0)=.agg [.int .u64 0,.int .u64 0]:=rfl
@[go_sem] theorem q19 (x:Drossref04_Wide):(qae x).flat=true:=rfl
def qa0 (x:Drossref56_Test):PV:=.agg [.int .u8 x.Attr,.int .u8 x.Measure,.int .u8 x.Limit]
@[go_sem] theorem q2a (x:Drossref56_Test):PV.agg [.int .u8 x.Attr,.int .u8 x.Measure,.int .u8 x.Limit]=qa0 x:=rfl
@[go_sem] theorem qnw (x:Drossref56_Test):(qa0 x).cells=[.int .u8 x.Attr,.int .u8 x.Measure,.int .u8 x.Limit]:=rfl
@[go_sem] theorem qz8 (x:Drossref56_Test):(qa0 x).isAgg=true:=rfl
@[go_sem] theorem qz9 (x:Drossref56_Test):(qa0 x).isTup=false:=rfl
@[go_sem] theorem q2b:qa0 (Drossref56_Test.mk 0 0 0)=.agg [.int .u8 0,.int .u8 0,.int .u8 0]:=rfl
@[go_sem] theorem q2c (x:Drossref56_Test):(qa0 x).flat=true:=rfl
def qam (x:Drossref56_Draft):PV:=.agg [.slc (vwb (qat qa0) x.Rules),.int .u8 x.Block,.slc (vwb (PV.int .u8) x.Survive)]
@[go_sem] theorem q0a (x:Drossref56_Draft):PV.agg [.slc (vwb (qat qa0) x.Rules),.int .u8 x.Block,.slc (vwb (PV.int .u8) x.Survive)]=qam x:=rfl
@[go_sem] theorem qm7 (x:Drossref56_Draft):(qam x).cells=[.slc (vwb (qat qa0) x.Rules),.int .u8 x.Block,.slc (vwb (PV.int .u8) x.Survive)]:=rfl
@[go_sem] theorem qys (x:Drossref56_Draft):(qam x).isAgg=true:=rfl
@[go_sem] theorem qyt (x:Drossref56_Draft):(qam x).isTup=false:=rfl
@[simp] theorem q2k (a_Rules:List (List Drossref56_Test)) (a_Block:Int) (a_Survive:List Int):qam ⟨a_Rules,a_Block,a_Survive⟩=.agg [.slc (vwb (qat qa0) a_Rules),.int .u8 a_Block,.slc (vwb (PV.int .u8) a_Survive)]:=rfl
def qaq (x:Drossref03_Recipe):PV:=.agg [.int .u8 x.Attrs,.int .u8 x.Gap,.slc (vwb (qat (PV.int .u8)) x.Rows)]
@[go_sem] theorem qyu (x:Drossref03_Recipe):PV.agg [.int .u8 x.Attrs,.int .u8 x.Gap,.slc (vwb (qat (PV.int .u8)) x.Rows)]=qaq x:=rfl
@[go_sem] theorem ql2 (x:Drossref03_Recipe):(qaq x).cells=[.int .u8 x.Attrs,.int .u8 x.Gap,.slc (vwb (qat (PV.int .u8)) x.Rows)]:=rfl
@[go_sem] theorem qxx (x:Drossref03_Recipe):(qaq x).isAgg=true:=rfl
@[go_sem] theorem qxy (x:Drossref03_Recipe):(qaq x).isTup=false:=rfl
@[simp] theorem q2d (a_Attrs:Int) (a_Gap:Int) (a_Rows:List (List Int)):qaq ⟨a_Attrs,a_Gap,a_Rows⟩=.agg [.int .u8 a_Attrs,.int .u8 a_Gap,.slc (vwb (qat (PV.int .u8)) a_Rows)]:=rfl
def qpm (x:Merged):PV:=.agg [.str x.Table.Name,.slc (vwb PV.str x.Table.Attrs),.slc (vwb qay x.Table.Rows),.slc (vwb (qat (PV.int .i64)) x.Clusters),.slc (vwb (qat (PV.int .i64)) x.Origins)]
@[go_sem] theorem vgi (x:Merged):PV.agg [.str x.Table.Name,.slc (vwb PV.str x.Table.Attrs),.slc (vwb qay x.Table.Rows),.slc (vwb (qat (PV.int .i64)) x.Clusters),.slc (vwb (qat (PV.int .i64)) x.Origins)]=qpm x:=rfl
@[go_sem] theorem vf2 (x:Merged):(qpm x).cells=[.str x.Table.Name,.slc (vwb PV.str x.Table.Attrs),.slc (vwb qay x.Table.Rows),.slc (vwb (qat (PV.int .i64)) x.Clusters),.slc (vwb (qat (PV.int .i64)) x.Origins)]:=rfl
@[go_sem] theorem vf3 (x:Merged):(qpm x).isAgg=true:=rfl
@[go_sem] theorem vf4 (x:Merged):(qpm x).isTup=false:=rfl
@[simp] theorem vkc (a_Table:Table) (a_Clusters:List (List Int)) (a_Origins:List (List Int)):qpm ⟨a_Table,a_Clusters,a_Origins⟩=.agg [.str a_Table.Name,.slc (vwb PV.str a_Table.Attrs),.slc (vwb qay a_Table.Rows),.slc (vwb (qat (PV.int .i64)) a_Clusters),.slc (vwb (qat (PV.int .i64)) a_Origins)]:=rfl
def qc6 (x:Drossref55_Result):PV:=.agg [.int .i64 x.Value.Kind,.int .i64 x.Value.Num,.str x.Value.Str,.int .i64 x.Origin]
@[go_sem] theorem qyv (x:Drossref55_Result):PV.agg [.int .i64 x.Value.Kind,.int .i64 x.Value.Num,.str x.Value.Str,.int .i64 x.Origin]=qc6 x:=rfl
@[go_sem] theorem qxz (x:Drossref55_Result):(qc6 x).cells=[.int .i64 x.Value.Kind,.int .i64 x.Value.Num,.str x.Value.Str,.int .i64 x.Origin]:=rfl
@[go_sem] theorem qx0 (x:Drossref55_Result):(qc6 x).isAgg=true:=rfl
@[go_sem] theorem qx1 (x:Drossref55_Result):(qc6 x).isTup=false:=rfl
@[go_sem] theorem qyw:qc6 (Drossref55_Result.mk (Value.mk 0 0 []) 0)=.agg [.int .i64 0,.int .i64 0,.str [],.int .i64 0]:=rfl
@[go_sem] theorem qyx (x:Drossref55_Result):(qc6 x).flat=true:=rfl
def qgx (x:Drossref55_Row):PV:=.agg [.int .i64 x.Row.ID,.slc (vwb qak x.Row.Values),.slc (vwb (PV.int .i64) x.Origins)]
@[go_sem] theorem q2l (x:Drossref55_Row):PV.agg [.int .i64 x.Row.ID,.slc (vwb qak x.Row.Values),.slc (vwb (PV.int .i64) x.Origins)]=qgx x:=rfl
@[go_sem] theorem q2e (x:Drossref55_Row):(qgx x).cells=[.int .i64 x.Row.ID,.slc (vwb qak x.Row.Values),.slc (vwb (PV.int .i64) x.Origins)]:=rfl
@[go_sem] theorem q2f (x:Drossref55_Row):(qgx x).isAgg=true:=rfl
@[go_sem] theorem q2g (x:Drossref55_Row):(qgx x).isTup=false:=rfl
@[simp] theorem q5j (a_Row:Row) (a_Origins:List Int):qgx ⟨a_Row,a_Origins⟩=.agg [.int .i64 a_Row.ID,.slc (vwb qak a_Row.Values),.slc (vwb (PV.int .i64) a_Origins)]:=rfl
theorem qlr (a b:Arr2_int):qne Tryz.prog 108 (qac a) (qac b)=some (decide (a=b)):=by
  obtain ⟨a0,a1⟩:=a;obtain ⟨b0,b1⟩:=b;simp only [qac,qne,qy1,eqC,go_sem,seval,beq_self_eq_true,Bool.true_and,Bool.and_true,if_true,Option.bind_some,Option.isSome_some];congr 1;rw [Bool.eq_iff_iff];simp
@[go_sem] theorem qqj {V:Type} (k:Arr2_int) (m:List (Arr2_int×V)) (g:V→PV):qqb Tryz.prog 108 (qac k) (qmc qac m) ((qna g m).map AV.p)=some ((qo7 m k).map fun v=>AV.p (g v)):=q3k _ _ _ qlr k m g
@[go_sem] theorem q5f {V:Type} (a0:Int) (a1:Int) (m:List (Arr2_int×V)) (g:V→PV):qqb Tryz.prog 108 (.agg [.int .i64 a0,.int .i64 a1]) (qmc qac m) ((qna g m).map AV.p)=some ((qo7 m (Arr2_int.mk a0 a1)).map fun v=>AV.p (g v)):=qqj (Arr2_int.mk a0 a1) m g
@[go_sem] theorem qrs {V:Type} (k:Arr2_int) (m:List (Arr2_int×V)) (g:V→PV) (v:V):q5q Tryz.prog 108 (qac k) (.p (g v)) (qmc qac m) ((qna g m).map AV.p)=some (qmc qac (qvn m k v),(qna g (qvn m k v)).map AV.p):=q7z _ _ _ qlr k m g v
@[go_sem] theorem q5k {V:Type} (a0:Int) (a1:Int) (m:List (Arr2_int×V)) (g:V→PV) (v:V):q5q Tryz.prog 108 (.agg [.int .i64 a0,.int .i64 a1]) (.p (g v)) (qmc qac m) ((qna g m).map AV.p)=some (qmc qac (qvn m (Arr2_int.mk a0 a1) v),(qna g (qvn m (Arr2_int.mk a0 a1) v)).map AV.p):=qrs (Arr2_int.mk a0 a1) m g v
end Go.Proofs.YtmlegeeinnkhkaaGreat
namespace Go.Proofs
open Go Go.Ab Go.Shelf Tryz
def YtmlegeeinnkhkaaGreat.sort45_ren:Go.Shelf.Ren:=⟨fun | 5=>45 | 8=>86 | 7=>85 | 19=>147 | 20=>148 | 10=>138 | 11=>139 | 12=>140 | 13=>141 | 14=>142 | 15=>143 | 16=>144 | 17=>145 | 18=>146 | 30=>200 | 31=>201 | 32=>202 | 33=>203 | 34=>204 | 35=>205 | 40=>238 | n=>n,fun | 23=>23 | 25=>3 | 3=>3 | 32=>150 | 22=>23 | 0=>0 | 44=>207 | 46=>166 | 4=>4 | 36=>200 | 35=>199 | 41=>118 | 5=>5 | 9=>9 | 53=>253 | 57=>257 | 63=>285 | 64=>286 | n=>n,fun | n=>n⟩
theorem YtmlegeeinnkhkaaGreat.sort45:Go.Proofs.SlLaysM.n5 Tryz.prog YtmlegeeinnkhkaaGreat.sort45_ren:={
  mixed:=by kernel_rfl
  f5:=⟨Tryz.f45.name,by decide,func45.trans (congrArg some (by kernel_rfl))⟩
  f7:=⟨Tryz.f85.name,by decide,func85.trans (congrArg some (by kernel_rfl))⟩
  f8:=func86.trans (congrArg some (by kernel_rfl))
  f10:=⟨Tryz.f138.name,by decide,func138.trans (congrArg some (by kernel_rfl))⟩
  f11:=⟨Tryz.f139.name,by decide,func139.trans (congrArg some (by kernel_rfl))⟩
  f12:=⟨Tryz.f140.name,by decide,func140.trans (congrArg some (by kernel_rfl))⟩
  f13:=⟨Tryz.f141.name,by decide,func141.trans (congrArg some (by kernel_rfl))⟩
  f14:=⟨Tryz.f142.name,by decide,func142.trans (congrArg some (by kernel_rfl))⟩
  f15:=⟨Tryz.f143.name,by decide,func143.trans (congrArg some (by kernel_rfl))⟩
  f16:=⟨Tryz.f144.name,by decide,func144.trans (congrArg some (by kernel_rfl))⟩
  f17:=⟨Tryz.f145.name,by decide,func145.trans (congrArg some (by kernel_rfl))⟩
  f18:=⟨Tryz.f146.name,by decide,func146.trans (congrArg some (by kernel_rfl))⟩
  f19:=func147.trans (congrArg some (by kernel_rfl))
  f20:=func148.trans (congrArg some (by kernel_rfl))
  f30:=⟨Tryz.f200.name,by decide,func200.trans (congrArg some (by kernel_rfl))⟩
  f31:=func201.trans (congrArg some (by kernel_rfl))
  f32:=func202.trans (congrArg some (by kernel_rfl))
  f33:=⟨Tryz.f203.name,by decide,func203.trans (congrArg some (by kernel_rfl))⟩
  f34:=⟨Tryz.f204.name,by decide,func204.trans (congrArg some (by kernel_rfl))⟩
  f35:=⟨Tryz.f205.name,by decide,func205.trans (congrArg some (by kernel_rfl))⟩
  f40:=⟨Tryz.f238.name,by decide,func238.trans (congrArg some (by kernel_rfl))⟩
  t0:=underlying0
  a0:=isAgg0
  z0:=sizeOf0
  v0:=zeroValue0
  t3:=underlying3
  a3:=isAgg3
  z3:=sizeOf3
  v3:=zeroValue3
  t4:=underlying4
  a4:=isAgg4
  z4:=sizeOf4
  v4:=zeroValue4
  t5:=underlying5
  a5:=isAgg5
  z5:=sizeOf5
  v5:=zeroValue5
  t9:=underlying9
  a9:=isAgg9
  z9:=sizeOf9
  v9:=zeroValue9
  t22:=underlying23
  a22:=isAgg23
  z22:=sizeOf23
  v22:=zeroValue23
  t23:=underlying23
  a23:=isAgg23
  z23:=sizeOf23
  v23:=zeroValue23
  t25:=underlying3
  a25:=isAgg3
  z25:=sizeOf3
  v25:=zeroValue3
  t32:=underlying150
  a32:=isAgg150
  z32:=sizeOf150
  v32:=zeroValue150
  t35:=underlying199
  a35:=isAgg199
  z35:=sizeOf199
  v35:=zeroValue199
  t36:=underlying200
  a36:=isAgg200
  z36:=sizeOf200
  v36:=zeroValue200
  t41:=underlying118
  a41:=isAgg118
  z41:=sizeOf118
  v41:=zeroValue118
  t44:=underlying207
  a44:=isAgg207
  z44:=sizeOf207
  v44:=zeroValue207
  t46:=underlying166
  a46:=isAgg166
  z46:=sizeOf166
  v46:=zeroValue166
  t53:=underlying253
  a53:=isAgg253
  z53:=sizeOf253
  v53:=zeroValue253
  t57:=underlying257
  a57:=isAgg257
  z57:=sizeOf257
  v57:=zeroValue257
  t63:=underlying285
  a63:=isAgg285
  z63:=sizeOf285
  v63:=zeroValue285
  t64:=underlying286
  a64:=isAgg286
  z64:=sizeOf286
  v64:=zeroValue286 }
def YtmlegeeinnkhkaaGreat.sort56_ren:Go.Shelf.Ren:=⟨fun | 6=>56 | 15=>86 | 14=>100 | 28=>147 | 29=>148 | 20=>163 | 21=>164 | 22=>165 | 23=>166 | 24=>167 | 25=>168 | 26=>169 | 27=>170 | 46=>212 | 47=>201 | 48=>202 | 49=>213 | 50=>214 | 57=>243 | n=>n,fun | 22=>52 | 24=>63 | 25=>116 | 3=>3 | 39=>150 | 0=>0 | 53=>207 | 55=>166 | 4=>4 | 46=>200 | 45=>199 | 50=>118 | 5=>5 | 9=>9 | 66=>253 | 70=>257 | 76=>285 | 77=>286 | n=>n,fun | n=>n⟩
theorem YtmlegeeinnkhkaaGreat.sort56:Go.Proofs.SlLaysF.n6 Tryz.prog YtmlegeeinnkhkaaGreat.sort56_ren:={
  mixed:=by kernel_rfl
  f6:=⟨Tryz.f56.name,by decide,func56.trans (congrArg some (by kernel_rfl))⟩
  f14:=⟨Tryz.f100.name,by decide,func100.trans (congrArg some (by kernel_rfl))⟩
  f15:=func86.trans (congrArg some (by kernel_rfl))
  f20:=⟨Tryz.f163.name,by decide,func163.trans (congrArg some (by kernel_rfl))⟩
  f21:=⟨Tryz.f164.name,by decide,func164.trans (congrArg some (by kernel_rfl))⟩
  f22:=⟨Tryz.f165.name,by decide,func165.trans (congrArg some (by kernel_rfl))⟩
  f23:=⟨Tryz.f166.name,by decide,func166.trans (congrArg some (by kernel_rfl))⟩
  f24:=⟨Tryz.f167.name,by decide,func167.trans (congrArg some (by kernel_rfl))⟩
  f25:=⟨Tryz.f168.name,by decide,func168.trans (congrArg some (by kernel_rfl))⟩
  f26:=⟨Tryz.f169.name,by decide,func169.trans (congrArg some (by kernel_rfl))⟩
  f27:=⟨Tryz.f170.name,by decide,func170.trans (congrArg some (by kernel_rfl))⟩
  f28:=func147.trans (congrArg some (by kernel_rfl))
  f29:=func148.trans (congrArg some (by kernel_rfl))
  f46:=⟨Tryz.f212.name,by decide,func212.trans (congrArg some (by kernel_rfl))⟩
  f47:=func201.trans (congrArg some (by kernel_rfl))
  f48:=func202.trans (congrArg some (by kernel_rfl))
  f49:=⟨Tryz.f213.name,by decide,func213.trans (congrArg some (by kernel_rfl))⟩
  f50:=⟨Tryz.f214.name,by decide,func214.trans (congrArg some (by kernel_rfl))⟩
  f57:=⟨Tryz.f243.name,by decide,func243.trans (congrArg some (by kernel_rfl))⟩
  t0:=underlying0
  a0:=isAgg0
  z0:=sizeOf0
  v0:=zeroValue0
  t3:=underlying3
  a3:=isAgg3
  z3:=sizeOf3
  v3:=zeroValue3
  t4:=underlying4
  a4:=isAgg4
  z4:=sizeOf4
  v4:=zeroValue4
  t5:=underlying5
  a5:=isAgg5
  z5:=sizeOf5
  v5:=zeroValue5
  t9:=underlying9
  a9:=isAgg9
  z9:=sizeOf9
  v9:=zeroValue9
  t22:=underlying52
  a22:=isAgg52
  z22:=sizeOf52
  v22:=zeroValue52
  a24:=isAgg63
  z24:=sizeOf63
  t25:=underlying116
  a25:=isAgg116
  z25:=sizeOf116
  v25:=zeroValue116
  t39:=underlying150
  a39:=isAgg150
  z39:=sizeOf150
  v39:=zeroValue150
  t45:=underlying199
  a45:=isAgg199
  z45:=sizeOf199
  v45:=zeroValue199
  t46:=underlying200
  a46:=isAgg200
  z46:=sizeOf200
  v46:=zeroValue200
  t50:=underlying118
  a50:=isAgg118
  z50:=sizeOf118
  v50:=zeroValue118
  t53:=underlying207
  a53:=isAgg207
  z53:=sizeOf207
  v53:=zeroValue207
  t55:=underlying166
  a55:=isAgg166
  z55:=sizeOf166
  v55:=zeroValue166
  t66:=underlying253
  a66:=isAgg253
  z66:=sizeOf253
  v66:=zeroValue253
  t70:=underlying257
  a70:=isAgg257
  z70:=sizeOf257
  v70:=zeroValue257
  t76:=underlying285
  a76:=isAgg285
  z76:=sizeOf285
  v76:=zeroValue285
  t77:=underlying286
  a77:=isAgg286
  z77:=sizeOf286
  v77:=zeroValue286 }
def YtmlegeeinnkhkaaGreat.sort198_ren:Go.Shelf.Ren:=⟨fun | 6=>198 | 8=>86 | 9=>236 | 19=>147 | 20=>148 | 21=>253 | 22=>254 | 23=>255 | 24=>256 | 25=>257 | 26=>258 | 27=>259 | 28=>260 | 29=>261 | 36=>267 | 31=>201 | 32=>202 | 37=>268 | 38=>269 | 39=>270 | 41=>271 | n=>n,fun | 27=>38 | 29=>9 | 3=>3 | 32=>150 | 26=>38 | 0=>0 | 44=>207 | 46=>166 | 4=>4 | 36=>200 | 35=>199 | 41=>118 | 5=>5 | 9=>9 | 53=>253 | 57=>257 | 63=>285 | 64=>286 | n=>n,fun | n=>n⟩
theorem YtmlegeeinnkhkaaGreat.sort198:Go.Proofs.SlLaysM.n6 Tryz.prog YtmlegeeinnkhkaaGreat.sort198_ren:={
  mixed:=by kernel_rfl
  f6:=⟨Tryz.f198.name,by decide,func198.trans (congrArg some (by kernel_rfl))⟩
  f8:=func86.trans (congrArg some (by kernel_rfl))
  f9:=⟨Tryz.f236.name,by decide,func236.trans (congrArg some (by kernel_rfl))⟩
  f19:=func147.trans (congrArg some (by kernel_rfl))
  f20:=func148.trans (congrArg some (by kernel_rfl))
  f21:=⟨Tryz.f253.name,by decide,func253.trans (congrArg some (by kernel_rfl))⟩
  f22:=⟨Tryz.f254.name,by decide,func254.trans (congrArg some (by kernel_rfl))⟩
  f23:=⟨Tryz.f255.name,by decide,func255.trans (congrArg some (by kernel_rfl))⟩
  f24:=⟨Tryz.f256.name,by decide,func256.trans (congrArg some (by kernel_rfl))⟩
  f25:=⟨Tryz.f257.name,by decide,func257.trans (congrArg some (by kernel_rfl))⟩
  f26:=⟨Tryz.f258.name,by decide,func258.trans (congrArg some (by kernel_rfl))⟩
  f27:=⟨Tryz.f259.name,by decide,func259.trans (congrArg some (by kernel_rfl))⟩
  f28:=⟨Tryz.f260.name,by decide,func260.trans (congrArg some (by kernel_rfl))⟩
  f29:=⟨Tryz.f261.name,by decide,func261.trans (congrArg some (by kernel_rfl))⟩
  f31:=func201.trans (congrArg some (by kernel_rfl))
  f32:=func202.trans (congrArg some (by kernel_rfl))
  f36:=⟨Tryz.f267.name,by decide,func267.trans (congrArg some (by kernel_rfl))⟩
  f37:=⟨Tryz.f268.name,by decide,func268.trans (congrArg some (by kernel_rfl))⟩
  f38:=⟨Tryz.f269.name,by decide,func269.trans (congrArg some (by kernel_rfl))⟩
  f39:=⟨Tryz.f270.name,by decide,func270.trans (congrArg some (by kernel_rfl))⟩
  f41:=⟨Tryz.f271.name,by decide,func271.trans (congrArg some (by kernel_rfl))⟩
  t0:=underlying0
  a0:=isAgg0
  z0:=sizeOf0
  v0:=zeroValue0
  t3:=underlying3
  a3:=isAgg3
  z3:=sizeOf3
  v3:=zeroValue3
  t4:=underlying4
  a4:=isAgg4
  z4:=sizeOf4
  v4:=zeroValue4
  t5:=underlying5
  a5:=isAgg5
  z5:=sizeOf5
  v5:=zeroValue5
  t9:=underlying9
  a9:=isAgg9
  z9:=sizeOf9
  v9:=zeroValue9
  t26:=underlying38
  a26:=isAgg38
  z26:=sizeOf38
  v26:=zeroValue38
  t27:=underlying38
  a27:=isAgg38
  z27:=sizeOf38
  v27:=zeroValue38
  t29:=underlying9
  a29:=isAgg9
  z29:=sizeOf9
  v29:=zeroValue9
  t32:=underlying150
  a32:=isAgg150
  z32:=sizeOf150
  v32:=zeroValue150
  t35:=underlying199
  a35:=isAgg199
  z35:=sizeOf199
  v35:=zeroValue199
  t36:=underlying200
  a36:=isAgg200
  z36:=sizeOf200
  v36:=zeroValue200
  t41:=underlying118
  a41:=isAgg118
  z41:=sizeOf118
  v41:=zeroValue118
  t44:=underlying207
  a44:=isAgg207
  z44:=sizeOf207
  v44:=zeroValue207
  t46:=underlying166
  a46:=isAgg166
  z46:=sizeOf166
  v46:=zeroValue166
  t53:=underlying253
  a53:=isAgg253
  z53:=sizeOf253
  v53:=zeroValue253
  t57:=underlying257
  a57:=isAgg257
  z57:=sizeOf257
  v57:=zeroValue257
  t63:=underlying285
  a63:=isAgg285
  z63:=sizeOf285
  v63:=zeroValue285
  t64:=underlying286
  a64:=isAgg286
  z64:=sizeOf286
  v64:=zeroValue286 }
theorem YtmlegeeinnkhkaaGreat.srt45:SrtI Tryz.prog 45:=⟨call45,fun blk off cap zs w hH hb hs=>AnyM.slices_Sort_int YtmlegeeinnkhkaaGreat.sort45 blk off cap zs w hH hb hs,fun p cap w=>AnyM.slices_Sort_int_none YtmlegeeinnkhkaaGreat.sort45 p cap w⟩
theorem YtmlegeeinnkhkaaGreat.srt56:Srt1 Tryz.prog 56:=⟨call56,fun enc h1 cf hO g cb blk off cap d w eg hc hH hb hs=>Any.slices_SortFunc_eq YtmlegeeinnkhkaaGreat.sort56 enc h1 cf hO g cb blk off cap d w eg hc hH hb hs,fun p cap fv w=>AnyF.slices_SortFunc_none { YtmlegeeinnkhkaaGreat.sort56 with } p cap fv w⟩
theorem YtmlegeeinnkhkaaGreat.srt198:SrtS Tryz.prog 198:=⟨call198,fun blk off cap zs w hH hb hs=>AnyM.slices_Sort_string YtmlegeeinnkhkaaGreat.sort198 blk off cap zs w hH hb hs,fun p cap w=>AnyM.slices_Sort_string_none YtmlegeeinnkhkaaGreat.sort198 p cap w⟩
def YtmlegeeinnkhkaaGreat.compact46_ren:Go.Shelf.Ren:=⟨fun | 20=>46 | n=>n,fun | 0=>0 | 3=>3 | 4=>4 | 22=>23 | n=>n,fun | n=>n⟩
theorem YtmlegeeinnkhkaaGreat.compact46:Go.Proofs.Lays2.n20 Tryz.prog YtmlegeeinnkhkaaGreat.compact46_ren:={
  mixed:=by kernel_rfl
  f20:=func46.trans (congrArg some (by kernel_rfl))
  t0:=underlying0
  a0:=isAgg0
  z0:=sizeOf0
  v0:=zeroValue0
  t3:=underlying3
  a3:=isAgg3
  z3:=sizeOf3
  v3:=zeroValue3
  t4:=underlying4
  a4:=isAgg4
  z4:=sizeOf4
  v4:=zeroValue4
  t22:=underlying23
  a22:=isAgg23
  z22:=sizeOf23
  v22:=zeroValue23
  i3:=by kernel_rfl }
theorem YtmlegeeinnkhkaaGreat.cpt46:CptI Tryz.prog 46:=⟨call46,fun blk off cap zs w h1 h2 h3=>Any.slices_Compact_int YtmlegeeinnkhkaaGreat.compact46 blk off cap zs w h1 h2 h3,fun a cap w=>Any.slices_Compact_int_empty YtmlegeeinnkhkaaGreat.compact46 a cap w⟩
end Go.Proofs
namespace Go.Proofs.YtmlegeeinnkhkaaGreat
open Go Go.Ab Tryz
theorem qls {D:Prop} (v1:Value) (r2:Bool) (h:qiw v1=some r2):Con D Tryz.prog 80 [(qak v1)] (.bool r2):=by
 refine zP call80 func80 rfl ntmps80 fun X w hT=>?_
 simp only [qiw] at h
 refine zs<|zr ?_
 refine zU<|zl<|zn<|zs<|zs<|zr ?_
 refine zU<|zl<|zn<|zb<|zs<|zr ?_
 refine zU<|zl<|zn ?_
 obtain ⟨h3,h⟩|⟨h3,h⟩:=zI h
 refine zi<|zs<|zr ?_
 refine zU ?_
 obtain ⟨h4,h⟩|⟨h4,h⟩:=zI h
 replace h:=h.symm
 refine zw 10 true ?_
 refine zg ?_
 refine zg ?_
 refine zg ?_
 refine zU<|zl<|zn<|zq<|yr<|zt ?_
 cases h
 exact zT results80
 refine zw 10 false ?_
 refine zh ?_
 refine zU<|zl<|zn<|zq<|yr<|zt ?_
 cases h
 exact zT results80
 refine zj<|zs<|zr ?_
 refine zU<|zl<|zn ?_
 obtain ⟨h5,h⟩|⟨h5,h⟩:=zI h
 refine zi<|zs<|zr ?_
 refine zU<|zl<|zn<|zq<|yr<|zt ?_
 cases h
 exact zT results80
 refine zj<|zs<|zr ?_
 refine zU<|zl<|zn ?_
 obtain ⟨h6,h⟩|⟨h6,h⟩:=zI h
 refine zi<|zs<|zr ?_
 refine zU ?_
 obtain ⟨h7,h⟩|⟨h7,h⟩:=zI h
 replace h:=h.symm
 refine zw 25 true ?_
 refine zg ?_
 refine zg ?_
 refine zg ?_
 refine zg ?_
 refine zU<|zl<|zn<|zq<|yr<|zt ?_
 cases h
 exact zT results80
 refine zw 25 false ?_
 refine zh ?_
 refine zU<|zl<|zn<|zq<|yr<|zt ?_
 cases h
 exact zT results80
 refine zj<|zs<|zr ?_
 refine zU<|zl<|zn ?_
 obtain ⟨h8,h⟩|⟨h8,h⟩:=zI h
 refine zi<|zs<|zr ?_
 refine zU ?_
 obtain ⟨h9,h⟩|⟨h9,h⟩:=zI h
 replace h:=h.symm
 refine zw 36 true ?_
 refine zg ?_
 refine zg ?_
 refine zg ?_
 refine zU<|zl<|zn<|zq<|yr<|zt ?_
 cases h
 exact zT results80
 refine zw 36 false ?_
 refine zh ?_
 refine zU<|zl<|zn<|zq<|yr<|zt ?_
 cases h
 exact zT results80
 refine zj<|zk<|yn<|zn<|zs<|zr ?_
 refine zU<|zl<|zn<|zq ?_
 cases h
 exact zT results80
theorem qqk {D:Prop} (c1:Similar) (r2:Bool) (h:qg9 c1=some r2):Con D Tryz.prog 81 [(qal c1)] (.bool r2):=by
 refine zP call81 func81 rfl ntmps81 fun X w hT=>?_
 simp only [qg9] at h
 refine zs<|zr ?_
 refine zU<|zl<|zn<|zs<|zs<|zr ?_
 refine zU<|zl<|zn<|zb<|zs<|zr ?_
 refine zU<|zl<|zn ?_
 obtain ⟨h3,h⟩|⟨h3,h⟩:=zI h
 refine zi<|zs<|zr ?_
 refine zU<|zl<|zn<|zq<|yr<|zt ?_
 cases h
 exact zT results81
 refine zj<|zs<|zs<|zr ?_
 refine zU<|zl<|zn ?_
 obtain ⟨h4,h⟩|⟨h4,h⟩:=zI h
 refine zi<|zk<|zn ?_
 refine zi<|zs<|zr ?_
 refine zU ?_
 obtain ⟨h5,h⟩|⟨h5,h⟩:=zI h
 replace h:=h.symm
 refine zw 16 true ?_
 refine zg ?_
 refine zg ?_
 refine zg ?_
 refine zU<|zl<|zn<|zq<|yr<|zt ?_
 cases h
 exact zT results81
 refine zw 16 false ?_
 refine zh ?_
 refine zU<|zl<|zn<|zq<|yr<|zt ?_
 cases h
 exact zT results81
 refine zj<|zr ?_
 refine zU<|zl<|zn ?_
 obtain ⟨h6,h⟩|⟨h6,h⟩:=zI h
 refine zi<|zs<|zr ?_
 refine zU ?_
 obtain ⟨h7,h⟩|⟨h7,h⟩:=zI h
 replace h:=h.symm
 refine zw 16 true ?_
 refine zg ?_
 refine zg ?_
 refine zg ?_
 refine zU<|zl<|zn<|zq<|yr<|zt ?_
 cases h
 exact zT results81
 refine zw 16 false ?_
 refine zh ?_
 refine zU<|zl<|zn<|zq<|yr<|zt ?_
 cases h
 exact zT results81
 refine zj<|zs<|zr ?_
 refine zU<|zl<|zn ?_
 obtain ⟨h8,h⟩|⟨h8,h⟩:=zI h
 refine zi<|zs<|zr ?_
 refine zU ?_
 obtain ⟨h9,h⟩|⟨h9,h⟩:=zI h
 replace h:=h.symm
 refine zw 26 true ?_
 refine zg ?_
 refine zg ?_
 refine zg ?_
 refine zU<|zl<|zn<|zq<|yr<|zt ?_
 cases h
 exact zT results81
 refine zw 26 false ?_
 refine zh ?_
 refine zU<|zl<|zn<|zq<|yr<|zt ?_
 cases h
 exact zT results81
 refine zj<|zk<|yn<|zn<|zs<|zr ?_
 refine zU<|zl<|zn<|zq ?_
 cases h
 exact zT results81
theorem qlt {D:Prop} (s1:List (List UInt8)) (f2:(List UInt8)→Option (Bool)) (f2_k:FuncId) (f2_cs:List PV) (f2_h:∀(y3:List UInt8) (r4:Bool),f2 y3=some r4→Con D Tryz.prog f2_k ((.str y3) :: f2_cs) (.bool r4)) (r5:Int) (h:qb1 s1 f2=some r5):Con D Tryz.prog 230 [(.slc (vwb PV.str s1)),.func (.func f2_k) f2_cs] (.int .i64 r5):=by
 refine zP call230 func230 rfl ntmps230 fun X w hT=>?_
 simp only [qb1] at h
 refine zs<|zr ?_
 refine zU<|zl<|zn<|zs<|zs<|zr ?_
 refine zU<|zl<|zn<|zb ?_
 obtain ⟨o6,h7,h⟩:=zB h
 refine zO (fun (s:Int)=>⟨[(0,.p (.slc (vwb PV.str s1))),(1,.p (.func (.func f2_k) f2_cs)),(7,.p (.int .i64 (s1.length:Int))),(8,.p (.int .i64 s))],[]⟩) (fun (o:(Unit) ⊕ (Int))=>match o with | .inl o8=>tE (cX Tryz.f230 X w D hT) (.exit 0) ⟨[],[]⟩ | .inr o9=>tR Tryz.prog Tryz.f230 (.int .i64 o9)) h7 ?_ ?_
 clear h h7
 intro t10 x h
 simp only [qas] at h
 refine zs<|zr ?_
 refine zU<|zl<|zn<|zs ?_
 obtain ⟨h11,h⟩|⟨h11,h⟩:=zI h
 refine zi<|zk<|zn<|zs<|zb<|zs<|zr ?_
 refine zU<|zl<|zn<|zs<|zr ?_
 obtain ⟨x12,h13,h13a,h13b,h⟩:=zX h
 refine zU ?_
 obtain ⟨r14,h15,h⟩:=zB h
 refine zc (f2_h x12 _ h15) ?_
 refine zl<|zn ?_
 obtain ⟨h16,h⟩|⟨h16,h⟩:=zI h
 refine zi<|zs<|zr ?_
 refine zU<|zl<|zn<|zq<|yr<|zt ?_
 cases h
 exact ⟨rfl,zT results230⟩
 refine zj<|zk<|yn<|zn<|zr ?_
 refine zU<|zl ?_
 cases h
 exact ⟨rfl,zE⟩
 refine zj<|zx<|ze ?_
 cases h
 exact ⟨rfl,zE⟩
 rcases o6 with ⟨⟩ | r17
 try simp only at h
 refine zA<|yh<|zn<|zs<|zr ?_
 refine zU<|zl<|zn<|zq ?_
 cases h
 exact zT results230
 try simp only at h
 refine zZ fun s hq=>?_
 refine yr<|zt ?_
 cases h
 exact hq
theorem qkf {D:Prop} (s1:List (List UInt8)) (f2:(List UInt8)→Option (Bool)) (f2_k:FuncId) (f2_cs:List PV) (f2_h:∀(y3:List UInt8) (r4:Bool),f2 y3=some r4→Con D Tryz.prog f2_k ((.str y3) :: f2_cs) (.bool r4)) (r5:Bool) (h:qb8 s1 f2=some r5):Con D Tryz.prog 195 [(.slc (vwb PV.str s1)),.func (.func f2_k) f2_cs] (.bool r5):=by
 refine zP call195 func195 rfl ntmps195 fun X w hT=>?_
 simp only [qb8] at h
 refine zs<|zr ?_
 refine zU<|zl<|zn<|zs<|zr ?_
 refine zU ?_
 obtain ⟨r6,h7,h⟩:=zB h
 refine zc (qlt s1 f2 f2_k f2_cs f2_h _ h7) ?_
 refine zU<|zl<|zn<|zq ?_
 cases h
 exact zT results195
theorem qpn {D:Prop} (s1:List UInt8) (r2:Bool) (h:qco s1=some r2):Con D Tryz.prog 196 [(.str s1)] (.bool r2):=by
 refine zP call196 func196 rfl ntmps196 fun X w hT=>?_
 simp only [qco] at h
 refine zs<|zr ?_
 refine zU<|zl<|zn<|zs<|zr ?_
 refine zU<|zl<|zn<|zq ?_
 cases h
 exact zT results196
theorem qiy {D:Prop} (l1:List (List UInt8)) (r2:Bool) (h:qcv l1=some r2):Con D Tryz.prog 135 [(.slc (vwb PV.str l1))] (.bool r2):=by
 refine zP call135 func135 rfl ntmps135 fun X w hT=>?_
 simp only [qcv] at h
 refine zs<|zr ?_
 refine zU<|zl<|zn<|zs<|zr ?_
 refine zU ?_
 obtain ⟨r3,h4,h⟩:=zB h
 refine zc (qkf l1 (fun (y5:List UInt8)=>qco y5) 196 [] (fun y5 r h=>qpn y5 r h) _ h4) ?_
 refine zU<|zl<|zn<|zq ?_
 cases h
 exact zT results135
theorem qnx {D:Prop} (a1:List UInt8) (b2:List UInt8) (r3:List (List Int)) (h:qeh a1 b2=some r3):Con D Tryz.prog 194 [(.str a1),(.str b2)] (.slc (vwb (qat (PV.int .i64)) r3)):=by
 refine zP call194 func194 rfl ntmps194 fun X w hT=>?_
 simp only [qeh] at h
 refine zs<|zr ?_
 refine zU<|zl<|zn<|zs<|zr ?_
 obtain ⟨h4,h⟩:=qab h
 obtain ⟨h5,h⟩:=qab h
 refine zW 4 ?_
 refine zM ⟨[(0,.p (.str a1)),(1,.p (.str b2)),(12,.own 12 1 0 ((vuh (vxc.wrap ((a1.length:Int)+1)).toNat ([]:List Int))).length)],((12,.arr 23 1 1 (qh3 12 3 1 1 (PV.int .i64) (vuh (vxc.wrap ((a1.length:Int)+1)).toNat ([]:List Int)))) :: qi4 12 3 1 1 (PV.int .i64) (vuh (vxc.wrap ((a1.length:Int)+1)).toNat ([]:List Int)) [])⟩ ?_
 refine zU<|zl<|zn<|zs<|zs<|zr ?_
 refine zU<|zl<|zn<|zb ?_
 obtain ⟨d6,h7,h⟩:=zB h
 refine zO (fun (s:List (List Int)×Int)=>⟨[(0,.p (.str a1)),(1,.p (.str b2)),(5,.own 12 1 0 s.1.length),(14,.p (.int .i64 ((((vuh (vxc.wrap ((a1.length:Int)+1)).toNat ([]:List Int))).length:Nat):Int))),(15,.p (.int .i64 s.2))],((12,.arr 23 1 1 (qh3 12 3 1 1 (PV.int .i64) s.1)) :: qi4 12 3 1 1 (PV.int .i64) s.1 [])⟩) (fun (o8:List (List Int))=>tE (cX Tryz.f194 X w D hT) (.exit 0) ⟨[(0,.p (.str a1)),(1,.p (.str b2)),(5,.own 12 1 0 o8.length)],((12,.arr 23 1 1 (qh3 12 3 1 1 (PV.int .i64) o8)) :: qi4 12 3 1 1 (PV.int .i64) o8 [])⟩) h7 ?_ ?_
 clear h h4 h5 h7
 intro s x h
 obtain ⟨d9,t10⟩:=s
 simp only [qb2] at h
 dsimp only
 refine zs<|zr ?_
 refine zU<|zl<|zn<|zs ?_
 obtain ⟨h11,h⟩|⟨h11,h⟩:=zI h
 refine zi<|zk<|zn<|zs<|zb<|zs<|zr ?_
 refine zU<|zl<|zn<|zr ?_
 obtain ⟨h12,h⟩:=qab h
 obtain ⟨h13,h⟩:=qab h
 obtain ⟨x14,h15,h15a,h15b,h⟩:=zX h
 refine zW 8 ?_
 refine zSw 23 (fx 12 t10.toNat) ?_
 refine zM ⟨[(0,.p (.str a1)),(1,.p (.str b2)),(5,.own 12 1 0 ((d9.set t10.toNat (vuh (vxc.wrap ((b2.length:Int)+1)).toNat 0))).length),(14,.p (.int .i64 ((((vuh (vxc.wrap ((a1.length:Int)+1)).toNat ([]:List Int))).length:Nat):Int))),(15,.p (.int .i64 t10))],((12,.arr 23 1 1 (qh3 12 3 1 1 (PV.int .i64) (d9.set t10.toNat (vuh (vxc.wrap ((b2.length:Int)+1)).toNat 0)))) :: qi4 12 3 1 1 (PV.int .i64) (d9.set t10.toNat (vuh (vxc.wrap ((b2.length:Int)+1)).toNat 0)) [])⟩ ?_
 refine zl<|yn<|zn<|zr ?_
 refine zU<|zl ?_
 cases h
 exact ⟨rfl,zE⟩
 refine zj<|zx<|ze ?_
 cases h
 exact ⟨rfl,zE⟩
 try simp only at h
 refine zA<|yh<|zn<|zs<|zs<|zr ?_
 refine zU<|zl<|zn<|zb ?_
 obtain ⟨d16,h17,h⟩:=zB h
 refine zO (fun (s:List (List Int)×Int)=>⟨[(0,.p (.str a1)),(1,.p (.str b2)),(5,.own 12 1 0 s.1.length),(7,.p (.int .i64 s.2))],((12,.arr 23 1 1 (qh3 12 3 1 1 (PV.int .i64) s.1)) :: qi4 12 3 1 1 (PV.int .i64) s.1 [])⟩) (fun (o18:List (List Int))=>tE (cX Tryz.f194 X w D hT) (.exit 2) ⟨[(5,.own 12 1 0 o18.length)],((12,.arr 23 1 1 (qh3 12 3 1 1 (PV.int .i64) o18)) :: qi4 12 3 1 1 (PV.int .i64) o18 [])⟩) h17 ?_ ?_
 clear h h4 h5 h7 h17
 intro s x h
 obtain ⟨d19,i20⟩:=s
 simp only [qcw] at h
 dsimp only
 refine zs<|zs<|zr ?_
 refine zU<|zl<|zn ?_
 obtain ⟨h21,h⟩|⟨h21,h⟩:=zI h
 refine zi<|zk<|zn<|zs<|zb<|zs<|zr ?_
 refine zU<|zl<|zn<|zb ?_
 obtain ⟨d22,h23,h⟩:=zB h
 refine zO (fun (s:List (List Int)×Int)=>⟨[(0,.p (.str a1)),(1,.p (.str b2)),(5,.own 12 1 0 s.1.length),(7,.p (.int .i64 i20)),(8,.p (.int .i64 s.2))],((12,.arr 23 1 1 (qh3 12 3 1 1 (PV.int .i64) s.1)) :: qi4 12 3 1 1 (PV.int .i64) s.1 [])⟩) (fun (o24:List (List Int))=>tE (cX Tryz.f194 X w D hT) (.exit 4) ⟨[(0,.p (.str a1)),(1,.p (.str b2)),(5,.own 12 1 0 o24.length),(7,.p (.int .i64 i20))],((12,.arr 23 1 1 (qh3 12 3 1 1 (PV.int .i64) o24)) :: qi4 12 3 1 1 (PV.int .i64) o24 [])⟩) h23 ?_ ?_
 clear h h21 h23
 intro s x h
 obtain ⟨d25,j26⟩:=s
 simp only [qa8] at h
 dsimp only
 refine zs<|zs<|zr ?_
 refine zU<|zl<|zn ?_
 obtain ⟨h27,h⟩|⟨h27,h⟩:=zI h
 refine zi<|zk<|zn<|zs<|zb<|zb<|zs<|zr ?_
 refine zU<|zl<|zn ?_
 obtain ⟨h28,h⟩|⟨h28,h⟩:=zI h
 refine zi<|zr ?_
 obtain ⟨x29,h30,h30a,h30b,h⟩:=zX h
 obtain ⟨x31,h32,h32a,h32b,h⟩:=zX h
 refine zW 11 ?_
 refine zM ⟨[(0,.p (.str a1)),(1,.p (.str b2)),(5,.own 12 1 0 ((d25.set i20.toNat (x29.set j26.toNat (vxc.wrap ((b2.length:Int) - j26))))).length),(7,.p (.int .i64 i20)),(8,.p (.int .i64 j26))],((12,.arr 23 1 1 (qh3 12 3 1 1 (PV.int .i64) (d25.set i20.toNat (x29.set j26.toNat (vxc.wrap ((b2.length:Int) - j26)))))) :: qi4 12 3 1 1 (PV.int .i64) (d25.set i20.toNat (x29.set j26.toNat (vxc.wrap ((b2.length:Int) - j26)))) [])⟩ ?_
 refine zl<|yn<|yn<|zn<|zr ?_
 refine zU<|zl ?_
 cases h
 exact ⟨rfl,zE⟩
 refine zj<|zs<|zr ?_
 refine zU<|zl<|zn ?_
 obtain ⟨h33,h⟩|⟨h33,h⟩:=zI h
 refine zi<|zr ?_
 obtain ⟨x34,h35,h35a,h35b,h⟩:=zX h
 obtain ⟨x36,h37,h37a,h37b,h⟩:=zX h
 refine zW 11 ?_
 refine zM ⟨[(0,.p (.str a1)),(1,.p (.str b2)),(5,.own 12 1 0 ((d25.set i20.toNat (x34.set j26.toNat (vxc.wrap ((a1.length:Int) - i20))))).length),(7,.p (.int .i64 i20)),(8,.p (.int .i64 j26))],((12,.arr 23 1 1 (qh3 12 3 1 1 (PV.int .i64) (d25.set i20.toNat (x34.set j26.toNat (vxc.wrap ((a1.length:Int) - i20)))))) :: qi4 12 3 1 1 (PV.int .i64) (d25.set i20.toNat (x34.set j26.toNat (vxc.wrap ((a1.length:Int) - i20)))) [])⟩ ?_
 refine zl<|yn<|yn<|zn<|zr ?_
 refine zU<|zl ?_
 cases h
 exact ⟨rfl,zE⟩
 refine zj<|zs<|zd ?_
 obtain ⟨c38,h39,h39a,h39b,h⟩:=zX h
 obtain ⟨c40,h41,h41a,h41b,h⟩:=zX h
 refine yU ?_
 refine ydS ?_
 refine zn ?_
 obtain ⟨h42,h⟩|⟨h42,h⟩:=zI h
 refine zi ?_
 refine zdl 14 ?_
 obtain ⟨x43,h44,h44a,h44b,h⟩:=zX h
 obtain ⟨x45,h46,h46a,h46b,h⟩:=zX h
 obtain ⟨x47,h48,h48a,h48b,h⟩:=zX h
 refine yU ?_
 refine ydlS ?_
 obtain ⟨x49,h50,h50a,h50b,h⟩:=zX h
 refine zW 2 ?_
 refine zM ⟨[(0,.p (.str a1)),(1,.p (.str b2)),(5,.own 12 1 0 ((d25.set i20.toNat (x43.set j26.toNat x47))).length),(7,.p (.int .i64 i20)),(8,.p (.int .i64 j26))],((12,.arr 23 1 1 (qh3 12 3 1 1 (PV.int .i64) (d25.set i20.toNat (x43.set j26.toNat x47)))) :: qi4 12 3 1 1 (PV.int .i64) (d25.set i20.toNat (x43.set j26.toNat x47)) [])⟩ ?_
 refine zl<|yn<|yn<|zn<|zr ?_
 refine zU<|zl ?_
 cases h
 exact ⟨rfl,zE⟩
 refine zj ?_
 refine zdl 32 ?_
 obtain ⟨x51,h52,h52a,h52b,h⟩:=zX h
 obtain ⟨x53,h54,h54a,h54b,h⟩:=zX h
 obtain ⟨x55,h56,h56a,h56b,h⟩:=zX h
 obtain ⟨x57,h58,h58a,h58b,h⟩:=zX h
 obtain ⟨x59,h60,h60a,h60b,h⟩:=zX h
 refine yU ?_
 refine ydlS ?_
 obtain ⟨x61,h62,h62a,h62b,h⟩:=zX h
 refine zW 2 ?_
 refine zM ⟨[(0,.p (.str a1)),(1,.p (.str b2)),(5,.own 12 1 0 ((d25.set i20.toNat (x51.set j26.toNat (vxc.wrap (1+(if x59 < (if x57 < x55 then x57 else x55) then x59 else (if x57 < x55 then x57 else x55))))))).length),(7,.p (.int .i64 i20)),(8,.p (.int .i64 j26))],((12,.arr 23 1 1 (qh3 12 3 1 1 (PV.int .i64) (d25.set i20.toNat (x51.set j26.toNat (vxc.wrap (1+(if x59 < (if x57 < x55 then x57 else x55) then x59 else (if x57 < x55 then x57 else x55)))))))) :: qi4 12 3 1 1 (PV.int .i64) (d25.set i20.toNat (x51.set j26.toNat (vxc.wrap (1+(if x59 < (if x57 < x55 then x57 else x55) then x59 else (if x57 < x55 then x57 else x55)))))) [])⟩ ?_
 refine zl<|yn<|yn<|zn<|zr ?_
 refine zU<|zl ?_
 cases h
 exact ⟨rfl,zE⟩
 refine zj<|zx<|ze ?_
 cases h
 exact ⟨rfl,zE⟩
 try simp only at h
 refine zA<|yh<|yn<|zn<|zr ?_
 refine zU<|zl ?_
 cases h
 exact ⟨rfl,zE⟩
 refine zj<|zx<|ze ?_
 cases h
 exact ⟨rfl,zE⟩
 try simp only at h
 refine zA<|yh<|zn<|zs<|zr ?_
 refine zU<|zl<|zn<|zq ?_
 cases h
 exact zT results194
theorem qoj {D:Prop} (a1:List UInt8) (b2:List UInt8) (r3:Int×Int) (h:qe0 a1 b2=some r3):Con D Tryz.prog 134 [(.str a1),(.str b2)] (.tup [(.int .i64 r3.1),(.int .i64 r3.2)]):=by
 refine zP call134 func134 rfl ntmps134 fun X w hT=>?_
 simp only [qe0] at h
 refine zs<|zr ?_
 refine zU<|zl<|zn<|zs<|zs<|zr ?_
 refine zU ?_
 obtain ⟨r4,h5,h⟩:=zB h
 refine zc (qiy [a1,b2] _ h5) ?_
 refine zl<|zn ?_
 obtain ⟨h6,h⟩|⟨h6,h⟩:=zI h
 refine zi<|zs<|zr ?_
 refine zU<|zl<|zn<|zq<|zt ?_
 cases h
 exact zT results134
 refine zj<|zk<|zn<|zs<|zr ?_
 refine zU ?_
 obtain ⟨r7,h8,h⟩:=zB h
 refine zc (qnx a1 b2 _ h8) ?_
 obtain ⟨x9,h10,h10l,h10L,h⟩:=zY 0 h
 obtain ⟨x11,h12,h12l,h12L,h⟩:=zY 0 h
 refine zU<|zl<|zn<|zq ?_
 cases h
 exact zT results134
theorem qpo {D:Prop} (a1:List UInt8) (b2:List UInt8) (m3:Int) (r4:Bool×Int) (h:qh6 a1 b2 m3=some r4):Con D Tryz.prog 82 [(.str a1),(.str b2),(.int .i64 m3)] (.tup [(.bool r4.1),(.int .i64 r4.2)]):=by
 refine zP call82 func82 rfl ntmps82 fun X w hT=>?_
 simp only [qh6] at h
 refine zs<|zr ?_
 refine zU<|zl<|zn<|zs<|zr ?_
 refine zU ?_
 obtain ⟨r5,h6,h⟩:=zB h
 refine zc (qoj a1 b2 _ h6) ?_
 refine zU<|zl<|zn<|zs<|zr ?_
 refine zU ?_
 obtain ⟨h7,h⟩|⟨h7,h⟩:=zI h
 replace h:=h.symm
 refine zw 18 true ?_
 refine zg ?_
 refine zg ?_
 refine zg ?_
 refine zU<|zl<|zn<|zq ?_
 cases h
 exact zT results82
 refine zw 18 false ?_
 refine zh ?_
 refine zU<|zl<|zn<|zq ?_
 cases h
 exact zT results82
theorem qtg {D:Prop} (n1:Int) (r2:Int) (h:qno n1=some r2):Con D Tryz.prog 106 [(.int .i64 n1)] (.int .u64 r2):=by
 refine zP call106 func106 rfl ntmps106 fun X w hT=>?_
 simp only [qno] at h
 refine zs<|zr ?_
 refine zU<|zl<|zn<|zs<|zs<|zr ?_
 refine zU<|zl<|zn ?_
 obtain ⟨h3,h⟩|⟨h3,h⟩:=zI h
 refine zi<|zs<|zr ?_
 refine zU<|zl<|zn<|zq<|zt ?_
 cases h
 exact zT results106
 refine zj<|zk<|zn<|zs<|zr ?_
 refine zU<|zl<|zn<|zq ?_
 cases h
 exact zT results106
theorem q2h {D:Prop} (a1:Int) (b2:Int) (r3:Int) (h:qo9 a1 b2=some r3):Con D Tryz.prog 107 [(.int .u64 a1),(.int .u64 b2)] (.int .u64 r3):=by
 refine zP call107 func107 rfl ntmps107 fun X w hT=>?_
 simp only [qo9] at h
 refine zs<|zr ?_
 refine zU<|zl<|zn<|zs<|zb ?_
 obtain ⟨a4,h5,h⟩:=zB h
 refine zO (fun (s:Int×Int)=>⟨[(0,.p (.int .u64 s.1)),(1,.p (.int .u64 s.2))],[]⟩) (fun (o6:Int)=>tE (cX Tryz.f107 X w D hT) (.exit 0) ⟨[(0,.p (.int .u64 o6))],[]⟩) h5 ?_ ?_
 clear h h5
 intro s x h
 obtain ⟨a7,b8⟩:=s
 simp only [qkc] at h
 dsimp only
 refine zs<|zs<|zr ?_
 refine zU<|zl<|zn ?_
 obtain ⟨h9,h⟩|⟨h9,h⟩:=zI h
 refine zi<|zk<|zn<|zb<|zd ?_
 obtain ⟨h10,h⟩:=qmb h
 refine yU ?_
 refine yd<|yn ?_
 cases h
 exact ⟨rfl,zE⟩
 refine zj<|zx<|ze ?_
 cases h
 exact ⟨rfl,zE⟩
 try simp only at h
 refine zA<|yh<|zn<|zs<|zr ?_
 refine zU<|zl<|zn<|zq ?_
 cases h
 exact zT results107
theorem q5g {D:Prop} (n1:Bool) (n2:Int) (d3:Int) (r4:Ratio×Int) (h:qvo n1 n2 d3=some r4):Con D Tryz.prog 108 [(.bool n1),(.int .u64 n2),(.int .u64 d3)] (.tup [(qg3 r4.1),(.int .i64 r4.2)]):=by
 refine zP call108 func108 rfl ntmps108 fun X w hT=>?_
 simp only [qvo] at h
 refine zs<|zr ?_
 refine zU<|zl<|zn<|zs<|zs<|zr ?_
 refine zU ?_
 obtain ⟨h5,h⟩|⟨h5,h⟩:=zI h
 refine zw 11 true ?_
 refine zh ?_
 refine zU<|zl<|zn ?_
 refine zi<|zs<|zr ?_
 refine zU<|zl<|zn<|zq<|zt ?_
 cases h
 exact zT results108
 refine zw 11 false ?_
 refine zg ?_
 refine zg ?_
 refine zU<|zl<|zn ?_
 obtain ⟨h6,h⟩|⟨h6,h⟩:=zI h
 refine zi<|zs<|zr ?_
 refine zU<|zl<|zn<|zq<|zt ?_
 cases h
 exact zT results108
 refine zj<|zk<|zn<|zs<|zr ?_
 refine zU<|zl<|zn<|zs<|zs<|zr ?_
 refine zU<|zl<|zn ?_
 obtain ⟨h7,h⟩|⟨h7,h⟩:=zI h
 refine zi<|zr ?_
 refine zU<|zl<|zn<|zs<|zr ?_
 refine zU<|zl<|zn<|zq ?_
 cases h
 exact zT results108
 refine zj<|zk<|zn<|zs<|zr ?_
 refine zU<|zl<|zn<|zq ?_
 cases h
 exact zT results108
theorem qq3 {D:Prop} (n1:Int) (d2:Int) (r3:Ratio×Int) (h:qi5 n1 d2=some r3):Con D Tryz.prog 69 [(.int .i64 n1),(.int .i64 d2)] (.tup [(qg3 r3.1),(.int .i64 r3.2)]):=by
 refine zP call69 func69 rfl ntmps69 fun X w hT=>?_
 simp only [qi5] at h
 refine zs<|zr ?_
 refine zU<|zl<|zn<|zs<|zs<|zr ?_
 refine zU<|zl<|zn ?_
 obtain ⟨h4,h⟩|⟨h4,h⟩:=zI h
 refine zi<|zs<|zr ?_
 refine zU<|zl<|zn<|zq<|zt ?_
 cases h
 exact zT results69
 refine zj<|zk<|zn<|zs<|zr ?_
 refine zU ?_
 obtain ⟨r5,h6,h⟩:=zB h
 refine zc (qtg n1 _ h6) ?_
 refine zU ?_
 obtain ⟨r7,h8,h⟩:=zB h
 refine zc (qtg d2 _ h8) ?_
 refine zU<|zl<|zn<|zs<|zr ?_
 refine zU ?_
 obtain ⟨r9,h10,h⟩:=zB h
 refine zc (q2h r5 r7 _ h10) ?_
 refine zU<|zl<|zn<|zs<|zd ?_
 obtain ⟨h11,h⟩:=qmb h
 refine yU ?_
 obtain ⟨r12,h13,h⟩:=zB h
 refine yc (q5g (!((decide (n1 < 0)) == (decide (d2 < 0)))) (IntKind.u64.wrap (Int.tdiv r5 r9)) (IntKind.u64.wrap (Int.tdiv r7 r9)) _ h13) ?_
 refine yU ?_
 refine yd<|zn<|zq ?_
 cases h
 exact zT results69
end Go.Proofs.YtmlegeeinnkhkaaGreat
namespace Go.Proofs
open Go Go.Ab Go.Shelf Tryz
def YtmlegeeinnkhkaaGreat.rep197_ren:Go.Shelf.Ren:=⟨fun | 105=>197 | 212=>211 | 99=>231 | 165=>232 | 166=>233 | 170=>234 | 169=>235 | 263=>241 | 264=>242 | 206=>250 | 240=>251 | 241=>252 | 276=>265 | 277=>266 | n=>n,fun | 9=>9 | 3=>3 | 4=>4 | 20=>20 | 0=>0 | 46=>150 | 109=>262 | 5=>5 | 72=>276 | 76=>280 | 51=>207 | 146=>290 | 53=>166 | 148=>292 | 70=>274 | 37=>35 | 75=>279 | 127=>299 | 164=>307 | 80=>283 | n=>n,fun | n=>n⟩
theorem YtmlegeeinnkhkaaGreat.rep197:Go.Proofs.Lays.n105 Tryz.prog YtmlegeeinnkhkaaGreat.rep197_ren:={
  mixed:=by kernel_rfl
  f99:=func231.trans (congrArg some (by kernel_rfl))
  f105:=func197.trans (congrArg some (by kernel_rfl))
  f165:=func232.trans (congrArg some (by kernel_rfl))
  f166:=func233.trans (congrArg some (by kernel_rfl))
  f169:=func235.trans (congrArg some (by kernel_rfl))
  f170:=func234.trans (congrArg some (by kernel_rfl))
  f206:=func250.trans (congrArg some (by kernel_rfl))
  f212:=func211.trans (congrArg some (by kernel_rfl))
  f240:=func251.trans (congrArg some (by kernel_rfl))
  f241:=func252.trans (congrArg some (by kernel_rfl))
  f263:=func241.trans (congrArg some (by kernel_rfl))
  f264:=func242.trans (congrArg some (by kernel_rfl))
  f276:=func265.trans (congrArg some (by kernel_rfl))
  f277:=func266.trans (congrArg some (by kernel_rfl))
  t0:=underlying0
  a0:=isAgg0
  z0:=sizeOf0
  v0:=zeroValue0
  t3:=underlying3
  a3:=isAgg3
  z3:=sizeOf3
  v3:=zeroValue3
  t4:=underlying4
  a4:=isAgg4
  z4:=sizeOf4
  v4:=zeroValue4
  t5:=underlying5
  a5:=isAgg5
  z5:=sizeOf5
  v5:=zeroValue5
  t9:=underlying9
  a9:=isAgg9
  z9:=sizeOf9
  v9:=zeroValue9
  t20:=underlying20
  a20:=isAgg20
  z20:=sizeOf20
  v20:=zeroValue20
  t37:=underlying35
  a37:=isAgg35
  z37:=sizeOf35
  v37:=zeroValue35
  t46:=underlying150
  a46:=isAgg150
  z46:=sizeOf150
  v46:=zeroValue150
  t51:=underlying207
  a51:=isAgg207
  z51:=sizeOf207
  v51:=zeroValue207
  t53:=underlying166
  a53:=isAgg166
  z53:=sizeOf166
  v53:=zeroValue166
  t70:=underlying274
  a70:=isAgg274
  z70:=sizeOf274
  v70:=zeroValue274
  t72:=underlying276
  a72:=isAgg276
  z72:=sizeOf276
  v72:=zeroValue276
  t75:=underlying279
  a75:=isAgg279
  z75:=sizeOf279
  v75:=zeroValue279
  t76:=underlying280
  a76:=isAgg280
  z76:=sizeOf280
  v76:=zeroValue280
  t109:=underlying262
  a109:=isAgg262
  z109:=sizeOf262
  v109:=zeroValue262
  t127:=underlying299
  a127:=isAgg299
  z127:=sizeOf299
  v127:=zeroValue299
  t146:=underlying290
  a146:=isAgg290
  z146:=sizeOf290
  v146:=zeroValue290
  t148:=underlying292
  a148:=isAgg292
  z148:=sizeOf292
  v148:=zeroValue292
  t164:=underlying307
  a164:=isAgg307
  z164:=sizeOf307
  v164:=zeroValue307 }
theorem YtmlegeeinnkhkaaGreat.repX:Builder.Extra Tryz.prog YtmlegeeinnkhkaaGreat.rep197_ren where
  sizeBuilder:=by kernel_rfl
  liesBuilder:=by kernel_rfl
  t5:=YtmlegeeinnkhkaaGreat.rep197.t5
  a5:=YtmlegeeinnkhkaaGreat.rep197.a5
  z5:=YtmlegeeinnkhkaaGreat.rep197.z5
  v5:=YtmlegeeinnkhkaaGreat.rep197.v5
  infoByte:=by kernel_rfl
  cellsByte:=by kernel_rfl
  sizeByte:=by kernel_rfl
  neB5:=by decide
theorem YtmlegeeinnkhkaaGreat.repeat197 (s:ByteArray) (c:Nat) (w:World) (hc:c≤9223372036854775807) (hl:s.size * c≤140737488355328):Calls Tryz.prog 197 #[.string s,.int .i64 c] w fun e w'=>e=.returned (.string ⟨(Lib.repeatL s.data.toList c).toArray⟩)∧RowKit.Below w.heap.size w w' :=
  Any.strings_Repeat YtmlegeeinnkhkaaGreat.rep197 YtmlegeeinnkhkaaGreat.repX s c w hc hl
end Go.Proofs
namespace Go.Proofs.YtmlegeeinnkhkaaGreat
open Go Go.Ab Tryz
theorem qth (x:List UInt8) (n:Int) (r:List UInt8) (h:strings_Repeat x n=some r):Con False Tryz.prog 197 [(.str x),(.int .i64 n)] (.str r):=vad call197 repeat197 x n r h
theorem qkt (s1:List UInt8) (q2:Int) (r3:List (List UInt8)×Int) (h:qc7 s1 q2=some r3):Con False Tryz.prog 136 [(.str s1),(.int .i64 q2)] (.tup [(.slc (vwb PV.str r3.1)),(.int .i64 r3.2)]):=by
 refine zP call136 func136 rfl ntmps136 fun X w hT=>?_
 simp only [qc7] at h
 refine zs<|zr ?_
 refine zU<|zl<|zn<|zs<|zs<|zr ?_
 refine zU ?_
 obtain ⟨r4,h5,h⟩:=zB h
 refine zc (qiy [s1] _ h5) ?_
 refine zl<|zn ?_
 obtain ⟨h6,h⟩|⟨h6,h⟩:=zI h
 refine zi<|zs<|zr ?_
 refine zU<|zl<|zn<|zq<|zt ?_
 cases h
 exact zT results136
 refine zj<|zk<|zn<|zs<|zs<|zr ?_
 refine zU ?_
 obtain ⟨h7,h⟩|⟨h7,h⟩:=zI h
 refine zw 15 true ?_
 refine zh ?_
 refine zU<|zl<|zn ?_
 refine zi<|zs<|zr ?_
 refine zU<|zl<|zn<|zq<|zt ?_
 cases h
 exact zT results136
 refine zw 15 false ?_
 refine zg ?_
 refine zg ?_
 refine zU<|zl<|zn ?_
 obtain ⟨h8,h⟩|⟨h8,h⟩:=zI h
 refine zi<|zs<|zr ?_
 refine zU<|zl<|zn<|zq<|zt ?_
 cases h
 exact zT results136
 refine zj<|zk<|zn<|zs<|zr ?_
 refine zU ?_
 obtain ⟨r9,h10,h⟩:=zB h
 refine zc (qth [1] (vxc.wrap (q2 - 1)) _ h10) ?_
 refine zU<|zl<|zn<|zs<|zr ?_
 obtain ⟨h11,h⟩:=qab h
 obtain ⟨w12,h13,h⟩:=zB h
 replace h13:=vwz h13
 obtain ⟨h14,h⟩:=qab h
 obtain ⟨w15,h16,h⟩:=zB h
 replace h16:=vwz h16
 refine zU<|zl<|zn<|zs<|zr ?_
 refine zU<|zl<|zn<|zs<|zs<|zr ?_
 refine zU<|zl<|zn<|zb ?_
 obtain ⟨o17,h18,h⟩:=zB h
 refine zO (fun (s:List (List UInt8)×Int)=>⟨[(1,.p (.int .i64 q2)),(7,.p (.str w15)),(8,.own 43 1 0 s.1.length),(31,.p (.int .i64 (vxc.wrap ((vxc.wrap ((s1.length:Int)+q2)) - 1)))),(32,.p (.int .i64 s.2))],[(43,.arr 9 1 1 (vwb AV.p (vwb PV.str s.1)))]⟩) (fun (o19:List (List UInt8))=>tE (cX Tryz.f136 X w False hT) (.exit 0) ⟨[(8,.own 43 1 0 o19.length)],[(43,.arr 9 1 1 (vwb AV.p (vwb PV.str o19)))]⟩) h18 ?_ ?_
 clear h h5 h6 h7 h8 h10 h11 h13 h14 h16 h18
 intro s x h
 obtain ⟨o20,t21⟩:=s
 simp only [qe1] at h
 dsimp only
 refine zs<|zr ?_
 refine zU<|zl<|zn<|zs ?_
 obtain ⟨h22,h⟩|⟨h22,h⟩:=zI h
 refine zi<|zk<|zn<|zs<|zb<|zs<|zr ?_
 refine zU<|zl<|zn<|zr ?_
 obtain ⟨h23,h⟩:=qab h
 obtain ⟨h24,h⟩:=qab h
 obtain ⟨h25,h⟩:=qab h
 obtain ⟨h26,h⟩:=qab h
 refine zU<|zl<|yn<|zn<|zr ?_
 refine zU<|zl ?_
 cases h
 exact ⟨rfl,zE⟩
 refine zj<|zx<|ze ?_
 cases h
 exact ⟨rfl,zE⟩
 try simp only at h
 refine zA<|yh<|zn<|zs<|zr ?_
 refine zU ?_
 refine zM ⟨[(8,.own 43 1 0 o17.length),(45,.own 43 1 0 o17.length)],[(43,.arr 9 1 1 (vwb AV.p (vwb PV.str o17)))]⟩ ?_
 obtain ⟨l27,h28,h⟩:=zB h
 refine zSS srt198 h28 ?_
 have h29:=vc8 h28
 refine zM ⟨[(8,.own 43 1 0 l27.length),(46,.p (.tup []))],[(43,.arr 9 1 1 (vwb AV.p (vwb PV.str l27)))]⟩ ?_
 clear h29
 refine zl<|zn<|zs<|zr ?_
 refine zU<|zl<|zn<|zq ?_
 cases h
 exact zT results136
theorem vsm (a b:List UInt8) (w:World):(callFunc 262 #[.string ⟨a.toArray⟩,.string ⟨b.toArray⟩]).run Tryz.prog w=.ok (.value (.int .i64 (Lib.compareBytes a b))) w:=by
  rw [run_callFunc_extern func262 (by kernel_rfl) (by kernel_rfl) (by kernel_rfl) (e:=Extern.BytealgCompare.compare) (by kernel_rfl),Lib.run_compareString];rfl
theorem vkd (x y c:Nat) (hc:c≤1) (w:World):(callFunc 248 #[.int .u64 x,.int .u64 y,.int .u64 c]).run Tryz.prog w=.ok (.value (.tuple #[.int .u64 (((x+y+c) % 18446744073709551616:Nat):Int),.int .u64 (((x+y+c) / 18446744073709551616:Nat):Int)])) w:=by
  rw [run_callFunc_extern func248 (by kernel_rfl) (by kernel_rfl) (by kernel_rfl) (e:=add64Entry) (by kernel_rfl),run_add64 x y c (by omega) (by omega) (by omega) (by omega)];simp only [Result.andThen];congr 5 <;> omega
theorem vke (x y b:Nat) (hb:b≤1) (w:World):(callFunc 249 #[.int .u64 x,.int .u64 y,.int .u64 b]).run Tryz.prog w=.ok (.value (.tuple #[.int .u64 (((x+18446744073709551616 - y - b) % 18446744073709551616:Nat):Int),.int .u64 ((if x < y+b then 1 else 0:Nat):Int)])) w:=by
  rw [run_callFunc_extern func249 (by kernel_rfl) (by kernel_rfl) (by kernel_rfl) (e:=sub64Entry) (by kernel_rfl),run_sub64 x y b hb];rfl
theorem qm8 {D:Prop} (a1:List UInt8) (b2:List UInt8) (r3:Int) (h:qfx a1 b2=some r3):Con D Tryz.prog 237 [(.str a1),(.str b2)] (.int .i64 r3):=by
 refine zP call237 func237 rfl ntmps237 fun X w hT=>?_
 simp only [qfx] at h
 refine zs<|zr ?_
 refine zU<|zl<|zn<|zs<|zr ?_
 refine zU ?_
 refine vlr (vsm a1 b2) (by simp only [go_sem,seval];all_goals ((repeat' refine vzq ?_ ?_) <;> first | rfl | (simp;done) | (simp;rfl) | (simp [*];done) | (simp [*];rfl))) (by simp only [go_sem,seval];all_goals ((repeat' refine vzq ?_ ?_) <;> first | rfl | (simp;done) | (simp;rfl) | (simp [*];done) | (simp [*];rfl))) rfl ?_
 refine zU<|zl<|zn<|zq ?_
 cases h
 exact zT results237
theorem qrt {D:Prop} (a1:List UInt8) (b2:List UInt8) (r3:Int) (h:qhn a1 b2=some r3):Con D Tryz.prog 199 [(.str a1),(.str b2)] (.int .i64 r3):=by
 refine zP call199 func199 rfl ntmps199 fun X w hT=>?_
 simp only [qhn] at h
 refine zs<|zr ?_
 refine zU<|zl<|zn<|zs<|zr ?_
 refine zU ?_
 obtain ⟨r4,h5,h⟩:=zB h
 refine zc (qm8 a1 b2 _ h5) ?_
 refine zU<|zl<|zn<|zq ?_
 cases h
 exact zT results199
theorem qpp {D:Prop} (a1:List (List UInt8)) (b2:List (List UInt8)) (r3:Int) (h:qgg a1 b2=some r3):Con D Tryz.prog 137 [(.slc (vwb PV.str a1)),(.slc (vwb PV.str b2))] (.int .i64 r3):=by
 refine zP call137 func137 rfl ntmps137 fun X w hT=>?_
 simp only [qgg] at h
 refine zs<|zr ?_
 refine zU<|zl<|zn<|zs<|zr ?_
 refine zU<|zl<|zn<|zs<|zb ?_
 obtain ⟨n4,h5,h⟩:=zB h
 refine zO (fun (s:List (List UInt8)×List (List UInt8)×Int)=>⟨[(0,.p (.slc (vwb PV.str s.1))),(1,.p (.slc (vwb PV.str s.2.1))),(5,.p (.int .i64 s.2.2))],[]⟩) (fun (o6:Int)=>tE (cX Tryz.f137 X w D hT) (.exit 0) ⟨[(5,.p (.int .i64 o6))],[]⟩) h5 ?_ ?_
 clear h h5
 intro s x h
 obtain ⟨a7,b8,n9⟩:=s
 simp only [qca] at h
 dsimp only
 refine zs<|zs<|zr ?_
 refine zU ?_
 obtain ⟨h10,h⟩|⟨h10,h⟩:=zI h
 refine zw 10 true ?_
 refine zg ?_
 refine zg ?_
 refine zg ?_
 refine zU<|zl<|zn ?_
 obtain ⟨h11,h⟩|⟨h11,h⟩:=zI h
 refine zi<|zk<|zn<|zb<|zs<|zd ?_
 obtain ⟨x12,h13,h13l,h13L,h⟩:=zY 0 h
 obtain ⟨x14,h15,h15l,h15L,h⟩:=zY 0 h
 refine yU ?_
 obtain ⟨r16,h17,h⟩:=zB h
 refine yc (qrt x12 x14 _ h17) ?_
 refine yU ?_
 refine yd<|zn<|zb<|zs<|zr ?_
 refine zU<|zl<|zn ?_
 obtain ⟨h18,h⟩|⟨h18,h⟩:=zI h
 refine zi<|zr ?_
 obtain ⟨h19,h⟩:=qab h
 refine zU<|zl<|yn<|yn ?_
 cases h
 exact ⟨rfl,zE⟩
 refine zj<|zs<|zr ?_
 refine zU<|zl<|zn ?_
 obtain ⟨h20,h⟩|⟨h20,h⟩:=zI h
 refine zi<|zr ?_
 obtain ⟨h21,h⟩:=qab h
 refine zU<|zl<|yn<|yn ?_
 cases h
 exact ⟨rfl,zE⟩
 refine zj<|zs<|zd ?_
 obtain ⟨h22,h⟩:=qab h
 obtain ⟨h23,h⟩:=qab h
 refine yU ?_
 refine yd<|zn<|zr ?_
 refine zU<|zl<|yn<|yn ?_
 cases h
 exact ⟨rfl,zE⟩
 refine zj<|zx<|ze ?_
 cases h
 exact ⟨rfl,zE⟩
 refine zw 10 false ?_
 refine zh ?_
 refine zU<|zl<|zn ?_
 refine zj<|zx<|ze ?_
 cases h
 exact ⟨rfl,zE⟩
 try simp only at h
 refine zA<|yh<|zn<|zs<|zr ?_
 refine zU<|zl<|zn<|zq ?_
 cases h
 exact zT results137
theorem qpq (a1:List UInt8) (b2:List UInt8) (q3:Int) (r4:Ratio×Int) (h:qgh a1 b2 q3=some r4):Con False Tryz.prog 83 [(.str a1),(.str b2),(.int .i64 q3)] (.tup [(qg3 r4.1),(.int .i64 r4.2)]):=by
 refine zP call83 func83 rfl ntmps83 fun X w hT=>?_
 simp only [qgh] at h
 refine zs<|zr ?_
 refine zU<|zl<|zn<|zs<|zs<|zr ?_
 refine zU ?_
 obtain ⟨r5,h6,h⟩:=zB h
 refine zc (qiy [a1,b2] _ h6) ?_
 refine zl<|zn ?_
 obtain ⟨h7,h⟩|⟨h7,h⟩:=zI h
 refine zi<|zs<|zr ?_
 refine zU<|zl<|zn<|zq<|zt ?_
 cases h
 exact zT results83
 refine zj<|zk<|zn<|zs<|zr ?_
 refine zU ?_
 obtain ⟨r8,h9,h⟩:=zB h
 refine zc (qkt a1 q3 _ h9) ?_
 refine zU<|zl<|zn<|zs<|zr ?_
 refine zU ?_
 obtain ⟨r10,h11,h⟩:=zB h
 refine zc (qkt b2 q3 _ h11) ?_
 refine zU<|zl<|zn<|zs<|zs<|zr ?_
 refine zU<|zl<|zn ?_
 obtain ⟨h12,h⟩|⟨h12,h⟩:=zI h
 refine zi<|zs<|zr ?_
 refine zU<|zl<|zn<|zq<|zt ?_
 cases h
 exact zT results83
 refine zj<|zk<|zn<|zs<|zs<|zr ?_
 refine zU<|zl<|zn ?_
 obtain ⟨h13,h⟩|⟨h13,h⟩:=zI h
 refine zi<|zs<|zr ?_
 refine zU<|zl<|zn<|zq<|zt ?_
 cases h
 exact zT results83
 refine zj<|zk<|zn<|zs<|zr ?_
 refine zU ?_
 obtain ⟨r14,h15,h⟩:=zB h
 refine zc (qpp r8.1 r10.1 _ h15) ?_
 refine zU ?_
 obtain ⟨r16,h17,h⟩:=zB h
 refine zc (qq3 (vxc.wrap (2 * r14)) (vxc.wrap ((r8.1.length:Int)+(r10.1.length:Int))) _ h17) ?_
 refine zU<|zl<|zn<|zq ?_
 cases h
 exact zT results83
theorem qku (x1:Row) (y2:Row) (c3:Similar) (r4:Bool×Int) (h:qbz x1 y2 c3=some r4):Con False Tryz.prog 41 [(qay x1),(qay y2),(qal c3)] (.tup [(.bool r4.1),(.int .i64 r4.2)]):=by
 refine zP call41 func41 rfl ntmps41 fun X w hT=>?_
 simp only [qbz] at h
 refine zs<|zr ?_
 refine zU<|zl<|zn<|zs<|zs<|zr ?_
 refine zU ?_
 obtain ⟨h5,h⟩|⟨h5,h⟩:=zI h
 refine zw 18 true ?_
 refine zh ?_
 refine zU ?_
 refine zh ?_
 refine zU<|zl<|zn ?_
 refine zi<|zs<|zr ?_
 refine zU<|zl<|zn<|zq<|zt ?_
 cases h
 exact zT results41
 refine zw 18 false ?_
 refine zg ?_
 refine zg ?_
 refine zg ?_
 refine zg ?_
 refine zg ?_
 refine zg ?_
 refine zU ?_
 obtain ⟨h6,h⟩|⟨h6,h⟩:=zI h
 refine zw 26 true ?_
 refine zh ?_
 refine zU<|zl<|zn ?_
 refine zi<|zs<|zr ?_
 refine zU<|zl<|zn<|zq<|zt ?_
 cases h
 exact zT results41
 refine zw 26 false ?_
 refine zg ?_
 refine zg ?_
 refine zg ?_
 refine zg ?_
 refine zg ?_
 refine zg ?_
 refine zU<|zl<|zn ?_
 obtain ⟨h7,h⟩|⟨h7,h⟩:=zI h
 refine zi<|zs<|zr ?_
 refine zU<|zl<|zn<|zq<|zt ?_
 cases h
 exact zT results41
 refine zj<|zk<|zn<|zs<|zd ?_
 obtain ⟨x8,h9,h9a,h9b,h⟩:=zX h
 obtain ⟨x10,h11,h11a,h11b,h⟩:=zX h
 refine yU ?_
 refine yd<|zn<|zs<|zs<|zr ?_
 refine zU ?_
 obtain ⟨r12,h13,h⟩:=zB h
 refine zc (qls x8 _ h13) ?_
 refine zU ?_
 obtain ⟨h14,h⟩|⟨h14,h⟩:=zI h
 refine zw 49 false ?_
 refine zg ?_
 obtain ⟨r15,h16,h⟩:=zB h
 refine zc (qls x10 _ h16) ?_
 refine zg ?_
 refine zU ?_
 obtain ⟨h17,h⟩|⟨h17,h⟩:=zI h
 refine zw 54 false ?_
 refine zg ?_
 obtain ⟨r18,h19,h⟩:=zB h
 refine zc (qqk c3 _ h19) ?_
 refine zg ?_
 refine zU<|zl<|zn ?_
 obtain ⟨h20,h⟩|⟨h20,h⟩:=zI h
 refine zj<|zk<|zn<|zs ?_
 obtain ⟨t21,h22,h⟩:=zB h
 refine zJ (fun (o23:Bool)=>tE (cX Tryz.f41 X w False hT) .normal ⟨[(5,.loc 5 1 0 0),(8,.loc 8 1 0 0),(9,.loc 9 1 0 0),(66,.p (.bool o23))],[(5,.arr 95 3 1 [.p (qal c3)]),(8,.arr 142 3 1 [.p (qak x8)]),(9,.arr 142 3 1 [.p (qak x10)])]⟩) t21 ?_ ?_
 replace h:=h22
 clear h22
 refine zr ?_
 refine zU ?_
 obtain ⟨h24,h⟩|⟨h24,h⟩:=zI h
 refine zw 62 true ?_
 refine zh ?_
 refine zU<|zl ?_
 cases h
 exact ⟨rfl,zE⟩
 replace h:=h.symm
 refine zw 62 false ?_
 refine zg ?_
 refine zg ?_
 refine zg ?_
 refine zU<|zl ?_
 cases h
 exact ⟨rfl,zE⟩
 try simp only at h
 refine zA<|zn ?_
 obtain ⟨h25,h⟩|⟨h25,h⟩:=zI h
 refine zi<|zs<|zr ?_
 refine zU<|zl<|zn<|zq<|zt ?_
 cases h
 exact zT results41
 refine zj<|zk<|zn<|zs<|zd ?_
 refine yU ?_
 refine yd<|zn<|zs<|zs<|zr ?_
 refine zU<|zl<|zn<|zb<|zs<|zr ?_
 refine zU<|zl<|zn ?_
 obtain ⟨h26,h⟩|⟨h26,h⟩:=zI h
 refine zi<|zs<|zr ?_
 refine zU ?_
 obtain ⟨r27,h28,h⟩:=zB h
 refine zc (qpo x8.Str x10.Str c3.Limit _ h28) ?_
 refine zU<|zl<|zn<|zq<|yr<|zt ?_
 cases h
 exact zT results41
 refine zj<|zs<|zr ?_
 refine zU<|zl<|zn ?_
 obtain ⟨h29,h⟩|⟨h29,h⟩:=zI h
 refine zi<|zs<|zr ?_
 refine zU ?_
 obtain ⟨r30,h31,h⟩:=zB h
 refine zc (qpq x8.Str x10.Str 2 _ h31) ?_
 refine zU<|zl<|zn<|zs<|zr ?_
 refine zU ?_
 obtain ⟨h32,h⟩|⟨h32,h⟩:=zI h
 replace h:=h.symm
 refine zw 95 true ?_
 refine zg ?_
 refine zg ?_
 refine zg ?_
 refine zg ?_
 refine zg ?_
 refine zg ?_
 refine zg ?_
 refine zg ?_
 refine zg ?_
 refine zU<|zl<|zn<|zq<|yr<|zt ?_
 cases h
 exact zT results41
 refine zw 95 false ?_
 refine zh ?_
 refine zU<|zl<|zn<|zq<|yr<|zt ?_
 cases h
 exact zT results41
 refine zj<|zs<|zr ?_
 refine zU<|zl<|zn ?_
 obtain ⟨h33,h⟩|⟨h33,h⟩:=zI h
 refine zi<|zs<|zr ?_
 refine zU<|zl<|zn<|zs<|zd ?_
 obtain ⟨h34,h⟩:=qab h
 obtain ⟨h35,h⟩:=qab h
 obtain ⟨h36,h⟩:=qab h
 obtain ⟨h37,h⟩:=qab h
 refine yU ?_
 refine yd<|zn<|zq<|yr<|zt ?_
 cases h
 exact zT results41
 refine zj<|zk<|yn<|zn<|zs<|zr ?_
 refine zU<|zl<|zn<|zq ?_
 cases h
 exact zT results41
 refine zi<|zs<|zr ?_
 refine zU<|zl<|zn<|zq<|zt ?_
 cases h
 exact zT results41
 refine zw 54 true ?_
 refine zh ?_
 refine zU<|zl<|zn ?_
 refine zi<|zs<|zr ?_
 refine zU<|zl<|zn<|zq<|zt ?_
 cases h
 exact zT results41
 refine zw 49 true ?_
 refine zh ?_
 refine zU ?_
 refine zh ?_
 refine zU<|zl<|zn ?_
 refine zi<|zs<|zr ?_
 refine zU<|zl<|zn<|zq<|zt ?_
 cases h
 exact zT results41
theorem qny {D:Prop} (s1:List Int) (f2:Int→Option (Bool)) (f2_k:FuncId) (f2_cs:List PV) (f2_h:∀(y3:Int) (r4:Bool),f2 y3=some r4→Con D Tryz.prog f2_k ((.int .i64 y3) :: f2_cs) (.bool r4)) (r5:Int) (h:qei s1 f2=some r5):Con D Tryz.prog 84 [(.slc (vwb (PV.int .i64) s1)),.func (.func f2_k) f2_cs] (.int .i64 r5):=by
 refine zP call84 func84 rfl ntmps84 fun X w hT=>?_
 simp only [qei] at h
 refine zs<|zr ?_
 refine zU<|zl<|zn<|zs<|zs<|zr ?_
 refine zU<|zl<|zn<|zb ?_
 obtain ⟨o6,h7,h⟩:=zB h
 refine zO (fun (s:Int)=>⟨[(0,.p (.slc (vwb (PV.int .i64) s1))),(1,.p (.func (.func f2_k) f2_cs)),(7,.p (.int .i64 (s1.length:Int))),(8,.p (.int .i64 s))],[]⟩) (fun (o:(Unit) ⊕ (Int))=>match o with | .inl o8=>tE (cX Tryz.f84 X w D hT) (.exit 0) ⟨[],[]⟩ | .inr o9=>tR Tryz.prog Tryz.f84 (.int .i64 o9)) h7 ?_ ?_
 clear h h7
 intro t10 x h
 simp only [qb3] at h
 refine zs<|zr ?_
 refine zU<|zl<|zn<|zs ?_
 obtain ⟨h11,h⟩|⟨h11,h⟩:=zI h
 refine zi<|zk<|zn<|zs<|zb<|zs<|zr ?_
 refine zU<|zl<|zn<|zs<|zr ?_
 obtain ⟨x12,h13,h13a,h13b,h⟩:=zX h
 refine zU ?_
 obtain ⟨r14,h15,h⟩:=zB h
 refine zc (f2_h x12 _ h15) ?_
 refine zl<|zn ?_
 obtain ⟨h16,h⟩|⟨h16,h⟩:=zI h
 refine zi<|zs<|zr ?_
 refine zU<|zl<|zn<|zq<|yr<|zt ?_
 cases h
 exact ⟨rfl,zT results84⟩
 refine zj<|zk<|yn<|zn<|zr ?_
 refine zU<|zl ?_
 cases h
 exact ⟨rfl,zE⟩
 refine zj<|zx<|ze ?_
 cases h
 exact ⟨rfl,zE⟩
 rcases o6 with ⟨⟩ | r17
 try simp only at h
 refine zA<|yh<|zn<|zs<|zr ?_
 refine zU<|zl<|zn<|zq ?_
 cases h
 exact zT results84
 try simp only at h
 refine zZ fun s hq=>?_
 refine yr<|zt ?_
 cases h
 exact hq
theorem qfg {D:Prop} (s1:List Int) (f2:Int→Option (Bool)) (f2_k:FuncId) (f2_cs:List PV) (f2_h:∀(y3:Int) (r4:Bool),f2 y3=some r4→Con D Tryz.prog f2_k ((.int .i64 y3) :: f2_cs) (.bool r4)) (r5:Bool) (h:qa2 s1 f2=some r5):Con D Tryz.prog 42 [(.slc (vwb (PV.int .i64) s1)),.func (.func f2_k) f2_cs] (.bool r5):=by
 refine zP call42 func42 rfl ntmps42 fun X w hT=>?_
 simp only [qa2] at h
 refine zs<|zr ?_
 refine zU<|zl<|zn<|zs<|zr ?_
 refine zU ?_
 obtain ⟨r6,h7,h⟩:=zB h
 refine zc (qny s1 f2 f2_k f2_cs f2_h _ h7) ?_
 refine zU<|zl<|zn<|zq ?_
 cases h
 exact zT results42
theorem qru {D:Prop} (a1:Int) (c2:Int) (r3:Bool) (h:qgi a1 c2=some r3):Con D Tryz.prog 43 [(.int .i64 a1),.imm [.int .i64 c2]] (.bool r3):=by
 refine zP call43 func43 rfl ntmps43 fun X w hT=>?_
 simp only [qgi] at h
 refine zs<|zr ?_
 refine zU<|zl<|zn<|zs<|zr ?_
 refine zU ?_
 obtain ⟨h4,h⟩|⟨h4,h⟩:=zI h
 refine zw 6 true ?_
 refine zh ?_
 refine zU<|zl<|zn<|zq ?_
 cases h
 exact zT results43
 replace h:=h.symm
 refine zw 6 false ?_
 refine zg ?_
 refine zg ?_
 refine zg ?_
 refine zU<|zl<|zn<|zq ?_
 cases h
 exact zT results43
theorem qrv {D:Prop} (s1:Int) (r2:Bool) (h:qgj s1=some r2):Con D Tryz.prog 47 [(.int .i64 s1)] (.bool r2):=by
 refine zP call47 func47 rfl ntmps47 fun X w hT=>?_
 simp only [qgj] at h
 refine zs<|zr ?_
 refine zU<|zl<|zn<|zs<|zr ?_
 refine zU ?_
 obtain ⟨h3,h⟩|⟨h3,h⟩:=zI h
 refine zw 5 true ?_
 refine zh ?_
 refine zU<|zl<|zn<|zq ?_
 cases h
 exact zT results47
 replace h:=h.symm
 refine zw 5 false ?_
 refine zg ?_
 refine zg ?_
 refine zU<|zl<|zn<|zq ?_
 cases h
 exact zT results47
theorem quk (n1:Int) (l2:Linkage) (r3:Int) (h:qfy n1 l2=some r3):Con False Tryz.prog 14 [(.int .i64 n1),(qai l2)] (.int .i64 r3):=by
 refine zP call14 func14 rfl ntmps14 fun X w hT=>?_
 simp only [qfy] at h
 refine zs<|zr ?_
 refine zU<|zl<|zn<|zs<|zs<|zr ?_
 refine zU ?_
 obtain ⟨h4,h⟩|⟨h4,h⟩:=zI h
 have h4T:=eq_true h4
 refine zw 15 true ?_
 refine zh ?_
 refine zU<|zl<|zn ?_
 refine zi<|zs<|zr ?_
 refine zU<|zl<|zn<|zq<|zt ?_
 cases h
 exact zT results14
 have h4T:=eq_false h4
 refine zw 15 false ?_
 refine zg ?_
 refine zg ?_
 refine zU<|zl<|zn ?_
 obtain ⟨h5,h⟩|⟨h5,h⟩:=zI h
 have h5T:=eq_true h5
 refine zi<|zs<|zr ?_
 refine zU<|zl<|zn<|zq<|zt ?_
 cases h
 exact zT results14
 have h5T:=eq_false h5
 refine zj<|zk<|zn<|zs<|zs<|zr ?_
 refine zU<|zl<|zn ?_
 obtain ⟨h6,h⟩|⟨h6,h⟩:=zI h
 have h6T:=eq_true h6
 refine zi<|zs<|zr ?_
 refine zU<|zl<|zn<|zq<|zt ?_
 cases h
 exact zT results14
 have h6T:=eq_false h6
 refine zj<|zk<|zn<|zs<|zr ?_
 obtain ⟨h7,h⟩:=qab h
 obtain ⟨h8,h⟩:=qab h
 refine zU<|zl<|zn<|zs<|zs ?_
 obtain ⟨l9,h10,h⟩:=zB h
 replace h10:=vwz h10
 refine qnl (st':=⟨[(2,.loc 2 1 0 0),(3,.loc 3 1 0 0),(5,.loc 5 1 0 0)],[(2,.arr 3 1 1 [.p (.int .i64 n1)]),(3,.arr 25 3 1 [.p (qai l2)]),(5,.arr 66 2 1 [.agg [.p (.int .i64 0),.own 24 1 0 l9.length]]),(24,.arr 142 3 1 (vwb AV.p (vwb qak l9)))]⟩) (by simp only [go_sem,seval,h4T,h5T,h6T,←h10];all_goals ((repeat' refine vzq ?_ ?_) <;> first | rfl | (simp;done) | (simp;rfl) | (simp [*];done) | (simp [*];rfl))) ?_
 clear h10
 refine zr ?_
 refine zU<|zl<|zn<|zb ?_
 obtain ⟨o11,h12,h⟩:=zB h
 refine zO (fun (s:Int)=>⟨[(2,.loc 2 1 0 0),(3,.loc 3 1 0 0),(5,.loc 5 1 0 0),(27,.p (.slc (vwb (qat qal) l2.Rules))),(28,.p (.int .i64 (l2.Rules.length:Int))),(29,.p (.int .i64 s))],[(2,.arr 3 1 1 [.p (.int .i64 n1)]),(3,.arr 25 3 1 [.p (qai l2)]),(5,.arr 66 2 1 [.agg [.p (.int .i64 0),.own 24 1 0 l9.length]]),(24,.arr 142 3 1 (vwb AV.p (vwb qak l9)))]⟩) (fun (o:(Unit) ⊕ (Int))=>match o with | .inl o13=>tE (cX Tryz.f14 X w False hT) (.exit 0) ⟨[(2,.loc 2 1 0 0),(3,.loc 3 1 0 0)],[(2,.arr 3 1 1 [.p (.int .i64 n1)]),(3,.arr 25 3 1 [.p (qai l2)])]⟩ | .inr o14=>tR Tryz.prog Tryz.f14 (.int .i64 o14)) h12 ?_ ?_
 clear h h4 h4T h5 h5T h6 h6T h7 h8 h12
 intro t15 x h
 simp only [qc8] at h
 refine zs<|zr ?_
 refine zU<|zl<|zn<|zs ?_
 obtain ⟨h16,h⟩|⟨h16,h⟩:=zI h
 refine zi<|zk<|zn<|zs<|zb<|zs<|zr ?_
 obtain ⟨x17,h18,h18a,h18b,h⟩:=zX h
 refine zU<|zl<|zn<|zs<|zs<|zr ?_
 refine zU ?_
 obtain ⟨h19,h⟩|⟨h19,h⟩:=zI h
 refine zw 36 true ?_
 refine zh ?_
 refine zU<|zl<|zn ?_
 refine zi<|zs<|zr ?_
 refine zU<|zl<|zn<|zq<|zt<|yr<|zt ?_
 cases h
 exact ⟨rfl,zT results14⟩
 refine zw 36 false ?_
 refine zg ?_
 refine zg ?_
 refine zg ?_
 refine zU<|zl<|zn ?_
 obtain ⟨h20,h⟩|⟨h20,h⟩:=zI h
 refine zi<|zs<|zr ?_
 refine zU<|zl<|zn<|zq<|zt<|yr<|zt ?_
 cases h
 exact ⟨rfl,zT results14⟩
 refine zj<|zk<|zn<|zs<|zr ?_
 refine zU<|zl<|zn<|zb ?_
 obtain ⟨o21,h22,h⟩:=zB h
 refine zO (fun (s:Int)=>⟨[(2,.loc 2 1 0 0),(3,.loc 3 1 0 0),(5,.loc 5 1 0 0),(27,.p (.slc (vwb (qat qal) l2.Rules))),(28,.p (.int .i64 (l2.Rules.length:Int))),(29,.p (.int .i64 t15)),(41,.p (.slc (vwb qal x17))),(42,.p (.int .i64 (x17.length:Int))),(43,.p (.int .i64 s))],[(2,.arr 3 1 1 [.p (.int .i64 n1)]),(3,.arr 25 3 1 [.p (qai l2)]),(5,.arr 66 2 1 [.agg [.p (.int .i64 0),.own 24 1 0 l9.length]]),(24,.arr 142 3 1 (vwb AV.p (vwb qak l9)))]⟩) (fun (o:(Unit) ⊕ (Int))=>match o with | .inl o23=>tE (cX Tryz.f14 X w False hT) (.exit 2) ⟨[(2,.loc 2 1 0 0),(3,.loc 3 1 0 0),(5,.loc 5 1 0 0),(27,.p (.slc (vwb (qat qal) l2.Rules))),(28,.p (.int .i64 (l2.Rules.length:Int))),(29,.p (.int .i64 t15))],[(2,.arr 3 1 1 [.p (.int .i64 n1)]),(3,.arr 25 3 1 [.p (qai l2)]),(5,.arr 66 2 1 [.agg [.p (.int .i64 0),.own 24 1 0 l9.length]]),(24,.arr 142 3 1 (vwb AV.p (vwb qak l9)))]⟩ | .inr o24=>tR Tryz.prog Tryz.f14 (.int .i64 o24)) h22 ?_ ?_
 clear h h16 h18 h18a h18b h19 h20 h22
 intro t25 x h
 simp only [qfi] at h
 refine zs<|zr ?_
 refine zU<|zl<|zn<|zs ?_
 obtain ⟨h26,h⟩|⟨h26,h⟩:=zI h
 refine zi<|zk<|zn<|zs<|zb<|zs<|zr ?_
 obtain ⟨x27,h28,h28a,h28b,h⟩:=zX h
 refine zU<|zl<|zn<|zs<|zr ?_
 refine zU ?_
 obtain ⟨r29,h30,h⟩:=zB h
 refine zc (qku (Row.mk 0 l9) (Row.mk 0 l9) x27 _ h30) ?_
 refine zU<|zl<|zn<|zs<|zr ?_
 refine zU<|zl<|zn ?_
 obtain ⟨h31,h⟩|⟨h31,h⟩:=zI h
 refine zi<|zs<|zr ?_
 refine zU<|zl<|zn<|zq<|yr<|zt ?_
 cases h
 exact ⟨rfl,zT results14⟩
 refine zj<|zk<|yn<|zn<|zr ?_
 refine zU<|zl ?_
 cases h
 exact ⟨rfl,zE⟩
 refine zj<|zx<|ze ?_
 cases h
 exact ⟨rfl,zE⟩
 rcases o21 with ⟨⟩ | r32
 try simp only at h
 refine zA<|yh<|yn<|zn<|zr ?_
 refine zU<|zl ?_
 cases h
 exact ⟨rfl,zE⟩
 try simp only at h
 refine zZ fun s hq=>?_
 refine yr<|yr<|zt ?_
 cases h
 refine ⟨rfl,?_⟩
 exact hq
 refine zj<|zx<|ze ?_
 cases h
 exact ⟨rfl,zE⟩
 rcases o11 with ⟨⟩ | r33
 try simp only at h
 refine zA<|yh<|zn<|zs<|zs<|zr ?_
 refine zU ?_
 obtain ⟨r34,h35,h⟩:=zB h
 refine zc (qfg l2.Block (fun (y36:Int)=>qgi y36 n1) 43 [.imm [.int .i64 n1]] (fun y36 r h=>qru y36 n1 r h) _ h35) ?_
 refine zl<|zn ?_
 obtain ⟨h37,h⟩|⟨h37,h⟩:=zI h
 refine zi<|zs<|zr ?_
 refine zU<|zl<|zn<|zq<|zt ?_
 cases h
 exact zT results14
 have h37F:=vvo.2 h37
 refine zj<|zk<|zn<|zs<|zr ?_
 refine zU ?_
 obtain ⟨h38,h⟩:=qab h
 refine zM ⟨[(2,.loc 2 1 0 0),(3,.loc 3 1 0 0),(64,.p (.slc (vwb (PV.int .i64) l2.Block)))],[(2,.arr 3 1 1 [.p (.int .i64 n1)]),(3,.arr 25 3 1 [.p (qai l2)])]⟩ ?_
 refine qif (avs:=[.p (.slc (vwb (PV.int .i64) l2.Block))]) 83 rfl (qbf rfl) rfl func44 rfl call44 ntmps44 (by simp) (by simp only [go_sem,seval,h4T,h5T,h6T,h37F,h38];all_goals rfl) ?_
 intro i39 w40 h41
 refine q0t (T:=fun e s'=>(e=.normal∨e=.ret)∧Le ⟨Tryz.prog,8,83,X,[(2,.arr 3 1 1 [.p (.int .i64 n1)]),(3,.arr 25 3 1 [.p (qai l2)])],i39,w40,False,h41⟩ s' ⟨[(2,.own 88 1 0 (l2.Block).length)],[(2,.arr 3 1 1 [.p (.int .i64 n1)]),(3,.arr 25 3 1 [.p (qai l2)]),(88,.arr 3 1 1 (vwb AV.p (vwb (PV.int .i64) l2.Block)))]⟩) ?_ ?_
 show AWp _ _ _ ⟨[(0,.p (.slc (vwb (PV.int .i64) l2.Block)))],[(2,.arr 3 1 1 [.p (.int .i64 n1)]),(3,.arr 25 3 1 [.p (qai l2)])]⟩
 refine zs<|zr ?_
 refine zU<|zl<|zn<|zs<|zs<|zr ?_
 refine zW 1 ?_
 refine vg5 (by simp only [go_sem,seval,h4T,h5T,h6T,h37F,h38];exact rfl) (by simp only [go_sem,seval,h4T,h5T,h6T,h37F,h38]) underlying23 rfl ?_
 intro b hb
 refine zl<|zn ?_
 cases b
 refine zj<|zk<|zn<|zs<|zr ?_
 refine zU<|zl<|zn<|zq ?_
 refine ⟨.inr rfl,?_⟩
 exact zV
 refine zi ?_
 have h42:l2.Block=[]:=by
   rcases hz:l2.Block with _ | ⟨x,z⟩
   · rfl
   · rw [hz] at hb;exact absurd (hb (by simp)) (by simp)
 refine zs<|zr ?_
 refine zU<|zl<|zn<|zq<|zt ?_
 refine ⟨.inr rfl,?_⟩
 exact zV
 intro e s' hT
 obtain ⟨he,hle⟩:=hT
 refine Wk.to hle ?_
 refine vg9 he (by simp only [results44];simp only [go_sem,seval,h4T,h5T,h6T,h37F,h38];exact rfl) ?_
 clear hle he
 refine zU<|zl<|zn<|zs<|zr ?_
 refine zU ?_
 refine zM ⟨[(2,.loc 2 1 0 0),(3,.loc 3 1 0 0),(12,.own 88 1 0 (l2.Block).length),(66,.own 88 1 0 (l2.Block).length)],[(2,.arr 3 1 1 [.p (.int .i64 n1)]),(3,.arr 25 3 1 [.p (qai l2)]),(88,.arr 3 1 1 (vwb AV.p (vwb (PV.int .i64) l2.Block)))]⟩ ?_
 obtain ⟨l43,h44,h⟩:=zB h
 refine zSI srt45 h44 ?_
 have h45:=qwp h44
 refine zM ⟨[(2,.loc 2 1 0 0),(3,.loc 3 1 0 0),(12,.own 88 1 0 l43.length),(67,.p (.tup []))],[(2,.arr 3 1 1 [.p (.int .i64 n1)]),(3,.arr 25 3 1 [.p (qai l2)]),(88,.arr 3 1 1 (vwb AV.p (vwb (PV.int .i64) l43)))]⟩ ?_
 clear h45
 refine zl<|zn<|zs<|zs ?_
 refine zL ⟨[(2,.loc 2 1 0 0),(3,.loc 3 1 0 0),(12,.own 88 1 0 l43.length)],[(2,.arr 3 1 1 [.p (.int .i64 n1)]),(3,.arr 25 3 1 [.p (qai l2)]),(88,.arr 3 1 1 (vwb AV.p (vwb (PV.int .i64) l43)))]⟩ ?_
 refine zH [3] mixed (fun i46 w47 h48 r49 h50 h51=>?_)
 refine zHm 0 ?_
 refine zHf 3 ?_
 refine zHl 4 3 h50 ?_
 refine zHb 5 rfl ?_
 obtain ⟨l52,h53,h⟩:=zB h
 refine zHc cpt46 1 h51 h53 ?_
 have h54:=q1a h53
 refine zHb 2 rfl ?_
 refine zHq 6 ?_
 refine zHe ?_
 refine zn ?_
 obtain ⟨h55,h⟩|⟨h55,h⟩:=zI h
 refine zi<|zs<|zr ?_
 refine zU<|zl<|zn<|zq<|zt ?_
 cases h
 exact zT results14
 refine zj<|zk<|zn<|zs<|zs<|zr ?_
 refine zU<|zl<|zn ?_
 obtain ⟨h56,h⟩|⟨h56,h⟩:=zI h
 refine zi<|zs<|zr ?_
 refine zU<|zl<|zn<|zq<|zt ?_
 cases h
 exact zT results14
 refine zj<|zk<|zn<|zs<|zs<|zr ?_
 refine zU ?_
 obtain ⟨r57,h58,h⟩:=zB h
 refine zc (qfg l2.Survive (fun (y59:Int)=>qgj y59) 47 [] (fun y59 r h=>qrv y59 r h) _ h58) ?_
 refine zl<|zn ?_
 obtain ⟨h60,h⟩|⟨h60,h⟩:=zI h
 refine zi<|zs<|zr ?_
 refine zU<|zl<|zn<|zq<|zt ?_
 cases h
 exact zT results14
 refine zj<|zk<|zn<|zs<|zr ?_
 refine zU<|zl<|zn<|zq ?_
 cases h
 exact zT results14
 try simp only at h
 refine zZ fun s hq=>?_
 refine yr<|zt ?_
 cases h
 exact hq
theorem qos {D:Prop} (s1:List UInt8) (r2:Bool) (h:qi6 s1=some r2):Con D Tryz.prog 152 [(.str s1)] (.bool r2):=by
 refine zP call152 func152 rfl ntmps152 fun X w hT=>?_
 simp only [qi6] at h
 refine zs<|zr ?_
 refine zU<|zl<|zn<|zs<|zs<|zr ?_
 refine zU ?_
 obtain ⟨h3,h⟩|⟨h3,h⟩:=zI h
 refine zw 8 true ?_
 refine zh ?_
 refine zU ?_
 refine zh ?_
 refine zU<|zl<|zn ?_
 refine zi<|zs<|zr ?_
 refine zU<|zl<|zn<|zq<|zt ?_
 cases h
 exact zT results152
 refine zw 8 false ?_
 refine zg ?_
 refine zg ?_
 refine zg ?_
 refine zU ?_
 obtain ⟨h4,h⟩|⟨h4,h⟩:=zI h
 refine zw 13 true ?_
 refine zh ?_
 refine zU<|zl<|zn ?_
 refine zi<|zs<|zr ?_
 refine zU<|zl<|zn<|zq<|zt ?_
 cases h
 exact zT results152
 refine zw 13 false ?_
 refine zg ?_
 refine zg ?_
 refine zU<|zl<|zn ?_
 obtain ⟨h5,h⟩|⟨h5,h⟩:=zI h
 refine zi<|zs<|zr ?_
 refine zU<|zl<|zn<|zq<|zt ?_
 cases h
 exact zT results152
 refine zj<|zk<|zn<|zs<|zs<|zr ?_
 refine zU<|zl<|zn<|zb ?_
 obtain ⟨o6,h7,h⟩:=zB h
 refine zO (fun (s:Int)=>⟨[(0,.p (.str s1)),(18,.p (.int .i64 (s1.length:Int))),(19,.p (.int .i64 s))],[]⟩) (fun (o:(Unit) ⊕ (Bool))=>match o with | .inl o8=>tE (cX Tryz.f152 X w D hT) (.exit 0) ⟨[],[]⟩ | .inr o9=>tR Tryz.prog Tryz.f152 (.bool o9)) h7 ?_ ?_
 clear h h3 h4 h5 h7
 intro t10 x h
 simp only [qgk] at h
 refine zs<|zr ?_
 refine zU<|zl<|zn<|zs ?_
 obtain ⟨h11,h⟩|⟨h11,h⟩:=zI h
 refine zi<|zk<|zn<|zs<|zb<|zs<|zr ?_
 refine zU<|zl<|zn<|zs<|zr ?_
 obtain ⟨c12,h13,h13a,h13b,h⟩:=zX h
 refine zU<|zl<|zn ?_
 obtain ⟨l14,h15,h⟩:=zB h
 refine zJ (fun (o16:Bool)=>tE (cX Tryz.f152 X w D hT) .normal ⟨[(0,.p (.str s1)),(3,.p (.int .i64 t10)),(4,.p (.int .u8 ((c12.toNat:Nat):Int))),(5,.p (.bool o16)),(18,.p (.int .i64 (s1.length:Int))),(19,.p (.int .i64 t10))],[]⟩) l14 ?_ ?_
 replace h:=h15
 clear h15
 refine zr ?_
 refine zU ?_
 obtain ⟨h17,h⟩|⟨h17,h⟩:=zI h
 refine zw 27 true ?_
 refine zg ?_
 refine zg ?_
 refine zU ?_
 obtain ⟨h18,h⟩|⟨h18,h⟩:=zI h
 refine zw 31 true ?_
 refine zh ?_
 refine zU ?_
 refine zh ?_
 refine zU<|zl ?_
 cases h
 exact ⟨rfl,zE⟩
 refine zw 31 false ?_
 refine zg ?_
 refine zg ?_
 refine zg ?_
 obtain ⟨h19,h⟩|⟨h19,h⟩:=zI h
 refine zw 34 true ?_
 refine zg ?_
 refine zg ?_
 refine zg ?_
 refine zU ?_
 obtain ⟨h20,h⟩|⟨h20,h⟩:=zI h
 refine zw 39 true ?_
 refine zh ?_
 refine zU<|zl ?_
 cases h
 exact ⟨rfl,zE⟩
 replace h:=h.symm
 refine zw 39 false ?_
 refine zg ?_
 refine zg ?_
 refine zU<|zl ?_
 cases h
 exact ⟨rfl,zE⟩
 replace h:=h.symm
 refine zw 34 false ?_
 refine zh ?_
 refine zg ?_
 refine zU ?_
 refine zg ?_
 refine zg ?_
 refine zU<|zl ?_
 cases h
 exact ⟨rfl,zE⟩
 refine zw 27 false ?_
 refine zh ?_
 refine zU ?_
 refine zg ?_
 refine zg ?_
 refine zg ?_
 obtain ⟨h21,h⟩|⟨h21,h⟩:=zI h
 refine zw 34 true ?_
 refine zg ?_
 refine zg ?_
 refine zg ?_
 refine zU ?_
 obtain ⟨h22,h⟩|⟨h22,h⟩:=zI h
 refine zw 39 true ?_
 refine zh ?_
 refine zU<|zl ?_
 cases h
 exact ⟨rfl,zE⟩
 replace h:=h.symm
 refine zw 39 false ?_
 refine zg ?_
 refine zg ?_
 refine zU<|zl ?_
 cases h
 exact ⟨rfl,zE⟩
 replace h:=h.symm
 refine zw 34 false ?_
 refine zh ?_
 refine zg ?_
 refine zU ?_
 refine zg ?_
 refine zg ?_
 refine zU<|zl ?_
 cases h
 exact ⟨rfl,zE⟩
 try simp only at h
 refine zA<|zn<|zs<|zr ?_
 refine zU ?_
 obtain ⟨h23,h⟩|⟨h23,h⟩:=zI h
 refine zw 45 false ?_
 refine zh ?_
 refine zU<|zl<|zn ?_
 refine zj<|zk<|yn<|zn<|zr ?_
 refine zU<|zl ?_
 cases h
 exact ⟨rfl,zE⟩
 refine zw 45 true ?_
 refine zg ?_
 refine zg ?_
 refine zg ?_
 obtain ⟨h24,h⟩|⟨h24,h⟩:=zI h
 replace h:=h.symm
 refine zw 48 true ?_
 refine zh ?_
 refine zg ?_
 refine zg ?_
 refine zh ?_
 refine zg ?_
 refine zU<|zl<|zn ?_
 refine zi<|zs<|zr ?_
 refine zU<|zl<|zn<|zq<|yr<|zt ?_
 cases h
 exact ⟨rfl,zT results152⟩
 refine zw 48 false ?_
 refine zg ?_
 refine zg ?_
 refine zg ?_
 refine zg ?_
 obtain ⟨h25,h⟩|⟨h25,h⟩:=zI h
 replace h:=h.symm
 refine zw 52 true ?_
 refine zh ?_
 refine zg ?_
 refine zU<|zl<|zn ?_
 refine zi<|zs<|zr ?_
 refine zU<|zl<|zn<|zq<|yr<|zt ?_
 cases h
 exact ⟨rfl,zT results152⟩
 refine zw 52 false ?_
 refine zg ?_
 refine zg ?_
 refine zg ?_
 refine zU<|zl<|zn ?_
 obtain ⟨h26,h⟩|⟨h26,h⟩:=zI h
 refine zi<|zs<|zr ?_
 refine zU<|zl<|zn<|zq<|yr<|zt ?_
 cases h
 exact ⟨rfl,zT results152⟩
 refine zj<|zk<|yn<|zn<|zr ?_
 refine zU<|zl ?_
 cases h
 exact ⟨rfl,zE⟩
 refine zj<|zx<|ze ?_
 cases h
 exact ⟨rfl,zE⟩
 rcases o6 with ⟨⟩ | r27
 try simp only at h
 refine zA<|yh<|zn<|zs<|zr ?_
 refine zU<|zl<|zn<|zq ?_
 cases h
 exact zT results152
 try simp only at h
 refine zZ fun s hq=>?_
 refine yr<|zt ?_
 cases h
 exact hq
theorem qok {D:Prop} (s1:List (List UInt8)) (v2:List UInt8) (r3:Int) (h:qe2 s1 v2=some r3):Con D Tryz.prog 206 [(.slc (vwb PV.str s1)),(.str v2)] (.int .i64 r3):=by
 refine zP call206 func206 rfl ntmps206 fun X w hT=>?_
 simp only [qe2] at h
 refine zs<|zr ?_
 refine zU<|zl<|zn<|zs<|zs<|zr ?_
 refine zU<|zl<|zn<|zb ?_
 obtain ⟨o4,h5,h⟩:=zB h
 refine zO (fun (s:Int)=>⟨[(0,.p (.slc (vwb PV.str s1))),(1,.p (.str v2)),(7,.p (.int .i64 (s1.length:Int))),(8,.p (.int .i64 s))],[]⟩) (fun (o:(Unit) ⊕ (Int))=>match o with | .inl o6=>tE (cX Tryz.f206 X w D hT) (.exit 0) ⟨[],[]⟩ | .inr o7=>tR Tryz.prog Tryz.f206 (.int .i64 o7)) h5 ?_ ?_
 clear h h5
 intro t8 x h
 simp only [qcg] at h
 refine zs<|zr ?_
 refine zU<|zl<|zn<|zs ?_
 obtain ⟨h9,h⟩|⟨h9,h⟩:=zI h
 refine zi<|zk<|zn<|zs<|zb<|zs<|zr ?_
 refine zU<|zl<|zn<|zs<|zr ?_
 obtain ⟨x10,h11,h11a,h11b,h⟩:=zX h
 refine zU<|zl<|zn ?_
 obtain ⟨h12,h⟩|⟨h12,h⟩:=zI h
 refine zi<|zs<|zr ?_
 refine zU<|zl<|zn<|zq<|yr<|zt ?_
 cases h
 exact ⟨rfl,zT results206⟩
 refine zj<|zk<|yn<|zn<|zr ?_
 refine zU<|zl ?_
 cases h
 exact ⟨rfl,zE⟩
 refine zj<|zx<|ze ?_
 cases h
 exact ⟨rfl,zE⟩
 rcases o4 with ⟨⟩ | r13
 try simp only at h
 refine zA<|yh<|zn<|zs<|zr ?_
 refine zU<|zl<|zn<|zq ?_
 cases h
 exact zT results206
 try simp only at h
 refine zZ fun s hq=>?_
 refine yr<|zt ?_
 cases h
 exact hq
theorem ql3 {D:Prop} (s1:List (List UInt8)) (v2:List UInt8) (r3:Bool) (h:qdd s1 v2=some r3):Con D Tryz.prog 153 [(.slc (vwb PV.str s1)),(.str v2)] (.bool r3):=by
 refine zP call153 func153 rfl ntmps153 fun X w hT=>?_
 simp only [qdd] at h
 refine zs<|zr ?_
 refine zU<|zl<|zn<|zs<|zr ?_
 refine zU ?_
 obtain ⟨r4,h5,h⟩:=zB h
 refine zc (qok s1 v2 _ h5) ?_
 refine zU<|zl<|zn<|zq ?_
 cases h
 exact zT results153
theorem ql4 {D:Prop} (s1:List Value) (f2:Value→Option (Bool)) (f2_k:FuncId) (f2_cs:List PV) (f2_h:∀(y3:Value) (r4:Bool),f2 y3=some r4→Con D Tryz.prog f2_k ((qak y3) :: f2_cs) (.bool r4)) (r5:Int) (h:qde s1 f2=some r5):Con D Tryz.prog 239 [(.slc (vwb qak s1)),.func (.func f2_k) f2_cs] (.int .i64 r5):=by
 refine zP call239 func239 rfl ntmps239 fun X w hT=>?_
 simp only [qde] at h
 refine zs<|zr ?_
 refine zU<|zl<|zn<|zs<|zs<|zr ?_
 refine zU<|zl<|zn<|zb ?_
 obtain ⟨o6,h7,h⟩:=zB h
 refine zO (fun (s:Int)=>⟨[(0,.p (.slc (vwb qak s1))),(1,.p (.func (.func f2_k) f2_cs)),(7,.p (.int .i64 (s1.length:Int))),(8,.p (.int .i64 s))],[]⟩) (fun (o:(Unit) ⊕ (Int))=>match o with | .inl o8=>tE (cX Tryz.f239 X w D hT) (.exit 0) ⟨[],[]⟩ | .inr o9=>tR Tryz.prog Tryz.f239 (.int .i64 o9)) h7 ?_ ?_
 clear h h7
 intro t10 x h
 simp only [qbq] at h
 refine zs<|zr ?_
 refine zU<|zl<|zn<|zs ?_
 obtain ⟨h11,h⟩|⟨h11,h⟩:=zI h
 refine zi<|zk<|zn<|zs<|zb<|zs<|zr ?_
 refine zU<|zl<|zn<|zs<|zr ?_
 obtain ⟨x12,h13,h13a,h13b,h⟩:=zX h
 refine zU ?_
 obtain ⟨r14,h15,h⟩:=zB h
 refine zc (f2_h x12 _ h15) ?_
 refine zl<|zn ?_
 obtain ⟨h16,h⟩|⟨h16,h⟩:=zI h
 refine zi<|zs<|zr ?_
 refine zU<|zl<|zn<|zq<|yr<|zt ?_
 cases h
 exact ⟨rfl,zT results239⟩
 refine zj<|zk<|yn<|zn<|zr ?_
 refine zU<|zl ?_
 cases h
 exact ⟨rfl,zE⟩
 refine zj<|zx<|ze ?_
 cases h
 exact ⟨rfl,zE⟩
 rcases o6 with ⟨⟩ | r17
 try simp only at h
 refine zA<|yh<|zn<|zs<|zr ?_
 refine zU<|zl<|zn<|zq ?_
 cases h
 exact zT results239
 try simp only at h
 refine zZ fun s hq=>?_
 refine yr<|zt ?_
 cases h
 exact hq
theorem qkp {D:Prop} (s1:List Value) (f2:Value→Option (Bool)) (f2_k:FuncId) (f2_cs:List PV) (f2_h:∀(y3:Value) (r4:Bool),f2 y3=some r4→Con D Tryz.prog f2_k ((qak y3) :: f2_cs) (.bool r4)) (r5:Bool) (h:qcl s1 f2=some r5):Con D Tryz.prog 207 [(.slc (vwb qak s1)),.func (.func f2_k) f2_cs] (.bool r5):=by
 refine zP call207 func207 rfl ntmps207 fun X w hT=>?_
 simp only [qcl] at h
 refine zs<|zr ?_
 refine zU<|zl<|zn<|zs<|zr ?_
 refine zU ?_
 obtain ⟨r6,h7,h⟩:=zB h
 refine zc (ql4 s1 f2 f2_k f2_cs f2_h _ h7) ?_
 refine zU<|zl<|zn<|zq ?_
 cases h
 exact zT results207
theorem qol {D:Prop} (v1:Value) (r2:Bool) (h:qdi v1=some r2):Con D Tryz.prog 208 [(qak v1)] (.bool r2):=by
 refine zP call208 func208 rfl ntmps208 fun X w hT=>?_
 simp only [qdi] at h
 refine zs<|zr ?_
 refine zU<|zl<|zn<|zs<|zr ?_
 refine zU ?_
 obtain ⟨r3,h4,h⟩:=zB h
 refine zc (qls v1 _ h4) ?_
 refine zU<|zl<|zn<|zq ?_
 cases h
 exact zT results208
theorem qpr {D:Prop} (l1:List Value) (r2:Bool) (h:qgl l1=some r2):Con D Tryz.prog 154 [(.slc (vwb qak l1))] (.bool r2):=by
 refine zP call154 func154 rfl ntmps154 fun X w hT=>?_
 simp only [qgl] at h
 refine zs<|zr ?_
 refine zU<|zl<|zn<|zs<|zr ?_
 refine zU ?_
 obtain ⟨r3,h4,h⟩:=zB h
 refine zc (qkp l1 (fun (y5:Value)=>qdi y5) 208 [] (fun y5 r h=>qol y5 r h) _ h4) ?_
 refine zU<|zl<|zn<|zq ?_
 cases h
 exact zT results154
theorem qxu {D:Prop} (t1:Table) (r2:Int) (h:qll t1=some r2):Con D Tryz.prog 89 [(qap t1)] (.int .i64 r2):=by
 refine zP call89 func89 rfl ntmps89 fun X w hT=>?_
 simp only [qll] at h
 refine zs<|zr ?_
 refine zU<|zl<|zn<|zs<|zs<|zr ?_
 refine zU ?_
 obtain ⟨r3,h4,h⟩:=zB h
 refine zc (qos t1.Name _ h4) ?_
 refine zU<|zl<|zn ?_
 obtain ⟨h5,h⟩|⟨h5,h⟩:=zI h
 refine zj<|zk<|zn<|zs<|zs<|zr ?_
 refine zU ?_
 obtain ⟨h6,h⟩|⟨h6,h⟩:=zI h
 refine zw 16 true ?_
 refine zh ?_
 refine zU<|zl<|zn ?_
 refine zi<|zs<|zr ?_
 refine zU<|zl<|zn<|zq<|zt ?_
 cases h
 exact zT results89
 refine zw 16 false ?_
 refine zg ?_
 refine zg ?_
 refine zg ?_
 refine zg ?_
 refine zU<|zl<|zn ?_
 obtain ⟨h7,h⟩|⟨h7,h⟩:=zI h
 refine zi<|zs<|zr ?_
 refine zU<|zl<|zn<|zq<|zt ?_
 cases h
 exact zT results89
 refine zj<|zk<|zn<|zs<|zs<|zr ?_
 refine zU<|zl<|zn<|zb ?_
 obtain ⟨o8,h9,h⟩:=zB h
 refine zO (fun (s:Int)=>⟨[(1,.loc 1 1 0 0),(23,.p (.slc (vwb PV.str t1.Attrs))),(24,.p (.int .i64 (t1.Attrs.length:Int))),(25,.p (.int .i64 s))],[(1,.arr 41 3 1 [.p (qap t1)])]⟩) (fun (o:(Unit) ⊕ (Int))=>match o with | .inl o10=>tE (cX Tryz.f89 X w D hT) (.exit 0) ⟨[(1,.loc 1 1 0 0)],[(1,.arr 41 3 1 [.p (qap t1)])]⟩ | .inr o11=>tR Tryz.prog Tryz.f89 (.int .i64 o11)) h9 ?_ ?_
 clear h h4 h5 h6 h7 h9
 intro t12 x h
 simp only [qhe] at h
 refine zs<|zr ?_
 refine zU<|zl<|zn<|zs ?_
 obtain ⟨h13,h⟩|⟨h13,h⟩:=zI h
 refine zi<|zk<|zn<|zs<|zb<|zs<|zr ?_
 obtain ⟨x14,h15,h15a,h15b,h⟩:=zX h
 refine zU<|zl<|zn<|zs<|zr ?_
 refine zU ?_
 obtain ⟨r16,h17,h⟩:=zB h
 refine zc (qos x14 _ h17) ?_
 refine zU ?_
 obtain ⟨h18,h⟩|⟨h18,h⟩:=zI h
 refine zw 33 false ?_
 refine zg ?_
 refine zg ?_
 refine zg ?_
 obtain ⟨h19,h⟩:=qab h
 obtain ⟨h20,h⟩:=qab h
 refine zg ?_
 refine zg ?_
 obtain ⟨r21,h22,h⟩:=zB h
 refine zc (ql3 (t1.Attrs.take (t12.toNat)) x14 _ h22) ?_
 refine zU<|zl<|zn ?_
 obtain ⟨h23,h⟩|⟨h23,h⟩:=zI h
 refine zi<|zs<|zr ?_
 refine zU<|zl<|zn<|zq<|yr<|zt ?_
 cases h
 exact ⟨rfl,zT results89⟩
 refine zj<|zk<|yn<|zn<|zr ?_
 refine zU<|zl ?_
 cases h
 exact ⟨rfl,zE⟩
 refine zw 33 true ?_
 refine zh ?_
 refine zU<|zl<|zn ?_
 refine zi<|zs<|zr ?_
 refine zU<|zl<|zn<|zq<|yr<|zt ?_
 cases h
 exact ⟨rfl,zT results89⟩
 refine zj<|zx<|ze ?_
 cases h
 exact ⟨rfl,zE⟩
 rcases o8 with ⟨⟩ | r24
 try simp only at h
 refine zA<|yh<|zn<|zs<|zr ?_
 refine zU<|zl<|zn<|zs<|zs<|zr ?_
 refine zU<|zl<|zn<|zb ?_
 obtain ⟨o25,h26,h⟩:=zB h
 refine zO (fun (s:Int×Int)=>⟨[(1,.loc 1 1 0 0),(5,.p (.int .i64 s.1)),(43,.p (.slc (vwb qay t1.Rows))),(44,.p (.int .i64 (t1.Rows.length:Int))),(45,.p (.int .i64 s.2))],[(1,.arr 41 3 1 [.p (qap t1)])]⟩) (fun (o:(Unit) ⊕ (Int))=>match o with | .inl o27=>tE (cX Tryz.f89 X w D hT) (.exit 2) ⟨[],[]⟩ | .inr o28=>tR Tryz.prog Tryz.f89 (.int .i64 o28)) h26 ?_ ?_
 clear h h4 h5 h6 h7 h9 h26
 intro s x h
 obtain ⟨l29,t30⟩:=s
 simp only [qih] at h
 dsimp only
 refine zs<|zr ?_
 refine zU<|zl<|zn<|zs ?_
 obtain ⟨h31,h⟩|⟨h31,h⟩:=zI h
 refine zi<|zk<|zn<|zs<|zb<|zs<|zr ?_
 obtain ⟨x32,h33,h33a,h33b,h⟩:=zX h
 refine zU<|zl<|zn<|zs<|zb<|zs<|zr ?_
 refine zU<|zl<|zn ?_
 obtain ⟨h34,h⟩|⟨h34,h⟩:=zI h
 refine zi<|zs<|zr ?_
 refine zU<|zl<|zn<|zq<|yr<|zt<|yr<|zt ?_
 cases h
 exact ⟨rfl,zT results89⟩
 refine zj<|zs<|zr ?_
 refine zU<|zl<|zn ?_
 obtain ⟨h35,h⟩|⟨h35,h⟩:=zI h
 refine zi<|zs<|zr ?_
 refine zU<|zl<|zn<|zq<|yr<|zt<|yr<|zt ?_
 cases h
 exact ⟨rfl,zT results89⟩
 refine zj<|zs<|zr ?_
 refine zU ?_
 obtain ⟨r36,h37,h⟩:=zB h
 refine zc (qpr x32.Values _ h37) ?_
 refine zU<|zl<|zn ?_
 obtain ⟨h38,h⟩|⟨h38,h⟩:=zI h
 refine zj<|zk<|yn<|zn<|zr ?_
 refine zU<|zl<|yn<|zn<|zr ?_
 refine zU<|zl ?_
 cases h
 exact ⟨rfl,zE⟩
 refine zi<|zs<|zr ?_
 refine zU<|zl<|zn<|zq<|yr<|zt<|yr<|zt ?_
 cases h
 exact ⟨rfl,zT results89⟩
 refine zj<|zx<|ze ?_
 cases h
 exact ⟨rfl,zE⟩
 rcases o25 with ⟨⟩ | r39
 try simp only at h
 refine zA<|yh<|zn<|zs<|zr ?_
 refine zU<|zl<|zn<|zq ?_
 cases h
 exact zT results89
 try simp only at h
 refine zZ fun s hq=>?_
 refine yr<|zt ?_
 cases h
 exact hq
 try simp only at h
 refine zZ fun s hq=>?_
 refine yr<|zt ?_
 cases h
 exact hq
 refine zi<|zs<|zr ?_
 refine zU<|zl<|zn<|zq<|zt ?_
 cases h
 exact zT results89
theorem qmv (t1:Table) (l2:Linkage) (r3:Int) (h:qhf t1 l2=some r3):Con False Tryz.prog 51 [(qap t1),(qai l2)] (.int .i64 r3):=by
 refine zP call51 func51 rfl ntmps51 fun X w hT=>?_
 simp only [qhf] at h
 refine zs<|zr ?_
 refine zU<|zl<|zn<|zs<|zs<|zr ?_
 refine zU ?_
 obtain ⟨r4,h5,h⟩:=zB h
 refine zc (qxu t1 _ h5) ?_
 refine zU<|zl<|zn<|zs<|zr ?_
 refine zU<|zl<|zn ?_
 obtain ⟨h6,h⟩|⟨h6,h⟩:=zI h
 refine zi<|zs<|zr ?_
 refine zU<|zl<|zn<|zq<|zt ?_
 cases h
 exact zT results51
 refine zj<|zk<|zn<|zs<|zs<|zr ?_
 refine zU ?_
 obtain ⟨r7,h8,h⟩:=zB h
 refine zc (quk (t1.Attrs.length:Int) l2 _ h8) ?_
 refine zU<|zl<|zn<|zs<|zr ?_
 refine zU<|zl<|zn ?_
 obtain ⟨h9,h⟩|⟨h9,h⟩:=zI h
 refine zi<|zs<|zr ?_
 refine zU<|zl<|zn<|zq<|zt ?_
 cases h
 exact zT results51
 refine zj<|zk<|zn<|zs<|zs<|zr ?_
 refine zU<|zl<|zn ?_
 obtain ⟨h10,h⟩|⟨h10,h⟩:=zI h
 refine zi<|zs<|zr ?_
 refine zU<|zl<|zn<|zq<|zt ?_
 cases h
 exact zT results51
 refine zj<|zk<|zn<|zs<|zr ?_
 refine zU<|zl<|zn<|zq ?_
 cases h
 exact zT results51
theorem qk8 {D:Prop} (s1:List (List Similar)) (f2:(List Similar)→Option (Bool)) (f2_k:FuncId) (f2_cs:List PV) (f2_h:∀(y3:List Similar) (r4:Bool),f2 y3=some r4→Con D Tryz.prog f2_k ((.slc (vwb qal y3)) :: f2_cs) (.bool r4)) (r5:Int) (h:qcp s1 f2=some r5):Con D Tryz.prog 111 [(.slc (vwb (qat qal) s1)),.func (.func f2_k) f2_cs] (.int .i64 r5):=by
 refine zP call111 func111 rfl ntmps111 fun X w hT=>?_
 simp only [qcp] at h
 refine zs<|zr ?_
 refine zU<|zl<|zn<|zs<|zs<|zr ?_
 refine zU<|zl<|zn<|zb ?_
 obtain ⟨o6,h7,h⟩:=zB h
 refine zO (fun (s:Int)=>⟨[(0,.p (.slc (vwb (qat qal) s1))),(1,.p (.func (.func f2_k) f2_cs)),(7,.p (.int .i64 (s1.length:Int))),(8,.p (.int .i64 s))],[]⟩) (fun (o:(Unit) ⊕ (Int))=>match o with | .inl o8=>tE (cX Tryz.f111 X w D hT) (.exit 0) ⟨[],[]⟩ | .inr o9=>tR Tryz.prog Tryz.f111 (.int .i64 o9)) h7 ?_ ?_
 clear h h7
 intro t10 x h
 simp only [qbg] at h
 refine zs<|zr ?_
 refine zU<|zl<|zn<|zs ?_
 obtain ⟨h11,h⟩|⟨h11,h⟩:=zI h
 refine zi<|zk<|zn<|zs<|zb<|zs<|zr ?_
 refine zU<|zl<|zn<|zs<|zr ?_
 obtain ⟨x12,h13,h13a,h13b,h⟩:=zX h
 refine zU ?_
 obtain ⟨r14,h15,h⟩:=zB h
 refine zc (f2_h x12 _ h15) ?_
 refine zl<|zn ?_
 obtain ⟨h16,h⟩|⟨h16,h⟩:=zI h
 refine zi<|zs<|zr ?_
 refine zU<|zl<|zn<|zq<|yr<|zt ?_
 cases h
 exact ⟨rfl,zT results111⟩
 refine zj<|zk<|yn<|zn<|zr ?_
 refine zU<|zl ?_
 cases h
 exact ⟨rfl,zE⟩
 refine zj<|zx<|ze ?_
 cases h
 exact ⟨rfl,zE⟩
 rcases o6 with ⟨⟩ | r17
 try simp only at h
 refine zA<|yh<|zn<|zs<|zr ?_
 refine zU<|zl<|zn<|zq ?_
 cases h
 exact zT results111
 try simp only at h
 refine zZ fun s hq=>?_
 refine yr<|zt ?_
 cases h
 exact hq
theorem qkg {D:Prop} (s1:List Similar) (f2:Similar→Option (Bool)) (f2_k:FuncId) (f2_cs:List PV) (f2_h:∀(y3:Similar) (r4:Bool),f2 y3=some r4→Con D Tryz.prog f2_k ((qal y3) :: f2_cs) (.bool r4)) (r5:Int) (h:qb9 s1 f2=some r5):Con D Tryz.prog 173 [(.slc (vwb qal s1)),.func (.func f2_k) f2_cs] (.int .i64 r5):=by
 refine zP call173 func173 rfl ntmps173 fun X w hT=>?_
 simp only [qb9] at h
 refine zs<|zr ?_
 refine zU<|zl<|zn<|zs<|zs<|zr ?_
 refine zU<|zl<|zn<|zb ?_
 obtain ⟨o6,h7,h⟩:=zB h
 refine zO (fun (s:Int)=>⟨[(0,.p (.slc (vwb qal s1))),(1,.p (.func (.func f2_k) f2_cs)),(7,.p (.int .i64 (s1.length:Int))),(8,.p (.int .i64 s))],[]⟩) (fun (o:(Unit) ⊕ (Int))=>match o with | .inl o8=>tE (cX Tryz.f173 X w D hT) (.exit 0) ⟨[],[]⟩ | .inr o9=>tR Tryz.prog Tryz.f173 (.int .i64 o9)) h7 ?_ ?_
 clear h h7
 intro t10 x h
 simp only [qa7] at h
 refine zs<|zr ?_
 refine zU<|zl<|zn<|zs ?_
 obtain ⟨h11,h⟩|⟨h11,h⟩:=zI h
 refine zi<|zk<|zn<|zs<|zb<|zs<|zr ?_
 refine zU<|zl<|zn<|zs<|zr ?_
 obtain ⟨x12,h13,h13a,h13b,h⟩:=zX h
 refine zU ?_
 obtain ⟨r14,h15,h⟩:=zB h
 refine zc (f2_h x12 _ h15) ?_
 refine zl<|zn ?_
 obtain ⟨h16,h⟩|⟨h16,h⟩:=zI h
 refine zi<|zs<|zr ?_
 refine zU<|zl<|zn<|zq<|yr<|zt ?_
 cases h
 exact ⟨rfl,zT results173⟩
 refine zj<|zk<|yn<|zn<|zr ?_
 refine zU<|zl ?_
 cases h
 exact ⟨rfl,zE⟩
 refine zj<|zx<|ze ?_
 cases h
 exact ⟨rfl,zE⟩
 rcases o6 with ⟨⟩ | r17
 try simp only at h
 refine zA<|yh<|zn<|zs<|zr ?_
 refine zU<|zl<|zn<|zq ?_
 cases h
 exact zT results173
 try simp only at h
 refine zZ fun s hq=>?_
 refine yr<|zt ?_
 cases h
 exact hq
theorem qj7 {D:Prop} (s1:List Similar) (f2:Similar→Option (Bool)) (f2_k:FuncId) (f2_cs:List PV) (f2_h:∀(y3:Similar) (r4:Bool),f2 y3=some r4→Con D Tryz.prog f2_k ((qal y3) :: f2_cs) (.bool r4)) (r5:Bool) (h:qbh s1 f2=some r5):Con D Tryz.prog 113 [(.slc (vwb qal s1)),.func (.func f2_k) f2_cs] (.bool r5):=by
 refine zP call113 func113 rfl ntmps113 fun X w hT=>?_
 simp only [qbh] at h
 refine zs<|zr ?_
 refine zU<|zl<|zn<|zs<|zr ?_
 refine zU ?_
 obtain ⟨r6,h7,h⟩:=zB h
 refine zc (qkg s1 f2 f2_k f2_cs f2_h _ h7) ?_
 refine zU<|zl<|zn<|zq ?_
 cases h
 exact zT results113
theorem qps (c1:Similar) (c2:Row) (c3:Row) (r4:Bool) (h:qes c1 c2 c3=some r4):Con False Tryz.prog 114 [(qal c1),.imm [.int .i64 c2.ID,.slc (vwb qak c2.Values)],.imm [.int .i64 c3.ID,.slc (vwb qak c3.Values)]] (.bool r4):=by
 refine zP call114 func114 rfl ntmps114 fun X w hT=>?_
 simp only [qes] at h
 refine zs<|zr ?_
 refine zU<|zl<|zn<|zs<|zr ?_
 refine zU ?_
 obtain ⟨r5,h6,h⟩:=zB h
 refine zc (qku c2 c3 c1 _ h6) ?_
 refine zU<|zl<|zn<|zs<|zr ?_
 refine zU<|zl<|zn<|zq ?_
 cases h
 exact zT results114
theorem qrw (r1:List Similar) (c2:Row) (c3:Row) (r4:Bool) (h:qe3 r1 c2 c3=some r4):Con False Tryz.prog 112 [(.slc (vwb qal r1)),.imm [.int .i64 c2.ID,.slc (vwb qak c2.Values)],.imm [.int .i64 c3.ID,.slc (vwb qak c3.Values)]] (.bool r4):=by
 refine zP call112 func112 rfl ntmps112 fun X w hT=>?_
 simp only [qe3] at h
 refine zs<|zr ?_
 refine zU<|zl<|zn<|zs<|zr ?_
 refine zU ?_
 obtain ⟨r5,h6,h⟩:=zB h
 refine zc (qj7 r1 (fun (y7:Similar)=>qes y7 c2 c3) 114 [.imm [.int .i64 c2.ID,.slc (vwb qak c2.Values)],.imm [.int .i64 c3.ID,.slc (vwb qak c3.Values)]] (fun y7 r h=>qps y7 c2 c3 r h) _ h6) ?_
 refine zU<|zl<|zn<|zq ?_
 cases h
 exact zT results112
theorem qul (l1:Linkage) (a2:Row) (b3:Row) (r4:Int) (h:qjh l1 a2 b3=some r4):Con False Tryz.prog 73 [(qai l1),(qay a2),(qay b3)] (.int .i64 r4):=by
 refine zP call73 func73 rfl ntmps73 fun X w hT=>?_
 simp only [qjh] at h
 refine zs<|zr ?_
 refine zU<|zl<|zn<|zs<|zr ?_
 refine zU ?_
 obtain ⟨r5,h6,h⟩:=zB h
 refine zc (qk8 l1.Rules (fun (y7:List Similar)=>qe3 y7 a2 b3) 112 [.imm [.int .i64 a2.ID,.slc (vwb qak a2.Values)],.imm [.int .i64 b3.ID,.slc (vwb qak b3.Values)]] (fun y7 r h=>qrw y7 a2 b3 r h) _ h6) ?_
 refine zU<|zl<|zn<|zq ?_
 cases h
 exact zT results73
theorem qot {D:Prop} (k1:Int) (c2:Row) (c3:Row) (r4:Bool) (h:qfz k1 c2 c3=some r4):Con D Tryz.prog 155 [(.int .i64 k1),.imm [.int .i64 c2.ID,.slc (vwb qak c2.Values)],.imm [.int .i64 c3.ID,.slc (vwb qak c3.Values)]] (.bool r4):=by
 refine zP call155 func155 rfl ntmps155 fun X w hT=>?_
 simp only [qfz] at h
 refine zs<|zr ?_
 refine zU<|zl<|zn<|zs<|zd ?_
 obtain ⟨x5,h6,h6a,h6b,h⟩:=zX h
 obtain ⟨x7,h8,h8a,h8b,h⟩:=zX h
 refine yU ?_
 refine yd<|zn<|zq ?_
 cases h
 exact zT results155
theorem qql {D:Prop} (l1:Linkage) (a2:Row) (b3:Row) (r4:Bool) (h:qfj l1 a2 b3=some r4):Con D Tryz.prog 90 [(qai l1),(qay a2),(qay b3)] (.bool r4):=by
 refine zP call90 func90 rfl ntmps90 fun X w hT=>?_
 simp only [qfj] at h
 refine zs<|zr ?_
 refine zU<|zl<|zn<|zs<|zr ?_
 refine zU ?_
 obtain ⟨h5,h⟩|⟨h5,h⟩:=zI h
 refine zw 11 true ?_
 refine zh ?_
 refine zU<|zl<|zn<|zq ?_
 cases h
 exact zT results90
 refine zw 11 false ?_
 refine zg ?_
 refine zg ?_
 refine zg ?_
 obtain ⟨r6,h7,h⟩:=zB h
 refine zc (qfg l1.Block (fun (y8:Int)=>qfz y8 a2 b3) 155 [.imm [.int .i64 a2.ID,.slc (vwb qak a2.Values)],.imm [.int .i64 b3.ID,.slc (vwb qak b3.Values)]] (fun y8 r h=>qot y8 a2 b3 r h) _ h7) ?_
 refine zU<|zl<|zn<|zq ?_
 cases h
 exact zT results90
theorem qlu (t1:Table) (l2:Linkage) (r3:List Arr2_int) (h:qe4 t1 l2=some r3):Con False Tryz.prog 52 [(qap t1),(qai l2)] (.slc (vwb qac r3)):=by
 refine zP call52 func52 rfl ntmps52 fun X w hT=>?_
 simp only [qe4] at h
 refine zs<|zr ?_
 refine zU<|zl<|zn<|zs<|zr ?_
 refine zU<|zl<|zn<|zs<|zs<|zr ?_
 refine zU<|zl<|zn<|zb ?_
 obtain ⟨o4,h5,h⟩:=zB h
 refine zO (fun (s:List Arr2_int×Int)=>⟨[(2,.loc 2 1 0 0),(3,.loc 3 1 0 0),(5,.own 48 1 0 s.1.length),(11,.p (.slc (vwb qay t1.Rows))),(12,.p (.int .i64 (t1.Rows.length:Int))),(13,.p (.int .i64 s.2))],[(2,.arr 41 3 1 [.p (qap t1)]),(3,.arr 25 3 1 [.p (qai l2)]),(48,.arr 108 2 1 (vwb AV.p (vwb qac s.1)))]⟩) (fun (o6:List Arr2_int)=>tE (cX Tryz.f52 X w False hT) (.exit 0) ⟨[(5,.own 48 1 0 o6.length)],[(48,.arr 108 2 1 (vwb AV.p (vwb qac o6)))]⟩) h5 ?_ ?_
 clear h h5
 intro s x h
 obtain ⟨o7,t8⟩:=s
 simp only [qf0] at h
 dsimp only
 refine zs<|zr ?_
 refine zU<|zl<|zn<|zs ?_
 obtain ⟨h9,h⟩|⟨h9,h⟩:=zI h
 refine zi<|zk<|zn<|zs<|zb<|zs<|zr ?_
 obtain ⟨x10,h11,h11a,h11b,h⟩:=zX h
 refine zU<|zl<|zn<|zs<|zr ?_
 refine zU<|zl<|zn<|zb ?_
 obtain ⟨o12,h13,h⟩:=zB h
 refine zO (fun (s:List Arr2_int×Int)=>⟨[(2,.loc 2 1 0 0),(3,.loc 3 1 0 0),(5,.own 48 1 0 s.1.length),(6,.p (.int .i64 t8)),(7,.loc 7 1 0 0),(8,.p (.int .i64 s.2)),(11,.p (.slc (vwb qay t1.Rows))),(12,.p (.int .i64 (t1.Rows.length:Int))),(13,.p (.int .i64 t8))],[(2,.arr 41 3 1 [.p (qap t1)]),(3,.arr 25 3 1 [.p (qai l2)]),(7,.arr 66 2 1 [.p (qay x10)]),(48,.arr 108 2 1 (vwb AV.p (vwb qac s.1)))]⟩) (fun (o14:List Arr2_int)=>tE (cX Tryz.f52 X w False hT) (.exit 2) ⟨[(2,.loc 2 1 0 0),(3,.loc 3 1 0 0),(5,.own 48 1 0 o14.length),(11,.p (.slc (vwb qay t1.Rows))),(12,.p (.int .i64 (t1.Rows.length:Int))),(13,.p (.int .i64 t8))],[(2,.arr 41 3 1 [.p (qap t1)]),(3,.arr 25 3 1 [.p (qai l2)]),(48,.arr 108 2 1 (vwb AV.p (vwb qac o14)))]⟩) h13 ?_ ?_
 clear h h9 h11 h11a h11b h13
 intro s x h
 obtain ⟨o15,k16⟩:=s
 simp only [qcx] at h
 dsimp only
 refine zs<|zs<|zr ?_
 refine zU<|zl<|zn ?_
 obtain ⟨h17,h⟩|⟨h17,h⟩:=zI h
 refine zi<|zk<|zn<|zs<|zb<|zs<|zr ?_
 obtain ⟨x18,h19,h19a,h19b,h⟩:=zX h
 refine zU<|zl<|zn ?_
 obtain ⟨t20,h21,h⟩:=zB h
 refine zJ (fun (o22:Bool)=>tE (cX Tryz.f52 X w False hT) .normal ⟨[(2,.loc 2 1 0 0),(3,.loc 3 1 0 0),(5,.own 48 1 0 o15.length),(6,.p (.int .i64 t8)),(7,.loc 7 1 0 0),(8,.p (.int .i64 k16)),(11,.p (.slc (vwb qay t1.Rows))),(12,.p (.int .i64 (t1.Rows.length:Int))),(13,.p (.int .i64 t8)),(42,.p (.bool o22))],[(2,.arr 41 3 1 [.p (qap t1)]),(3,.arr 25 3 1 [.p (qai l2)]),(7,.arr 66 2 1 [.p (qay x10)]),(48,.arr 108 2 1 (vwb AV.p (vwb qac o15)))]⟩) t20 ?_ ?_
 replace h:=h21
 clear h21
 refine zr ?_
 refine zU ?_
 obtain ⟨r23,h24,h⟩:=zB h
 refine zc (qql l2 x10 x18 _ h24) ?_
 refine zU ?_
 obtain ⟨h25,h⟩|⟨h25,h⟩:=zI h
 refine zw 36 true ?_
 refine zg ?_
 refine zg ?_
 refine zg ?_
 obtain ⟨r26,h27,h⟩:=zB h
 replace h:=h.symm
 refine zc (qul l2 x10 x18 _ h27) ?_
 refine zg ?_
 refine zU<|zl ?_
 cases h
 exact ⟨rfl,zE⟩
 refine zw 36 false ?_
 refine zh ?_
 refine zU<|zl ?_
 cases h
 exact ⟨rfl,zE⟩
 try simp only at h
 refine zA<|zn ?_
 obtain ⟨h28,h⟩|⟨h28,h⟩:=zI h
 refine zi<|zr ?_
 obtain ⟨h29,h⟩:=qab h
 refine zU<|zl<|yn<|zn<|zr ?_
 refine zU<|zl ?_
 cases h
 exact ⟨rfl,zE⟩
 refine zj<|zk<|yn<|zn<|zr ?_
 refine zU<|zl ?_
 cases h
 exact ⟨rfl,zE⟩
 refine zj<|zx<|ze ?_
 cases h
 exact ⟨rfl,zE⟩
 try simp only at h
 refine zA<|yh<|yn<|zn<|zr ?_
 refine zU<|zl ?_
 cases h
 exact ⟨rfl,zE⟩
 refine zj<|zx<|ze ?_
 cases h
 exact ⟨rfl,zE⟩
 try simp only at h
 refine zA<|yh<|zn<|zs<|zr ?_
 refine zU<|zl<|zn<|zq ?_
 cases h
 exact zT results52
theorem qrx (t1:Table) (l2:Linkage) (r3:List Arr2_int64×Int) (h:qho t1 l2=some r3):Con False Tryz.prog 17 [(qap t1),(qai l2)] (.tup [(.slc (vwb qbu r3.1)),(.int .i64 r3.2)]):=by
 refine zP call17 func17 rfl ntmps17 fun X w hT=>?_
 simp only [qho] at h
 refine zs<|zr ?_
 refine zU<|zl<|zn<|zs<|zs<|zr ?_
 refine zU ?_
 obtain ⟨r4,h5,h⟩:=zB h
 refine zc (qmv t1 l2 _ h5) ?_
 refine zU<|zl<|zn<|zs<|zr ?_
 refine zU<|zl<|zn ?_
 obtain ⟨h6,h⟩|⟨h6,h⟩:=zI h
 refine zi<|zs<|zr ?_
 refine zU<|zl<|zn<|zq<|zt ?_
 cases h
 exact zT results17
 refine zj<|zk<|zn<|zs<|zr ?_
 refine zU<|zl<|zn<|zs<|zs<|zr ?_
 refine zU ?_
 obtain ⟨r7,h8,h⟩:=zB h
 refine zc (qlu t1 l2 _ h8) ?_
 refine zU<|zl<|zn<|zb ?_
 obtain ⟨o9,h10,h⟩:=zB h
 refine zO (fun (s:List Arr2_int64×Int)=>⟨[(2,.loc 2 1 0 0),(7,.own 41 1 0 s.1.length),(18,.p (.slc (vwb qac r7))),(19,.p (.int .i64 (r7.length:Int))),(20,.p (.int .i64 s.2))],[(2,.arr 41 3 1 [.p (qap t1)]),(41,.arr 58 2 1 (vwb AV.p (vwb qbu s.1)))]⟩) (fun (o11:List Arr2_int64)=>tE (cX Tryz.f17 X w False hT) (.exit 0) ⟨[(7,.own 41 1 0 o11.length)],[(41,.arr 58 2 1 (vwb AV.p (vwb qbu o11)))]⟩) h10 ?_ ?_
 clear h h5 h6 h8 h10
 intro s x h
 obtain ⟨o12,t13⟩:=s
 simp only [qf1] at h
 dsimp only
 refine zs<|zr ?_
 refine zU<|zl<|zn<|zs ?_
 obtain ⟨h14,h⟩|⟨h14,h⟩:=zI h
 refine zi<|zk<|zn<|zs<|zb<|zs<|zr ?_
 obtain ⟨x15,h16,h16a,h16b,h⟩:=zX h
 refine zU<|zl<|zn<|zd ?_
 obtain ⟨x17,h18,h18a,h18b,h⟩:=zX h
 obtain ⟨x19,h20,h20a,h20b,h⟩:=zX h
 obtain ⟨h21,h⟩:=qab h
 refine yU ?_
 refine yd<|yn<|zn<|zr ?_
 refine zU<|zl ?_
 cases h
 exact ⟨rfl,zE⟩
 refine zj<|zx<|ze ?_
 cases h
 exact ⟨rfl,zE⟩
 try simp only at h
 refine zA<|yh<|zn<|zs<|zr ?_
 refine zU<|zl<|zn<|zq ?_
 cases h
 exact zT results17
theorem qnz {D:Prop} (a1:List Arr2_int64) (b2:List Arr2_int64) (r3:Bool) (h:qc2 a1 b2=some r3):Con D Tryz.prog 18 [(.slc (vwb qbu a1)),(.slc (vwb qbu b2))] (.bool r3):=by
 refine zP call18 func18 rfl ntmps18 fun X w hT=>?_
 simp only [qc2] at h
 refine zs<|zr ?_
 refine zU<|zl<|zn<|zs<|zs<|zr ?_
 refine zU<|zl<|zn ?_
 obtain ⟨h4,h⟩|⟨h4,h⟩:=zI h
 refine zi<|zs<|zr ?_
 refine zU<|zl<|zn<|zq<|zt ?_
 cases h
 exact zT results18
 refine zj<|zk<|zn<|zs<|zs<|zr ?_
 refine zU<|zl<|zn<|zb ?_
 obtain ⟨o5,h6,h⟩:=zB h
 refine zO (fun (s:Int)=>⟨[(0,.p (.slc (vwb qbu a1))),(1,.p (.slc (vwb qbu b2))),(5,.p (.int .i64 s))],[]⟩) (fun (o:(Unit) ⊕ (Bool))=>match o with | .inl o7=>tE (cX Tryz.f18 X w D hT) (.exit 0) ⟨[],[]⟩ | .inr o8=>tR Tryz.prog Tryz.f18 (.bool o8)) h6 ?_ ?_
 clear h h4 h6
 intro i9 x h
 simp only [qen] at h
 refine zs<|zs<|zr ?_
 refine zU<|zl<|zn ?_
 obtain ⟨h10,h⟩|⟨h10,h⟩:=zI h
 refine zi<|zk<|zn<|zs<|zb<|zs<|zd ?_
 obtain ⟨x11,h12,h12a,h12b,h⟩:=zX h
 obtain ⟨x13,h14,h14a,h14b,h⟩:=zX h
 refine yU ?_
 refine yd<|zn ?_
 obtain ⟨h15,h⟩|⟨h15,h⟩:=zI h
 refine zj<|zk<|yn<|zn<|zr ?_
 refine zU<|zl ?_
 cases h
 exact ⟨rfl,zE⟩
 refine zi<|zs<|zr ?_
 refine zU<|zl<|zn<|zq<|yr<|zt ?_
 cases h
 exact ⟨rfl,zT results18⟩
 refine zj<|zx<|ze ?_
 cases h
 exact ⟨rfl,zE⟩
 rcases o5 with ⟨⟩ | r16
 try simp only at h
 refine zA<|yh<|zn<|zs<|zr ?_
 refine zU<|zl<|zn<|zq ?_
 cases h
 exact zT results18
 try simp only at h
 refine zZ fun s hq=>?_
 refine yr<|zt ?_
 cases h
 exact hq
theorem qxv {D:Prop} (n1:Int) (e2:List Arr2_int) (r3:Int) (h:qlm n1 e2=some r3):Con D Tryz.prog 92 [(.int .i64 n1),(.slc (vwb qac e2))] (.int .i64 r3):=by
 refine zP call92 func92 rfl ntmps92 fun X w hT=>?_
 simp only [qlm] at h
 refine zs<|zr ?_
 refine zU<|zl<|zn<|zs<|zb ?_
 obtain ⟨t4,h5,h⟩:=zB h
 refine zJ (fun (o6:Bool)=>tE (cX Tryz.f92 X w D hT) .normal ⟨[(0,.p (.int .i64 n1)),(1,.p (.slc (vwb qac e2))),(7,.p (.bool o6))],[]⟩) t4 ?_ ?_
 replace h:=h5
 clear h5
 refine zr ?_
 refine zU ?_
 obtain ⟨h7,h⟩|⟨h7,h⟩:=zI h
 refine zw 10 true ?_
 refine zh ?_
 refine zU<|zl ?_
 cases h
 exact ⟨rfl,zE⟩
 replace h:=h.symm
 refine zw 10 false ?_
 refine zg ?_
 refine zg ?_
 refine zg ?_
 refine zU<|zl ?_
 cases h
 exact ⟨rfl,zE⟩
 try simp only at h
 refine zA<|zn ?_
 obtain ⟨h8,h⟩|⟨h8,h⟩:=zI h
 refine zi<|zs<|zr ?_
 refine zU<|zl<|zn<|zq<|yr<|zt ?_
 cases h
 exact zT results92
 refine zj<|zs<|zr ?_
 refine zU<|zl<|zn ?_
 obtain ⟨h9,h⟩|⟨h9,h⟩:=zI h
 refine zi<|zs<|zr ?_
 refine zU<|zl<|zn<|zq<|yr<|zt ?_
 cases h
 exact zT results92
 refine zj<|zk<|yn<|zn<|zs<|zs<|zr ?_
 refine zU<|zl<|zn<|zb ?_
 obtain ⟨o10,h11,h⟩:=zB h
 refine zO (fun (s:Int)=>⟨[(0,.p (.int .i64 n1)),(18,.p (.slc (vwb qac e2))),(19,.p (.int .i64 (e2.length:Int))),(20,.p (.int .i64 s))],[]⟩) (fun (o:(Unit) ⊕ (Int))=>match o with | .inl o12=>tE (cX Tryz.f92 X w D hT) (.exit 1) ⟨[],[]⟩ | .inr o13=>tR Tryz.prog Tryz.f92 (.int .i64 o13)) h11 ?_ ?_
 clear h h8 h9 h11
 intro t14 x h
 simp only [qii] at h
 refine zs<|zr ?_
 refine zU<|zl<|zn<|zs ?_
 obtain ⟨h15,h⟩|⟨h15,h⟩:=zI h
 refine zi<|zk<|zn<|zs<|zb<|zs<|zr ?_
 obtain ⟨x16,h17,h17a,h17b,h⟩:=zX h
 refine zU<|zl<|zn<|zs<|zr ?_
 refine zU ?_
 obtain ⟨h18,h⟩|⟨h18,h⟩:=zI h
 refine zw 30 true ?_
 refine zh ?_
 refine zU<|zl<|zn ?_
 refine zi<|zs<|zr ?_
 refine zU<|zl<|zn<|zq<|yr<|zt ?_
 cases h
 exact ⟨rfl,zT results92⟩
 refine zw 30 false ?_
 refine zg ?_
 refine zg ?_
 refine zg ?_
 refine zg ?_
 refine zg ?_
 refine zg ?_
 refine zg ?_
 refine zU<|zl<|zn ?_
 obtain ⟨h19,h⟩|⟨h19,h⟩:=zI h
 refine zi<|zs<|zr ?_
 refine zU<|zl<|zn<|zq<|yr<|zt ?_
 cases h
 exact ⟨rfl,zT results92⟩
 refine zj<|zk<|yn<|zn<|zr ?_
 refine zU<|zl ?_
 cases h
 exact ⟨rfl,zE⟩
 refine zj<|zx<|ze ?_
 cases h
 exact ⟨rfl,zE⟩
 rcases o10 with ⟨⟩ | r20
 try simp only at h
 refine zA<|yh<|zn<|zs<|zr ?_
 refine zU<|zl<|zn<|zq ?_
 cases h
 exact zT results92
 try simp only at h
 refine zZ fun s hq=>?_
 refine yr<|zt ?_
 cases h
 exact hq
theorem qqm {D:Prop} (n1:Int) (e2:List Arr2_int) (r3:List (List Int)) (h:qha n1 e2=some r3):Con D Tryz.prog 93 [(.int .i64 n1),(.slc (vwb qac e2))] (.slc (vwb (qat (PV.int .i64)) r3)):=by
 refine zP call93 func93 rfl ntmps93 fun X w hT=>?_
 simp only [qha] at h
 refine zs<|zr ?_
 refine zU<|zl<|zn<|zs<|zr ?_
 obtain ⟨h4,h⟩:=qab h
 obtain ⟨h5,h⟩:=qab h
 refine zW 2 ?_
 refine zM ⟨[(1,.p (.slc (vwb qac e2))),(10,.own 10 1 0 ((vuh (n1).toNat ([]:List Int))).length)],((10,.arr 23 1 1 (qh3 10 3 1 1 (PV.int .i64) (vuh (n1).toNat ([]:List Int)))) :: qi4 10 3 1 1 (PV.int .i64) (vuh (n1).toNat ([]:List Int)) [])⟩ ?_
 refine zU<|zl<|zn<|zs<|zs<|zr ?_
 refine zU<|zl<|zn<|zb ?_
 obtain ⟨o6,h7,h⟩:=zB h
 refine zO (fun (s:List (List Int)×Int)=>⟨[(5,.own 10 1 0 s.1.length),(11,.p (.slc (vwb qac e2))),(12,.p (.int .i64 (e2.length:Int))),(13,.p (.int .i64 s.2))],((10,.arr 23 1 1 (qh3 10 3 1 1 (PV.int .i64) s.1)) :: qi4 10 3 1 1 (PV.int .i64) s.1 [])⟩) (fun (o8:List (List Int))=>tE (cX Tryz.f93 X w D hT) (.exit 0) ⟨[(5,.own 10 1 0 o8.length)],((10,.arr 23 1 1 (qh3 10 3 1 1 (PV.int .i64) o8)) :: qi4 10 3 1 1 (PV.int .i64) o8 [])⟩) h7 ?_ ?_
 clear h h4 h5 h7
 intro s x h
 obtain ⟨o9,t10⟩:=s
 simp only [qe5] at h
 dsimp only
 refine zs<|zr ?_
 refine zU<|zl<|zn<|zs ?_
 obtain ⟨h11,h⟩|⟨h11,h⟩:=zI h
 refine zi<|zk<|zn<|zs<|zb<|zs<|zr ?_
 obtain ⟨x12,h13,h13a,h13b,h⟩:=zX h
 refine zU<|zl<|zn<|zd ?_
 obtain ⟨x14,h15,h15a,h15b,h⟩:=zX h
 obtain ⟨h16,h⟩:=qab h
 refine yU ?_
 refine ydS ?_
 refine yn<|zn ?_
 refine zL ⟨[(5,.own 10 1 0 ((o9.set x12.x0.toNat (x14++[x12.x1]))).length),(11,.p (.slc (vwb qac e2))),(12,.p (.int .i64 (e2.length:Int))),(13,.p (.int .i64 t10))],((10,.arr 23 1 1 (qh3 10 3 1 1 (PV.int .i64) (o9.set x12.x0.toNat (x14++[x12.x1])))) :: qi4 10 3 1 1 (PV.int .i64) (o9.set x12.x0.toNat (x14++[x12.x1])) [])⟩ ?_
 refine zr ?_
 refine zU<|zl ?_
 cases h
 exact ⟨rfl,zE⟩
 refine zj<|zx<|ze ?_
 cases h
 exact ⟨rfl,zE⟩
 try simp only at h
 refine zA<|yh<|zn<|zs<|zs<|zr ?_
 refine zU<|zl<|zn<|zb ?_
 obtain ⟨o17,h18,h⟩:=zB h
 refine zO (fun (s:List (List Int)×Int)=>⟨[(5,.own 10 1 0 s.1.length),(32,.p (.int .i64 ((o6.length:Nat):Int))),(33,.p (.int .i64 s.2))],((10,.arr 23 1 1 (qh3 10 3 1 1 (PV.int .i64) s.1)) :: qi4 10 3 1 1 (PV.int .i64) s.1 [])⟩) (fun (o19:List (List Int))=>tE (cX Tryz.f93 X w D hT) (.exit 2) ⟨[(5,.own 10 1 0 o19.length)],((10,.arr 23 1 1 (qh3 10 3 1 1 (PV.int .i64) o19)) :: qi4 10 3 1 1 (PV.int .i64) o19 [])⟩) h18 ?_ ?_
 clear h h4 h5 h7 h18
 intro s x h
 obtain ⟨o20,t21⟩:=s
 simp only [qe6] at h
 dsimp only
 refine zs<|zr ?_
 refine zU<|zl<|zn<|zs ?_
 obtain ⟨h22,h⟩|⟨h22,h⟩:=zI h
 refine zi<|zk<|zn<|zs<|zb<|zs<|zr ?_
 refine zU<|zl<|zn<|zs<|zr ?_
 obtain ⟨x23,h24,h24a,h24b,h⟩:=zX h
 refine zU ?_
 obtain ⟨l25,h26,h⟩:=zB h
 refine zSI srt45 h26 ?_
 have h27:=qwp h26
 refine zM ⟨[(5,.own 10 1 0 ((o20.set t21.toNat l25)).length),(8,.p (.int .i64 t21)),(32,.p (.int .i64 ((o6.length:Nat):Int))),(33,.p (.int .i64 t21)),(40,.p (.tup []))],((10,.arr 23 1 1 (qh3 10 3 1 1 (PV.int .i64) (o20.set t21.toNat l25))) :: qi4 10 3 1 1 (PV.int .i64) (o20.set t21.toNat l25) [])⟩ ?_
 clear h27
 refine zl<|zn<|zr ?_
 obtain ⟨x28,h29,h29a,h29b,h⟩:=zX h
 have h29B:=eq_true (by simpa only [vt2] using h29b)
 refine zU ?_
 obtain ⟨l30,h31,h⟩:=zB h
 refine zCI cpt46 h31 ?_
 have h32:=q1a h31
 refine zW 2 ?_
 refine zM ⟨[(5,.own 10 1 0 (((o20.set t21.toNat l25).set t21.toNat l30)).length),(32,.p (.int .i64 ((o6.length:Nat):Int))),(33,.p (.int .i64 t21))],((10,.arr 23 1 1 (qh3 10 3 1 1 (PV.int .i64) ((o20.set t21.toNat l25).set t21.toNat l30))) :: qi4 10 3 1 1 (PV.int .i64) ((o20.set t21.toNat l25).set t21.toNat l30) [])⟩ ?_
 refine zl<|yn<|zn<|zr ?_
 refine zU<|zl ?_
 cases h
 exact ⟨rfl,zE⟩
 refine zj<|zx<|ze ?_
 cases h
 exact ⟨rfl,zE⟩
 try simp only at h
 refine zA<|yh<|zn<|zs<|zr ?_
 refine zU<|zl<|zn<|zq ?_
 cases h
 exact zT results93
end Go.Proofs.YtmlegeeinnkhkaaGreat
namespace Go.Proofs
open Go Go.Ab Go.Shelf Tryz
def YtmlegeeinnkhkaaGreat.grow157_ren:Go.Shelf.Ren:=⟨fun | 4=>157 | n=>n,fun | 22=>106 | 25=>108 | 3=>3 | 4=>4 | 9=>9 | 20=>20 | 0=>0 | n=>n,fun | n=>n⟩
theorem YtmlegeeinnkhkaaGreat.grow157:Go.Proofs.Lays8.n4 Tryz.prog YtmlegeeinnkhkaaGreat.grow157_ren:={
  mixed:=by kernel_rfl
  f4:=⟨Tryz.f157.name,by decide,func157.trans (congrArg some (by kernel_rfl))⟩
  t0:=underlying0
  a0:=isAgg0
  z0:=sizeOf0
  v0:=zeroValue0
  t3:=underlying3
  a3:=isAgg3
  z3:=sizeOf3
  v3:=zeroValue3
  t4:=underlying4
  a4:=isAgg4
  z4:=sizeOf4
  v4:=zeroValue4
  t9:=underlying9
  a9:=isAgg9
  z9:=sizeOf9
  v9:=zeroValue9
  t20:=underlying20
  a20:=isAgg20
  z20:=sizeOf20
  v20:=zeroValue20
  t22:=underlying106
  a22:=isAgg106
  z22:=sizeOf106
  v22:=zeroValue106 }
theorem YtmlegeeinnkhkaaGreat.grw157:Grw Tryz.prog 157 108 2:=⟨call157,fun n w h0 hn=>by
  obtain ⟨m,rfl⟩:=Int.eq_ofNat_of_zero_le h0;have hi:Tryz.prog.info? 108=some Tryz.t108:=by kernel_rfl
  obtain ⟨z,hz,hzs⟩:∃z,Tryz.t108.zero=some z∧z.cells.size=2:=⟨_,rfl,rfl⟩;cases m with
  | zero =>
    refine (Any8.slices_Grow_room YtmlegeeinnkhkaaGreat.grow157 none 0 0 0 w (vuv _) (by omega) (by omega) (vuv _)).mono fun e' w' h=>?_
    obtain ⟨rfl,rfl⟩:=h;exact ⟨_,rfl,World.ownsRow_nil _ _ _ _,RowKit.Below.refl _ _,vuv _⟩
  | succ m =>
    have hby:Tryz.t108.bytes=16:=rfl;refine (Any8.slices_Grow_grow YtmlegeeinnkhkaaGreat.grow157 Tryz.t108 z hi hz (by decide) none 0 0 (m+1) [] w (vuv _) (by omega) (by rw [hby];omega) (by omega) (by simp) (fun _=>rfl) (fun a h=>by cases h)).mono fun e' w' h=>?_
    obtain ⟨rfl,rfl⟩:=h;have hge:=grownCap_ge w (0+(m+1)) 0 108;refine ⟨_,rfl,World.ownsRow_made w.drew _ _ (vuv _) (grownCap_le_maxLen w (0+(m+1)) 0 108 (by unfold maxLen;omega)) ?_,(RowKit.Below.refl _ w).drew.alloc (vuv _) _,Nat.le_succ _⟩;simp only [Array.size_append,size_zeroCells,hzs,List.size_toArray,vt0];generalize hG:grownCap w (0+(m+1)) 0 108=G at hge;show 0+(0+(m+1) - 0) * 2+(grownCap w (0+(m+1)) 0 108 - (0+(m+1))) * 2=grownCap w (0+(m+1)) 0 108 * 2;rw [hG];omega⟩
end Go.Proofs
namespace Go.Proofs.YtmlegeeinnkhkaaGreat
open Go Go.Ab Tryz
theorem qn0 {D:Prop} (s1:List (List Arr2_int)) (r2:List Arr2_int) (h:qej s1=some r2):Con D Tryz.prog 94 [(.slc (vwb (qat qac) s1))] (.slc (vwb qac r2)):=by
 refine zP call94 func94 rfl ntmps94 fun X w hT=>?_
 simp only [qej] at h
 refine zs<|zr ?_
 refine zU<|zl<|zn<|zs<|zr ?_
 refine zU<|zl<|zn<|zs<|zs<|zr ?_
 refine zU<|zl<|zn<|zb ?_
 obtain ⟨s3,h4,h⟩:=zB h
 refine zO (fun (s:Int×Int)=>⟨[(0,.p (.slc (vwb (qat qac) s1))),(3,.p (.int .i64 s.1)),(9,.p (.slc (vwb (qat qac) s1))),(10,.p (.int .i64 (s1.length:Int))),(11,.p (.int .i64 s.2))],[]⟩) (fun (o5:Int)=>tE (cX Tryz.f94 X w D hT) (.exit 0) ⟨[(0,.p (.slc (vwb (qat qac) s1))),(3,.p (.int .i64 o5))],[]⟩) h4 ?_ ?_
 clear h h4
 intro s x h
 obtain ⟨s6,t7⟩:=s
 simp only [qb4] at h
 dsimp only
 refine zs<|zr ?_
 refine zU<|zl<|zn<|zs ?_
 obtain ⟨h8,h⟩|⟨h8,h⟩:=zI h
 refine zi<|zk<|zn<|zs<|zb<|zs<|zr ?_
 obtain ⟨x9,h10,h10a,h10b,h⟩:=zX h
 refine zU<|zl<|zn<|zs<|zr ?_
 refine zU<|zl<|zn<|zs<|zr ?_
 refine zU<|zl<|zn ?_
 obtain ⟨h11,h⟩|⟨h11,h⟩:=zI h
 cases h
 refine zj<|zk<|yn<|zn<|zr ?_
 refine zU<|zl ?_
 cases h
 exact ⟨rfl,zE⟩
 refine zj<|zx<|ze ?_
 cases h
 exact ⟨rfl,zE⟩
 try simp only at h
 refine zA<|yh<|zn<|zs<|zr ?_
 refine zU ?_
 obtain ⟨h12,h⟩:=qab h
 obtain ⟨h13,h⟩:=qab h
 refine zN grw157 24 h12 h13 ?_
 refine zU<|zl<|zn<|zs<|zs<|zr ?_
 refine zU<|zl<|zn<|zb ?_
 obtain ⟨n14,h15,h⟩:=zB h
 refine zO (fun (s:List Arr2_int×Int)=>⟨[(6,.own 24 1 0 s.1.length),(25,.p (.slc (vwb (qat qac) s1))),(26,.p (.int .i64 (s1.length:Int))),(27,.p (.int .i64 s.2))],[(24,.arr 108 2 1 (vwb AV.p (vwb qac s.1)))]⟩) (fun (o16:List Arr2_int)=>tE (cX Tryz.f94 X w D hT) (.exit 2) ⟨[(6,.own 24 1 0 o16.length)],[(24,.arr 108 2 1 (vwb AV.p (vwb qac o16)))]⟩) h15 ?_ ?_
 clear h h4 h12 h13 h15
 intro s x h
 obtain ⟨n17,t18⟩:=s
 simp only [qb5] at h
 dsimp only
 refine zs<|zr ?_
 refine zU<|zl<|zn<|zs ?_
 obtain ⟨h19,h⟩|⟨h19,h⟩:=zI h
 refine zi<|zk<|zn<|zs<|zb<|zs<|zr ?_
 obtain ⟨x20,h21,h21a,h21b,h⟩:=zX h
 refine zU<|zl<|zn<|zr ?_
 obtain ⟨h22,h⟩:=qab h
 refine zU<|zl<|yn<|zn<|zr ?_
 refine zU<|zl ?_
 cases h
 exact ⟨rfl,zE⟩
 refine zj<|zx<|ze ?_
 cases h
 exact ⟨rfl,zE⟩
 try simp only at h
 refine zA<|yh<|zn<|zs<|zr ?_
 refine zU<|zl<|zn<|zq ?_
 cases h
 exact zT results94
theorem qti {D:Prop} (e1:List Arr2_int) (r2:List Arr2_int) (h:qij e1=some r2):Con D Tryz.prog 95 [(.slc (vwb qac e1))] (.slc (vwb qac r2)):=by
 refine zP call95 func95 rfl ntmps95 fun X w hT=>?_
 simp only [qij] at h
 refine zs<|zr ?_
 refine zU<|zl<|zn<|zs<|zr ?_
 obtain ⟨h3,h⟩:=qab h
 obtain ⟨h4,h⟩:=qab h
 refine zU<|zl<|zn<|zs<|zs<|zr ?_
 refine zU<|zl<|zn<|zb ?_
 obtain ⟨o5,h6,h⟩:=zB h
 refine zO (fun (s:List Arr2_int×Int)=>⟨[(3,.own 8 1 0 s.1.length),(9,.p (.slc (vwb qac e1))),(10,.p (.int .i64 (e1.length:Int))),(11,.p (.int .i64 s.2))],[(8,.arr 108 2 1 (vwb AV.p (vwb qac s.1)))]⟩) (fun (o7:List Arr2_int)=>tE (cX Tryz.f95 X w D hT) (.exit 0) ⟨[(3,.own 8 1 0 o7.length)],[(8,.arr 108 2 1 (vwb AV.p (vwb qac o7)))]⟩) h6 ?_ ?_
 clear h h3 h4 h6
 intro s x h
 obtain ⟨o8,t9⟩:=s
 simp only [qgm] at h
 dsimp only
 refine zs<|zr ?_
 refine zU<|zl<|zn<|zs ?_
 obtain ⟨h10,h⟩|⟨h10,h⟩:=zI h
 refine zi<|zk<|zn<|zs<|zb<|zs<|zr ?_
 obtain ⟨x11,h12,h12a,h12b,h⟩:=zX h
 refine zU<|zl<|zn<|zr ?_
 obtain ⟨x13,h14,h14a,h14b,h⟩:=zX h
 refine zU<|zl<|yn<|zn<|zr ?_
 refine zU<|zl ?_
 cases h
 exact ⟨rfl,zE⟩
 refine zj<|zx<|ze ?_
 cases h
 exact ⟨rfl,zE⟩
 try simp only at h
 refine zA<|yh<|zn<|zs<|zr ?_
 refine zU<|zl<|zn<|zq ?_
 cases h
 exact zT results95
theorem qxw {D:Prop} (n1:List (List Int)) (f2:Int) (r3:List Int) (h:qln n1 f2=some r3):Con D Tryz.prog 96 [(.slc (vwb (qat (PV.int .i64)) n1)),(.int .i64 f2)] (.slc (vwb (PV.int .i64) r3)):=by
 refine zP call96 func96 rfl ntmps96 fun X w hT=>?_
 simp only [qln] at h
 refine zs<|zr ?_
 refine zU<|zl<|zn<|zs<|zr ?_
 obtain ⟨h4,h⟩:=qab h
 obtain ⟨h5,h⟩:=qab h
 refine zU<|zl<|zn<|zs ?_
 obtain ⟨l6,h7,h⟩:=zB h
 replace h7:=vwz h7
 refine qnl (st':=⟨[(0,.p (.slc (vwb (qat (PV.int .i64)) n1))),(1,.p (.int .i64 f2)),(5,.own 12 1 0 l6.length)],[(12,.arr 4 1 1 (vwb AV.p (vwb PV.bool l6)))]⟩) (by simp only [go_sem,seval,←h7];all_goals ((repeat' refine vzq ?_ ?_) <;> first | rfl | (simp;done) | (simp;rfl) | (simp [*];done) | (simp [*];rfl))) ?_
 clear h7
 refine zr ?_
 obtain ⟨x8,h9,h9a,h9b,h⟩:=zX h
 refine zU<|zl<|zn<|zs<|zr ?_
 refine zU<|zl<|zn<|zs<|zs<|zr ?_
 refine zU<|zl<|zn<|zb ?_
 obtain ⟨o10,h11,h⟩:=zB h
 refine zO (fun (s:List Bool×List Int×Int)=>⟨[(0,.p (.slc (vwb (qat (PV.int .i64)) n1))),(5,.own 12 1 0 s.1.length),(6,.own 17 1 0 s.2.1.length),(7,.p (.int .i64 s.2.2))],[(12,.arr 4 1 1 (vwb AV.p (vwb PV.bool s.1))),(17,.arr 3 1 1 (vwb AV.p (vwb (PV.int .i64) s.2.1)))]⟩) (fun (o12:List Int)=>tE (cX Tryz.f96 X w D hT) (.exit 0) ⟨[(6,.own 17 1 0 o12.length)],[(17,.arr 3 1 1 (vwb AV.p (vwb (PV.int .i64) o12)))]⟩) h11 ?_ ?_
 clear h h4 h5 h9 h9a h9b h11
 intro s x h
 obtain ⟨s13,o14,i15⟩:=s
 simp only [qhh] at h
 dsimp only
 refine zs<|zs<|zr ?_
 refine zU<|zl<|zn ?_
 obtain ⟨h16,h⟩|⟨h16,h⟩:=zI h
 refine zi<|zk<|zn<|zs<|zb<|zs<|zr ?_
 obtain ⟨x17,h18,h18a,h18b,h⟩:=zX h
 obtain ⟨x19,h20,h20a,h20b,h⟩:=zX h
 refine zU<|zl<|zn<|zb ?_
 obtain ⟨o21,h22,h⟩:=zB h
 refine zO (fun (s:List Bool×List Int×Int)=>⟨[(0,.p (.slc (vwb (qat (PV.int .i64)) n1))),(5,.own 12 1 0 s.1.length),(6,.own 17 1 0 s.2.1.length),(7,.p (.int .i64 i15)),(30,.p (.slc (vwb (PV.int .i64) x19))),(31,.p (.int .i64 (x19.length:Int))),(32,.p (.int .i64 s.2.2))],[(12,.arr 4 1 1 (vwb AV.p (vwb PV.bool s.1))),(17,.arr 3 1 1 (vwb AV.p (vwb (PV.int .i64) s.2.1)))]⟩) (fun (o23:List Bool×List Int)=>tE (cX Tryz.f96 X w D hT) (.exit 2) ⟨[(0,.p (.slc (vwb (qat (PV.int .i64)) n1))),(5,.own 12 1 0 o23.1.length),(6,.own 17 1 0 o23.2.length),(7,.p (.int .i64 i15))],[(12,.arr 4 1 1 (vwb AV.p (vwb PV.bool o23.1))),(17,.arr 3 1 1 (vwb AV.p (vwb (PV.int .i64) o23.2)))]⟩) h22 ?_ ?_
 clear h h16 h18 h18a h18b h20 h20a h20b h22
 intro s x h
 obtain ⟨s24,o25,t26⟩:=s
 simp only [qhg] at h
 dsimp only
 refine zs<|zr ?_
 refine zU<|zl<|zn<|zs ?_
 obtain ⟨h27,h⟩|⟨h27,h⟩:=zI h
 refine zi<|zk<|zn<|zs<|zb<|zs<|zr ?_
 obtain ⟨x28,h29,h29a,h29b,h⟩:=zX h
 refine zU<|zl<|zn<|zs<|zr ?_
 obtain ⟨x30,h31,h31a,h31b,h⟩:=zX h
 refine zU<|zl<|zn ?_
 obtain ⟨h32,h⟩|⟨h32,h⟩:=zI h
 refine zj<|zk<|yn<|zn<|zr ?_
 refine zU<|zl ?_
 cases h
 exact ⟨rfl,zE⟩
 refine zi<|zs<|zr ?_
 refine zU<|zl<|zn<|zr ?_
 obtain ⟨h33,h⟩:=qab h
 refine zU<|zl<|yn<|zn<|zr ?_
 refine zU<|zl ?_
 cases h
 exact ⟨rfl,zE⟩
 refine zj<|zx<|ze ?_
 cases h
 exact ⟨rfl,zE⟩
 obtain ⟨s34,o35⟩:=o21
 try simp only at h
 refine zA<|yh<|yn<|zn<|zr ?_
 refine zU<|zl ?_
 cases h
 exact ⟨rfl,zE⟩
 refine zj<|zx<|ze ?_
 cases h
 exact ⟨rfl,zE⟩
 try simp only at h
 refine zA<|yh<|zn<|zs<|zr ?_
 refine zU ?_
 refine zM ⟨[(6,.own 17 1 0 o10.length),(49,.own 17 1 0 o10.length)],[(17,.arr 3 1 1 (vwb AV.p (vwb (PV.int .i64) o10)))]⟩ ?_
 obtain ⟨l36,h37,h⟩:=zB h
 refine zSI srt45 h37 ?_
 have h38:=qwp h37
 refine zM ⟨[(6,.own 17 1 0 l36.length),(50,.p (.tup []))],[(17,.arr 3 1 1 (vwb AV.p (vwb (PV.int .i64) l36)))]⟩ ?_
 clear h38
 refine zl<|zn<|zs<|zr ?_
 refine zU<|zl<|zn<|zq ?_
 cases h
 exact zT results96
theorem qqn {D:Prop} (n1:Int) (e2:List Arr2_int) (r3:List (List Int)×Int) (h:qfk n1 e2=some r3):Con D Tryz.prog 54 [(.int .i64 n1),(.slc (vwb qac e2))] (.tup [(.slc (vwb (qat (PV.int .i64)) r3.1)),(.int .i64 r3.2)]):=by
 refine zP call54 func54 rfl ntmps54 fun X w hT=>?_
 simp only [qfk] at h
 refine zs<|zr ?_
 refine zU<|zl<|zn<|zs<|zs<|zr ?_
 refine zU ?_
 obtain ⟨r4,h5,h⟩:=zB h
 refine zc (qxv n1 e2 _ h5) ?_
 refine zU<|zl<|zn<|zs<|zr ?_
 refine zU<|zl<|zn ?_
 obtain ⟨h6,h⟩|⟨h6,h⟩:=zI h
 refine zi<|zs<|zr ?_
 refine zU<|zl<|zn<|zq<|zt ?_
 cases h
 exact zT results54
 refine zj<|zk<|zn<|zs<|zr ?_
 refine zU ?_
 obtain ⟨r7,h8,h⟩:=zB h
 refine zc (qti e2 _ h8) ?_
 refine zU ?_
 refine zM ⟨[(0,.p (.int .i64 n1)),(20,.p (.int .i64 n1)),(24,.p (.slc (vwb (qat qac) [e2,r7])))],[]⟩ ?_
 obtain ⟨r9,h10,h⟩:=zB h
 refine zc (qn0 [e2,r7] _ h10) ?_
 obtain ⟨r11,h12,h⟩:=zB h
 refine zc (qqm n1 r9 _ h12) ?_
 refine zU<|zl<|zn<|zs<|zr ?_
 obtain ⟨h13,h⟩:=qab h
 obtain ⟨h14,h⟩:=qab h
 refine zU<|zl<|zn<|zs<|zr ?_
 refine zU<|zl<|zn<|zs<|zs<|zr ?_
 refine zU<|zl<|zn<|zb ?_
 obtain ⟨o15,h16,h⟩:=zB h
 refine zO (fun (s:List Bool×List (List Int)×Int)=>⟨[(7,.p (.slc (vwb (qat (PV.int .i64)) r11))),(8,.own 28 1 0 s.1.length),(9,.own 53 1 0 s.2.1.length),(29,.p (.int .i64 n1)),(30,.p (.int .i64 s.2.2))],[(28,.arr 4 1 1 (vwb AV.p (vwb PV.bool s.1))),(53,.arr 23 1 1 (vwb AV.p (vwb (qat (PV.int .i64)) s.2.1)))]⟩) (fun (o17:List (List Int))=>tE (cX Tryz.f54 X w D hT) (.exit 0) ⟨[(9,.own 53 1 0 o17.length)],[(53,.arr 23 1 1 (vwb AV.p (vwb (qat (PV.int .i64)) o17)))]⟩) h16 ?_ ?_
 clear h h5 h6 h8 h10 h12 h13 h14 h16
 intro s x h
 obtain ⟨d18,o19,t20⟩:=s
 simp only [qdk] at h
 dsimp only
 refine zs<|zr ?_
 refine zU<|zl<|zn<|zs ?_
 obtain ⟨h21,h⟩|⟨h21,h⟩:=zI h
 refine zi<|zk<|zn<|zs<|zb<|zs<|zr ?_
 refine zU<|zl<|zn<|zs<|zs<|zr ?_
 obtain ⟨x22,h23,h23a,h23b,h⟩:=zX h
 refine zU<|zl<|zn ?_
 obtain ⟨h24,h⟩|⟨h24,h⟩:=zI h
 refine zi<|zx<|ze<|yh<|zn<|zr ?_
 refine zU<|zl ?_
 cases h
 exact ⟨rfl,zE⟩
 refine zj<|zk<|zn<|zs<|zr ?_
 refine zU ?_
 obtain ⟨r25,h26,h⟩:=zB h
 refine zc (qxw r11 t20 _ h26) ?_
 refine zU<|zl<|zn<|zs<|zs<|zr ?_
 refine zU<|zl<|zn<|zb ?_
 obtain ⟨d27,h28,h⟩:=zB h
 refine zO (fun (s:List Bool×Int)=>⟨[(7,.p (.slc (vwb (qat (PV.int .i64)) r11))),(8,.own 28 1 0 s.1.length),(9,.own 53 1 0 o19.length),(11,.p (.slc (vwb (PV.int .i64) r25))),(29,.p (.int .i64 n1)),(30,.p (.int .i64 t20)),(40,.p (.slc (vwb (PV.int .i64) r25))),(41,.p (.int .i64 (r25.length:Int))),(42,.p (.int .i64 s.2))],[(28,.arr 4 1 1 (vwb AV.p (vwb PV.bool s.1))),(53,.arr 23 1 1 (vwb AV.p (vwb (qat (PV.int .i64)) o19)))]⟩) (fun (o29:List Bool)=>tE (cX Tryz.f54 X w D hT) (.exit 2) ⟨[(7,.p (.slc (vwb (qat (PV.int .i64)) r11))),(8,.own 28 1 0 o29.length),(9,.own 53 1 0 o19.length),(11,.p (.slc (vwb (PV.int .i64) r25))),(29,.p (.int .i64 n1)),(30,.p (.int .i64 t20))],[(28,.arr 4 1 1 (vwb AV.p (vwb PV.bool o29))),(53,.arr 23 1 1 (vwb AV.p (vwb (qat (PV.int .i64)) o19)))]⟩) h28 ?_ ?_
 clear h h21 h23 h23a h23b h24 h26 h28
 intro s x h
 obtain ⟨d30,t31⟩:=s
 simp only [qdj] at h
 dsimp only
 refine zs<|zr ?_
 refine zU<|zl<|zn<|zs ?_
 obtain ⟨h32,h⟩|⟨h32,h⟩:=zI h
 refine zi<|zk<|zn<|zs<|zb<|zs<|zr ?_
 obtain ⟨x33,h34,h34a,h34b,h⟩:=zX h
 refine zU<|zl<|zn<|zr ?_
 obtain ⟨x35,h36,h36a,h36b,h⟩:=zX h
 refine zU<|zl<|yn<|zn<|zr ?_
 refine zU<|zl ?_
 cases h
 exact ⟨rfl,zE⟩
 refine zj<|zx<|ze ?_
 cases h
 exact ⟨rfl,zE⟩
 try simp only at h
 refine zA<|yh<|zn<|zr ?_
 obtain ⟨h37,h⟩:=qab h
 refine zU<|zl<|yn<|zn<|zr ?_
 refine zU<|zl ?_
 cases h
 exact ⟨rfl,zE⟩
 refine zj<|zx<|ze ?_
 cases h
 exact ⟨rfl,zE⟩
 try simp only at h
 refine zA<|yh<|zn<|zs<|zr ?_
 refine zU<|zl<|zn<|zq ?_
 cases h
 exact zT results54
end Go.Proofs.YtmlegeeinnkhkaaGreat
namespace Go.Proofs
open Go Go.Ab Go.Shelf Tryz
def YtmlegeeinnkhkaaGreat.clone44_ren:Go.Shelf.Ren:=⟨fun | 41=>44 | n=>n,fun | 22=>23 | 23=>3 | 4=>4 | n=>n,fun | n=>n⟩
theorem YtmlegeeinnkhkaaGreat.clone44:Go.Proofs.SlLaysE0.n41 Tryz.prog YtmlegeeinnkhkaaGreat.clone44_ren:={
  mixed:=by kernel_rfl
  f41:=⟨Tryz.f44.name,by decide,func44.trans (congrArg some (by kernel_rfl))⟩
  t4:=underlying4
  a4:=isAgg4
  z4:=sizeOf4
  v4:=zeroValue4
  t22:=underlying23
  a22:=isAgg23
  z22:=sizeOf23
  v22:=zeroValue23 }
def YtmlegeeinnkhkaaGreat.clone124_ren:Go.Shelf.Ren:=⟨fun | 41=>124 | n=>n,fun | 22=>63 | 23=>2 | 4=>4 | n=>n,fun | n=>n⟩
theorem YtmlegeeinnkhkaaGreat.clone124:Go.Proofs.SlLaysE0.n41 Tryz.prog YtmlegeeinnkhkaaGreat.clone124_ren:={
  mixed:=by kernel_rfl
  f41:=⟨Tryz.f124.name,by decide,func124.trans (congrArg some (by kernel_rfl))⟩
  t4:=underlying4
  a4:=isAgg4
  z4:=sizeOf4
  v4:=zeroValue4
  t22:=underlying63
  a22:=isAgg63
  z22:=sizeOf63
  v22:=zeroValue63 }
def YtmlegeeinnkhkaaGreat.clone246_ren:Go.Shelf.Ren:=⟨fun | 41=>246 | n=>n,fun | 22=>64 | 23=>142 | 4=>4 | n=>n,fun | n=>n⟩
theorem YtmlegeeinnkhkaaGreat.clone246:Go.Proofs.SlLaysE0.n41 Tryz.prog YtmlegeeinnkhkaaGreat.clone246_ren:={
  mixed:=by kernel_rfl
  f41:=⟨Tryz.f246.name,by decide,func246.trans (congrArg some (by kernel_rfl))⟩
  t4:=underlying4
  a4:=isAgg4
  z4:=sizeOf4
  v4:=zeroValue4
  t22:=underlying64
  a22:=isAgg64
  z22:=sizeOf64
  v22:=zeroValue64 }
theorem YtmlegeeinnkhkaaGreat.cln44:Cln Tryz.prog 44 3 1 8:=AbE.cln YtmlegeeinnkhkaaGreat.clone44 call44 Tryz.t3 _ _ _ (by kernel_rfl) rfl rfl rfl rfl (by decide)
theorem YtmlegeeinnkhkaaGreat.cln124:Cln Tryz.prog 124 2 1 8:=AbE.cln YtmlegeeinnkhkaaGreat.clone124 call124 Tryz.t2 _ _ _ (by kernel_rfl) rfl rfl rfl rfl (by decide)
theorem YtmlegeeinnkhkaaGreat.cln246:Cln Tryz.prog 246 142 3 32:=AbE.cln YtmlegeeinnkhkaaGreat.clone246 call246 Tryz.t142 _ _ _ (by kernel_rfl) rfl rfl rfl rfl (by decide)
end Go.Proofs
namespace Go.Proofs.YtmlegeeinnkhkaaGreat
open Go Go.Ab Tryz
theorem qn1 {D:Prop} (n1:Int) (l2:List Pair) (r3:Int) (h:qh7 n1 l2=some r3):Con D Tryz.prog 158 [(.int .i64 n1),(.slc (vwb qba l2))] (.int .i64 r3):=by
 refine zP call158 func158 rfl ntmps158 fun X w hT=>?_
 simp only [qh7] at h
 refine zs<|zr ?_
 refine zU<|zl<|zn<|zs<|zb ?_
 obtain ⟨t4,h5,h⟩:=zB h
 refine zJ (fun (o6:Bool)=>tE (cX Tryz.f158 X w D hT) .normal ⟨[(0,.p (.int .i64 n1)),(1,.p (.slc (vwb qba l2))),(9,.p (.bool o6))],[]⟩) t4 ?_ ?_
 replace h:=h5
 clear h5
 refine zr ?_
 refine zU ?_
 obtain ⟨h7,h⟩|⟨h7,h⟩:=zI h
 refine zw 12 true ?_
 refine zh ?_
 refine zU<|zl ?_
 cases h
 exact ⟨rfl,zE⟩
 replace h:=h.symm
 refine zw 12 false ?_
 refine zg ?_
 refine zg ?_
 refine zU<|zl ?_
 cases h
 exact ⟨rfl,zE⟩
 try simp only at h
 refine zA<|zn ?_
 obtain ⟨h8,h⟩|⟨h8,h⟩:=zI h
 refine zi<|zs<|zr ?_
 refine zU<|zl<|zn<|zq<|yr<|zt ?_
 cases h
 exact zT results158
 refine zj<|zs<|zr ?_
 refine zU<|zl<|zn ?_
 obtain ⟨h9,h⟩|⟨h9,h⟩:=zI h
 refine zi<|zs<|zr ?_
 refine zU<|zl<|zn<|zq<|yr<|zt ?_
 cases h
 exact zT results158
 refine zj<|zk<|yn<|zn<|zs<|zr ?_
 refine zU<|zl<|zn<|zs<|zs<|zr ?_
 refine zU<|zl<|zn<|zb ?_
 obtain ⟨o10,h11,h⟩:=zB h
 refine zO (fun (s:(List (Arr2_int×Bool))×Int)=>⟨[(0,.p (.int .i64 n1)),(5,.mapo 20 1),(21,.p (.slc (vwb qba l2))),(22,.p (.int .i64 (l2.length:Int))),(23,.p (.int .i64 s.2))],[(20,.map 1 (vwb AV.p (qmc qac s.1)) (vwb AV.p (qna PV.bool s.1)))]⟩) (fun (o:(Unit) ⊕ (Int))=>match o with | .inl o12=>tE (cX Tryz.f158 X w D hT) (.exit 1) ⟨[],[]⟩ | .inr o13=>tR Tryz.prog Tryz.f158 (.int .i64 o13)) h11 ?_ ?_
 clear h h8 h9 h11
 intro s x h
 obtain ⟨s14,t15⟩:=s
 simp only [qhb] at h
 dsimp only
 refine zs<|zr ?_
 refine zU<|zl<|zn<|zs ?_
 obtain ⟨h16,h⟩|⟨h16,h⟩:=zI h
 refine zi<|zk<|zn<|zs<|zb<|zs<|zr ?_
 obtain ⟨x17,h18,h18a,h18b,h⟩:=zX h
 refine zU<|zl<|zn<|zs<|zr ?_
 refine zU<|zl<|zn<|zs<|zs<|zr ?_
 refine zU ?_
 obtain ⟨h19,h⟩|⟨h19,h⟩:=zI h
 refine zw 35 true ?_
 refine zh ?_
 refine zU ?_
 refine zh ?_
 refine zU ?_
 refine zh ?_
 refine zU ?_
 refine zh ?_
 refine zU ?_
 refine zh ?_
 refine zU<|zl<|zn ?_
 refine zi<|zs<|zr ?_
 refine zU<|zl<|zn<|zq<|zt<|yr<|zt ?_
 cases h
 exact ⟨rfl,zT results158⟩
 refine zw 35 false ?_
 refine zg ?_
 refine zg ?_
 refine zg ?_
 refine zg ?_
 refine zg ?_
 refine zU ?_
 obtain ⟨h20,h⟩|⟨h20,h⟩:=zI h
 refine zw 42 true ?_
 refine zh ?_
 refine zU ?_
 refine zh ?_
 refine zU ?_
 refine zh ?_
 refine zU ?_
 refine zh ?_
 refine zU<|zl<|zn ?_
 refine zi<|zs<|zr ?_
 refine zU<|zl<|zn<|zq<|zt<|yr<|zt ?_
 cases h
 exact ⟨rfl,zT results158⟩
 refine zw 42 false ?_
 refine zg ?_
 refine zg ?_
 refine zg ?_
 refine zg ?_
 refine zU ?_
 obtain ⟨h21,h⟩|⟨h21,h⟩:=zI h
 refine zw 48 true ?_
 refine zh ?_
 refine zU ?_
 refine zh ?_
 refine zU ?_
 refine zh ?_
 refine zU<|zl<|zn ?_
 refine zi<|zs<|zr ?_
 refine zU<|zl<|zn<|zq<|zt<|yr<|zt ?_
 cases h
 exact ⟨rfl,zT results158⟩
 refine zw 48 false ?_
 refine zg ?_
 refine zg ?_
 refine zg ?_
 refine zU ?_
 obtain ⟨h22,h⟩|⟨h22,h⟩:=zI h
 refine zw 53 true ?_
 refine zh ?_
 refine zU ?_
 refine zh ?_
 refine zU<|zl<|zn ?_
 refine zi<|zs<|zr ?_
 refine zU<|zl<|zn<|zq<|zt<|yr<|zt ?_
 cases h
 exact ⟨rfl,zT results158⟩
 refine zw 53 false ?_
 refine zg ?_
 refine zg ?_
 refine zg ?_
 refine zU ?_
 obtain ⟨h23,h⟩|⟨h23,h⟩:=zI h
 refine zw 58 true ?_
 refine zh ?_
 refine zU<|zl<|zn ?_
 refine zi<|zs<|zr ?_
 refine zU<|zl<|zn<|zq<|zt<|yr<|zt ?_
 cases h
 exact ⟨rfl,zT results158⟩
 refine zw 58 false ?_
 refine zg ?_
 refine zg ?_
 refine zg ?_
 refine zU<|zl<|zn ?_
 obtain ⟨h24,h⟩|⟨h24,h⟩:=zI h
 refine zi<|zs<|zr ?_
 refine zU<|zl<|zn<|zq<|zt<|yr<|zt ?_
 cases h
 exact ⟨rfl,zT results158⟩
 refine zj<|zk<|zn<|zr ?_
 refine zU<|zl<|yn<|zn<|zr ?_
 refine zU<|zl ?_
 cases h
 exact ⟨rfl,zE⟩
 refine zj<|zx<|ze ?_
 cases h
 exact ⟨rfl,zE⟩
 rcases o10 with ⟨⟩ | r25
 try simp only at h
 refine zA<|yh<|zn<|zs<|zr ?_
 refine zU<|zl<|zn<|zq ?_
 cases h
 exact zT results158
 try simp only at h
 refine zZ fun s hq=>?_
 refine yr<|zt ?_
 cases h
 exact hq
theorem qtj {D:Prop} (n1:Int) (l2:List Pair) (r3:List (List Int)) (h:qik n1 l2=some r3):Con D Tryz.prog 159 [(.int .i64 n1),(.slc (vwb qba l2))] (.slc (vwb (qat (PV.int .i64)) r3)):=by
 refine zP call159 func159 rfl ntmps159 fun X w hT=>?_
 simp only [qik] at h
 refine zs<|zr ?_
 refine zU<|zl<|zn<|zs<|zr ?_
 obtain ⟨h4,h⟩:=qab h
 obtain ⟨h5,h⟩:=qab h
 refine zW 2 ?_
 refine zM ⟨[(0,.p (.int .i64 n1)),(1,.p (.slc (vwb qba l2))),(10,.own 10 1 0 ((vuh (n1).toNat ([]:List Int))).length)],((10,.arr 63 1 1 (qh3 10 2 1 1 (PV.int .i64) (vuh (n1).toNat ([]:List Int)))) :: qi4 10 2 1 1 (PV.int .i64) (vuh (n1).toNat ([]:List Int)) [])⟩ ?_
 refine zU<|zl<|zn<|zs<|zs<|zr ?_
 refine zU<|zl<|zn<|zb ?_
 obtain ⟨w6,h7,h⟩:=zB h
 refine zO (fun (s:List (List Int)×Int)=>⟨[(0,.p (.int .i64 n1)),(1,.p (.slc (vwb qba l2))),(5,.own 10 1 0 s.1.length),(12,.p (.int .i64 ((((vuh (n1).toNat ([]:List Int))).length:Nat):Int))),(13,.p (.int .i64 s.2))],((10,.arr 63 1 1 (qh3 10 2 1 1 (PV.int .i64) s.1)) :: qi4 10 2 1 1 (PV.int .i64) s.1 [])⟩) (fun (o8:List (List Int))=>tE (cX Tryz.f159 X w D hT) (.exit 0) ⟨[(1,.p (.slc (vwb qba l2))),(5,.own 10 1 0 o8.length)],((10,.arr 63 1 1 (qh3 10 2 1 1 (PV.int .i64) o8)) :: qi4 10 2 1 1 (PV.int .i64) o8 [])⟩) h7 ?_ ?_
 clear h h4 h5 h7
 intro s x h
 obtain ⟨w9,t10⟩:=s
 simp only [qgn] at h
 dsimp only
 refine zs<|zr ?_
 refine zU<|zl<|zn<|zs ?_
 obtain ⟨h11,h⟩|⟨h11,h⟩:=zI h
 refine zi<|zk<|zn<|zs<|zb<|zs<|zr ?_
 refine zU<|zl<|zn<|zr ?_
 obtain ⟨h12,h⟩:=qab h
 obtain ⟨h13,h⟩:=qab h
 obtain ⟨x14,h15,h15a,h15b,h⟩:=zX h
 refine zW 6 ?_
 refine zSw 19 (fx 10 t10.toNat) ?_
 refine zM ⟨[(0,.p (.int .i64 n1)),(1,.p (.slc (vwb qba l2))),(5,.own 10 1 0 ((w9.set t10.toNat (vuh (n1).toNat 0))).length),(12,.p (.int .i64 ((((vuh (n1).toNat ([]:List Int))).length:Nat):Int))),(13,.p (.int .i64 t10))],((10,.arr 63 1 1 (qh3 10 2 1 1 (PV.int .i64) (w9.set t10.toNat (vuh (n1).toNat 0)))) :: qi4 10 2 1 1 (PV.int .i64) (w9.set t10.toNat (vuh (n1).toNat 0)) [])⟩ ?_
 refine zl<|yn<|zn<|zr ?_
 refine zU<|zl ?_
 cases h
 exact ⟨rfl,zE⟩
 refine zj<|zx<|ze ?_
 cases h
 exact ⟨rfl,zE⟩
 try simp only at h
 refine zA<|yh<|zn<|zs<|zs<|zr ?_
 refine zU<|zl<|zn<|zb ?_
 obtain ⟨w16,h17,h⟩:=zB h
 refine zO (fun (s:List (List Int)×Int)=>⟨[(5,.own 10 1 0 s.1.length),(22,.p (.slc (vwb qba l2))),(23,.p (.int .i64 (l2.length:Int))),(24,.p (.int .i64 s.2))],((10,.arr 63 1 1 (qh3 10 2 1 1 (PV.int .i64) s.1)) :: qi4 10 2 1 1 (PV.int .i64) s.1 [])⟩) (fun (o18:List (List Int))=>tE (cX Tryz.f159 X w D hT) (.exit 2) ⟨[(5,.own 10 1 0 o18.length)],((10,.arr 63 1 1 (qh3 10 2 1 1 (PV.int .i64) o18)) :: qi4 10 2 1 1 (PV.int .i64) o18 [])⟩) h17 ?_ ?_
 clear h h4 h5 h7 h17
 intro s x h
 obtain ⟨w19,t20⟩:=s
 simp only [qgo] at h
 dsimp only
 refine zs<|zr ?_
 refine zU<|zl<|zn<|zs ?_
 obtain ⟨h21,h⟩|⟨h21,h⟩:=zI h
 refine zi<|zk<|zn<|zs<|zb<|zs<|zr ?_
 obtain ⟨x22,h23,h23a,h23b,h⟩:=zX h
 refine zU<|zl<|zn ?_
 refine zdl 20 ?_
 obtain ⟨x24,h25,h25a,h25b,h⟩:=zX h
 obtain ⟨x26,h27,h27a,h27b,h⟩:=zX h
 obtain ⟨x28,h29,h29a,h29b,h⟩:=zX h
 refine yU ?_
 refine ydlS ?_
 refine zM ⟨[(5,.own 10 1 0 ((w19.set x22.I.toNat (x24.set x22.K.toNat x22.Weight))).length),(22,.p (.slc (vwb qba l2))),(23,.p (.int .i64 (l2.length:Int))),(24,.p (.int .i64 t20)),(39,.own (fx 10 x22.K.toNat) 1 0 x26.length),(41,.p (.int .i64 x22.I)),(45,.p (.int .i64 x22.Weight))],((10,.arr 63 1 1 (qh3 10 2 1 1 (PV.int .i64) (w19.set x22.I.toNat (x24.set x22.K.toNat x22.Weight)))) :: qi4 10 2 1 1 (PV.int .i64) (w19.set x22.I.toNat (x24.set x22.K.toNat x22.Weight)) [])⟩ ?_
 obtain ⟨x30,h31,h31a,h31b,h⟩:=zX h
 have h31B:=eq_true (by simpa only [vt2] using h31b)
 obtain ⟨x32,h33,h33a,h33b,h⟩:=zX h
 obtain ⟨h34,h⟩:=qab h
 refine zW 2 ?_
 refine zM ⟨[(5,.own 10 1 0 (((w19.set x22.I.toNat (x24.set x22.K.toNat x22.Weight)).set x22.K.toNat (x30.set x22.I.toNat x22.Weight))).length),(22,.p (.slc (vwb qba l2))),(23,.p (.int .i64 (l2.length:Int))),(24,.p (.int .i64 t20))],((10,.arr 63 1 1 (qh3 10 2 1 1 (PV.int .i64) ((w19.set x22.I.toNat (x24.set x22.K.toNat x22.Weight)).set x22.K.toNat (x30.set x22.I.toNat x22.Weight)))) :: qi4 10 2 1 1 (PV.int .i64) ((w19.set x22.I.toNat (x24.set x22.K.toNat x22.Weight)).set x22.K.toNat (x30.set x22.I.toNat x22.Weight)) [])⟩ ?_
 refine zl<|yn<|zn<|zr ?_
 refine zU<|zl ?_
 cases h
 exact ⟨rfl,zE⟩
 refine zj<|zx<|ze ?_
 cases h
 exact ⟨rfl,zE⟩
 try simp only at h
 refine zA<|yh<|zn<|zs<|zr ?_
 refine zU<|zl<|zn<|zq ?_
 cases h
 exact zT results159
theorem qgy {D:Prop} (w1:Int) (t2:Bool) (r3:Int) (h:qdw w1 t2=some r3):Con D Tryz.prog 210 [(.int .i64 w1),(.bool t2)] (.int .i64 r3):=by
 refine zP call210 func210 rfl ntmps210 fun X w hT=>?_
 simp only [qdw] at h
 refine zs<|zr ?_
 refine zU<|zl<|zn<|zs<|zs<|zr ?_
 refine zU<|zl<|zn ?_
 obtain ⟨h4,h⟩|⟨h4,h⟩:=zI h
 refine zi<|zs<|zr ?_
 refine zU<|zl<|zn<|zq<|zt ?_
 cases h
 exact zT results210
 refine zj<|zk<|zn<|zs<|zr ?_
 refine zU<|zl<|zn<|zq ?_
 cases h
 exact zT results210
theorem qry (n1:Int) (l2:List Pair) (r3:List Int×Int×Int) (h:qgp n1 l2=some r3):Con False Tryz.prog 97 [(.int .i64 n1),(.slc (vwb qba l2))] (.tup [(.slc (vwb (PV.int .i64) r3.1)),(.int .i64 r3.2.1),(.int .i64 r3.2.2)]):=by
 refine zP call97 func97 rfl ntmps97 fun X w hT=>?_
 simp only [qgp] at h
 refine zs<|zr ?_
 refine zU<|zl<|zn<|zs<|zs<|zr ?_
 refine zU ?_
 obtain ⟨r4,h5,h⟩:=zB h
 refine zc (qn1 n1 l2 _ h5) ?_
 refine zU<|zl<|zn<|zs<|zr ?_
 refine zU<|zl<|zn ?_
 obtain ⟨h6,h⟩|⟨h6,h⟩:=zI h
 refine zi<|zs<|zr ?_
 refine zU<|zl<|zn<|zq<|zt ?_
 cases h
 exact zT results97
 have h6F:=vvo.2 h6
 refine zj<|zk<|zn<|zs<|zs<|zr ?_
 refine zU<|zl<|zn ?_
 obtain ⟨h7,h⟩|⟨h7,h⟩:=zI h
 have h7T:=eq_true h7
 refine zi<|zs<|zr ?_
 refine zU<|zl<|zn<|zq<|zt ?_
 cases h
 exact zT results97
 have h7T:=eq_false h7
 refine zj<|zk<|zn<|zs<|zd ?_
 refine yU ?_
 obtain ⟨r8,h9,h⟩:=zB h
 refine yc (qtj n1 l2 _ h9) ?_
 obtain ⟨h10,h⟩:=qab h
 obtain ⟨h11,h⟩:=qab h
 refine yU ?_
 refine yd<|zn ?_
 obtain ⟨o12,h13,h⟩:=zB h
 refine zJ (fun (o14:List Int×Bool×Int×List Int×Int)=>tE (cX Tryz.f97 X w False hT) .normal ⟨[(8,.loc 23 1 0 0)],[(21,.arr 3 1 1 (vwb AV.p (vwb (PV.int .i64) o14.1))),(23,.arr 218 4 1 [.agg [.p (.slc (vwb (qat (PV.int .i64)) r8)),.own 21 1 0 o14.1.length,(if o14.2.1=true then .p (.slc (vwb (PV.int .i64) (o14.2.2.1 :: o14.2.2.2.1))) else .nils),.p (.int .i64 o14.2.2.2.2)]])]⟩) o12 ?_ ?_
 replace h:=h13
 clear h13
 obtain ⟨l15,h16,h⟩:=zB h
 replace h16:=vwz h16
 refine qnl (st':=⟨[(8,.loc 23 1 0 0)],[(21,.arr 3 1 1 (vwb AV.p (vwb (PV.int .i64) l15))),(23,.arr 218 4 1 [.agg [.p (.slc (vwb (qat (PV.int .i64)) r8)),.own 21 1 0 l15.length,.nils,.p (.int .i64 0)]])]⟩) (by simp only [go_sem,seval,h6F,h7T,←h16];all_goals ((repeat' refine vzq ?_ ?_) <;> first | rfl | (simp;done) | (simp;rfl) | (simp [*];done) | (simp [*];rfl))) ?_
 clear h16
 refine zr ?_
 refine zU ?_
 refine zM ⟨[(8,.loc 23 1 0 0),(24,.loc 23 1 0 0)],[(21,.arr 3 1 1 (vwb AV.p (vwb (PV.int .i64) l15))),(23,.arr 218 4 1 [.agg [.p (.slc (vwb (qat (PV.int .i64)) r8)),.own 21 1 0 l15.length,.nils,.p (.int .i64 0)]])]⟩ ?_
 refine qif (avs:=[.loc 23 1 0 0,.p (.int .i64 0),.p (.int .i64 0),.p (.int .i64 0)]) 34 rfl (qbf rfl) rfl func160 rfl call160 ntmps160 (by simp) (by simp only [go_sem,seval,h6F,h7T];all_goals rfl) ?_
 intro i17 w18 h19
 show AWp _ _ _ ⟨[(0,.loc 23 1 0 0),(1,.p (.int .i64 0)),(2,.p (.int .i64 0)),(3,.p (.int .i64 0))],[(21,.arr 3 1 1 (vwb AV.p (vwb (PV.int .i64) l15))),(23,.arr 218 4 1 [.agg [.p (.slc (vwb (qat (PV.int .i64)) r8)),.own 21 1 0 l15.length,.nils,.p (.int .i64 0)]])]⟩
 refine zs<|zs<|zr ?_
 refine zU ?_
 refine zh ?_
 refine zU<|zl<|zn ?_
 refine zj<|zk<|zn<|zs<|zs<|zr ?_
 refine zU<|zl<|zn ?_
 obtain ⟨h20,h⟩|⟨h20,h⟩:=zI h
 refine zi<|zs<|zr ?_
 refine zU ?_
 obtain ⟨h21,h⟩:=qab h
 refine zCo cln44 71 (PV.int .i64) l15 _ rfl ⟨by unfold maxLen;omega,by omega⟩ ?_
 obtain ⟨x22,h23,h23l,h23L,h⟩:=zY 0 h
 obtain ⟨l24,h25,h⟩:=zB h
 replace h25:=vwz h25
 replace h25:=qrg h25 h23
 refine zM ⟨[(3,.p (.int .i64 0)),(31,.loc 23 1 0 0),(32,.loc 23 1 0 0),(37,.p (.slc (vwb (PV.int .i64) (x22 :: l24))))],[(21,.arr 3 1 1 (vwb AV.p (vwb (PV.int .i64) l15))),(23,.arr 218 4 1 [.agg [.p (.slc (vwb (qat (PV.int .i64)) r8)),.own 21 1 0 l15.length,.nils,.p (.int .i64 0)]])]⟩ ?_
 clear h25
 refine zU<|zl<|zn<|zq<|zt ?_
 refine qg0 (by simp only [results160];simp only [go_sem,seval,h6F,h7T,h20];exact rfl) ?_
 refine zl ?_
 cases h
 exact ⟨rfl,zE⟩
 have h20F:=vvo.2 h20
 refine zj<|zk<|zn<|zs<|zr ?_
 refine zU<|zl<|zn<|zb ?_
 obtain ⟨o26,h27,h⟩:=zB h
 refine zO (fun (s:List Int×Bool×Int×List Int×Int×Int)=>⟨[(0,.loc 23 1 0 0),(1,.p (.int .i64 0)),(2,.p (.int .i64 0)),(3,.p (.int .i64 0)),(44,.p (.int .i64 1)),(45,.p (.int .i64 s.2.2.2.2.2))],[(21,.arr 3 1 1 (vwb AV.p (vwb (PV.int .i64) s.1))),(23,.arr 218 4 1 [.agg [.p (.slc (vwb (qat (PV.int .i64)) r8)),.own 21 1 0 s.1.length,(if s.2.1=true then .p (.slc (vwb (PV.int .i64) (s.2.2.1 :: s.2.2.2.1))) else .nils),.p (.int .i64 s.2.2.2.2.1)]])]⟩) (fun (o28:List Int×Bool×Int×List Int×Int)=>tE ⟨Tryz.prog,94,34,X,[(21,.arr 3 1 1 (vwb AV.p (vwb (PV.int .i64) l15))),(23,.arr 218 4 1 [.agg [.p (.slc (vwb (qat (PV.int .i64)) r8)),.own 21 1 0 l15.length,.nils,.p (.int .i64 0)]])],i17,w18,False,h19⟩ (.exit 0) ⟨[],[(21,.arr 3 1 1 (vwb AV.p (vwb (PV.int .i64) o28.1))),(23,.arr 218 4 1 [.agg [.p (.slc (vwb (qat (PV.int .i64)) r8)),.own 21 1 0 o28.1.length,(if o28.2.1=true then .p (.slc (vwb (PV.int .i64) (o28.2.2.1 :: o28.2.2.2.1))) else .nils),.p (.int .i64 o28.2.2.2.2)]])]⟩) h27 ?_ ?_
 clear h h5 h6 h6F h7 h7T h9 h10 h11 h20 h20F h27
 intro s x h
 obtain ⟨s29,s30,s31,s32,s33,t34⟩:=s
 simp only [qbl] at h
 dsimp only
 refine zs<|zr ?_
 refine zU<|zl<|zn<|zs ?_
 obtain ⟨h35,h⟩|⟨h35,h⟩:=zI h
 have h35T:=eq_true h35
 refine zi<|zk<|zn<|zs<|zb<|zs<|zr ?_
 refine zU<|zl<|zn<|zs<|zr ?_
 refine zU<|zl<|zn<|zs<|zs<|zr ?_
 refine zU<|zl<|zn<|zb ?_
 obtain ⟨o36,h37,h⟩:=zB h
 refine zO (fun (s:Unit)=>⟨[(0,.loc 23 1 0 0),(1,.p (.int .i64 0)),(2,.p (.int .i64 0)),(3,.p (.int .i64 0)),(8,.p (.int .i64 t34)),(9,.p (.int .i64 0)),(44,.p (.int .i64 1)),(45,.p (.int .i64 t34)),(48,.p (.int .i64 0)),(49,.p (.int .i64 0))],[(21,.arr 3 1 1 (vwb AV.p (vwb (PV.int .i64) s29))),(23,.arr 218 4 1 [.agg [.p (.slc (vwb (qat (PV.int .i64)) r8)),.own 21 1 0 s29.length,(if s30=true then .p (.slc (vwb (PV.int .i64) (s31 :: s32))) else .nils),.p (.int .i64 s33)]])]⟩) (fun (o38:Unit)=>tE ⟨Tryz.prog,94,34,X,[(21,.arr 3 1 1 (vwb AV.p (vwb (PV.int .i64) l15))),(23,.arr 218 4 1 [.agg [.p (.slc (vwb (qat (PV.int .i64)) r8)),.own 21 1 0 l15.length,.nils,.p (.int .i64 0)]])],i17,w18,False,h19⟩ (.exit 2) ⟨[(0,.loc 23 1 0 0),(1,.p (.int .i64 0)),(2,.p (.int .i64 0)),(3,.p (.int .i64 0)),(8,.p (.int .i64 t34)),(9,.p (.int .i64 0)),(44,.p (.int .i64 1)),(45,.p (.int .i64 t34))],[(21,.arr 3 1 1 (vwb AV.p (vwb (PV.int .i64) s29))),(23,.arr 218 4 1 [.agg [.p (.slc (vwb (qat (PV.int .i64)) r8)),.own 21 1 0 s29.length,(if s30=true then .p (.slc (vwb (PV.int .i64) (s31 :: s32))) else .nils),.p (.int .i64 s33)]])]⟩) h37 ?_ ?_
 clear h h35 h35T h37
 intro s x h
 simp only [qji] at h
 refine zs<|zr ?_
 refine zU<|zl<|zn<|zs ?_
 refine zj<|zx<|ze ?_
 cases h
 exact ⟨rfl,zE⟩
 cases o36
 try simp only at h
 refine zA<|yh<|zn<|zs<|zr ?_
 obtain ⟨x39,h40,h40l,h40L,h⟩:=zY 0 h
 refine zU<|zl<|zn<|zr ?_
 refine zU ?_
 refine zM ⟨[(0,.loc 23 1 0 0),(1,.p (.int .i64 0)),(2,.p (.int .i64 0)),(3,.p (.int .i64 0)),(44,.p (.int .i64 1)),(45,.p (.int .i64 t34)),(82,.loc 23 1 0 0),(84,.p (.int .i64 1)),(88,.p (.int .i64 (if (vxc.wrap (t34+1)) > 0 then (vxc.wrap (t34+1)) else 0))),(91,.p (.int .i64 0))],[(21,.arr 3 1 1 (vwb AV.p (vwb (PV.int .i64) (s29.set 0 t34)))),(23,.arr 218 4 1 [.agg [.p (.slc (vwb (qat (PV.int .i64)) r8)),.own 21 1 0 ((s29.set 0 t34)).length,(if s30=true then .p (.slc (vwb (PV.int .i64) (s31 :: s32))) else .nils),.p (.int .i64 s33)]])]⟩ ?_
 refine qif (avs:=[.loc 23 1 0 0,.p (.int .i64 1),.p (.int .i64 (if (vxc.wrap (t34+1)) > 0 then (vxc.wrap (t34+1)) else 0)),.p (.int .i64 0)]) 128 rfl (qbf rfl) rfl func160 rfl call160 ntmps160 (by simp) (by simp only [go_sem,seval,h35T];all_goals rfl) ?_
 intro i41 w42 h43
 obtain ⟨u44,h45,h⟩:=zB h
 replace h45:=vwz h45
 refine qnl (st':=⟨[(0,.loc 23 1 0 0),(1,.p (.int .i64 1)),(2,.p (.int .i64 u44)),(3,.p (.int .i64 0))],[(21,.arr 3 1 1 (vwb AV.p (vwb (PV.int .i64) (s29.set 0 t34)))),(23,.arr 218 4 1 [.agg [.p (.slc (vwb (qat (PV.int .i64)) r8)),.own 21 1 0 ((s29.set 0 t34)).length,(if s30=true then .p (.slc (vwb (PV.int .i64) (s31 :: s32))) else .nils),.p (.int .i64 s33)]])]⟩) (by simp only [go_sem,seval,h35T,←h45];all_goals ((repeat' refine vzq ?_ ?_) <;> first | rfl | (simp;done) | (simp;rfl) | (simp [*];done) | (simp [*];rfl))) ?_
 clear h45
 obtain ⟨o46,h47,h⟩:=zB h
 refine zJ (fun (o:(Unit) ⊕ (Unit))=>match o with | .inl o48=>tE ⟨Tryz.prog,94,128,X,[(21,.arr 3 1 1 (vwb AV.p (vwb (PV.int .i64) (s29.set 0 t34)))),(23,.arr 218 4 1 [.agg [.p (.slc (vwb (qat (PV.int .i64)) r8)),.own 21 1 0 ((s29.set 0 t34)).length,(if s30=true then .p (.slc (vwb (PV.int .i64) (s31 :: s32))) else .nils),.p (.int .i64 s33)]])],i41,w42,False,h43⟩ .normal ⟨[(0,.loc 23 1 0 0),(1,.p (.int .i64 1)),(2,.p (.int .i64 u44)),(3,.p (.int .i64 0))],[(21,.arr 3 1 1 (vwb AV.p (vwb (PV.int .i64) (s29.set 0 t34)))),(23,.arr 218 4 1 [.agg [.p (.slc (vwb (qat (PV.int .i64)) r8)),.own 21 1 0 ((s29.set 0 t34)).length,(if s30=true then .p (.slc (vwb (PV.int .i64) (s31 :: s32))) else .nils),.p (.int .i64 s33)]])]⟩ | .inr o49=>tE ⟨Tryz.prog,94,128,X,[(21,.arr 3 1 1 (vwb AV.p (vwb (PV.int .i64) (s29.set 0 t34)))),(23,.arr 218 4 1 [.agg [.p (.slc (vwb (qat (PV.int .i64)) r8)),.own 21 1 0 ((s29.set 0 t34)).length,(if s30=true then .p (.slc (vwb (PV.int .i64) (s31 :: s32))) else .nils),.p (.int .i64 s33)]])],i41,w42,False,h43⟩ .ret ⟨[],[(21,.arr 3 1 1 (vwb AV.p (vwb (PV.int .i64) (s29.set 0 t34)))),(23,.arr 218 4 1 [.agg [.p (.slc (vwb (qat (PV.int .i64)) r8)),.own 21 1 0 ((s29.set 0 t34)).length,(if s30=true then .p (.slc (vwb (PV.int .i64) (s31 :: s32))) else .nils),.p (.int .i64 s33)]])]⟩) o46 ?_ ?_
 replace h:=h47
 clear h47
 refine zs<|zr ?_
 refine zW 4 ?_
 obtain ⟨h50,h⟩|⟨h50,h⟩:=zI h
 refine zU ?_
 refine zg ?_
 refine zg ?_
 refine zg ?_
 refine zg ?_
 refine zg ?_
 refine zg ?_
 refine zU<|zl<|zn ?_
 obtain ⟨h51,h⟩|⟨h51,h⟩:=zI h
 refine zi<|zq ?_
 cases h
 exact ⟨rfl,zE⟩
 refine zj<|zk ?_
 cases h
 exact ⟨rfl,zE⟩
 refine zU ?_
 refine zh ?_
 refine zU<|zl<|zn ?_
 refine zj<|zk ?_
 cases h
 exact ⟨rfl,zE⟩
 rcases o46 with ⟨⟩ | ⟨⟩
 try simp only at h
 refine zA<|zn<|zs<|zs<|zr ?_
 refine zU<|zl<|zn ?_
 obtain ⟨h52,h⟩|⟨h52,h⟩:=zI h
 refine zi<|zs<|zr ?_
 refine zU ?_
 obtain ⟨h53,h⟩:=qab h
 refine zCo cln44 165 (PV.int .i64) (s29.set 0 t34) _ rfl ⟨by unfold maxLen;omega,by omega⟩ ?_
 obtain ⟨x54,h55,h55l,h55L,h⟩:=zY 0 h
 obtain ⟨l56,h57,h⟩:=zB h
 replace h57:=vwz h57
 replace h57:=qrg h57 h55
 refine zM ⟨[(3,.p (.int .i64 0)),(31,.loc 23 1 0 0),(32,.loc 23 1 0 0),(37,.p (.slc (vwb (PV.int .i64) (x54 :: l56))))],[(21,.arr 3 1 1 (vwb AV.p (vwb (PV.int .i64) (s29.set 0 t34)))),(23,.arr 218 4 1 [.agg [.p (.slc (vwb (qat (PV.int .i64)) r8)),.own 21 1 0 ((s29.set 0 t34)).length,(if s30=true then .p (.slc (vwb (PV.int .i64) (s31 :: s32))) else .nils),.p (.int .i64 s33)]])]⟩ ?_
 clear h57
 refine zU<|zl<|zn<|zq<|zt ?_
 refine qg0 (by simp only [results160];simp only [go_sem,seval,h35T,h52];exact rfl) ?_
 refine zl<|yn<|zn<|zr ?_
 refine zU<|zl ?_
 cases h
 exact ⟨rfl,zE⟩
 have h52F:=vvo.2 h52
 refine zj<|zk<|zn<|zs<|zr ?_
 refine zU<|zl<|zn<|zb ?_
 obtain ⟨o58,h59,h⟩:=zB h
 refine zO (fun (s:List Int×Bool×Int×List Int×Int×Int)=>⟨[(0,.loc 23 1 0 0),(1,.p (.int .i64 1)),(2,.p (.int .i64 u44)),(3,.p (.int .i64 0)),(44,.p (.int .i64 (vxc.wrap (u44+1)))),(45,.p (.int .i64 s.2.2.2.2.2))],[(21,.arr 3 1 1 (vwb AV.p (vwb (PV.int .i64) s.1))),(23,.arr 218 4 1 [.agg [.p (.slc (vwb (qat (PV.int .i64)) r8)),.own 21 1 0 s.1.length,(if s.2.1=true then .p (.slc (vwb (PV.int .i64) (s.2.2.1 :: s.2.2.2.1))) else .nils),.p (.int .i64 s.2.2.2.2.1)]])]⟩) (fun (o60:List Int×Bool×Int×List Int×Int)=>tE ⟨Tryz.prog,94,128,X,[(21,.arr 3 1 1 (vwb AV.p (vwb (PV.int .i64) (s29.set 0 t34)))),(23,.arr 218 4 1 [.agg [.p (.slc (vwb (qat (PV.int .i64)) r8)),.own 21 1 0 ((s29.set 0 t34)).length,(if s30=true then .p (.slc (vwb (PV.int .i64) (s31 :: s32))) else .nils),.p (.int .i64 s33)]])],i41,w42,False,h43⟩ (.exit 0) ⟨[],[(21,.arr 3 1 1 (vwb AV.p (vwb (PV.int .i64) o60.1))),(23,.arr 218 4 1 [.agg [.p (.slc (vwb (qat (PV.int .i64)) r8)),.own 21 1 0 o60.1.length,(if o60.2.1=true then .p (.slc (vwb (PV.int .i64) (o60.2.2.1 :: o60.2.2.2.1))) else .nils),.p (.int .i64 o60.2.2.2.2)]])]⟩) h59 ?_ ?_
 clear h h35 h35T h37 h40 h40l h40L h52 h52F h59
 intro s x h
 obtain ⟨s61,s62,s63,s64,s65,t66⟩:=s
 simp only [qa5] at h
 dsimp only
 refine zs<|zr ?_
 refine zU<|zl<|zn<|zs ?_
 obtain ⟨h67,h⟩|⟨h67,h⟩:=zI h
 have h67T:=eq_true h67
 refine zi<|zk<|zn<|zs<|zb<|zs<|zr ?_
 refine zU<|zl<|zn<|zs<|zr ?_
 refine zU<|zl<|zn<|zs<|zs<|zr ?_
 refine zU<|zl<|zn<|zb ?_
 obtain ⟨m68,h69,h⟩:=zB h
 refine zO (fun (s:Int×Int)=>⟨[(0,.loc 23 1 0 0),(1,.p (.int .i64 1)),(2,.p (.int .i64 u44)),(3,.p (.int .i64 0)),(8,.p (.int .i64 t66)),(9,.p (.int .i64 s.1)),(44,.p (.int .i64 (vxc.wrap (u44+1)))),(45,.p (.int .i64 t66)),(48,.p (.int .i64 1)),(49,.p (.int .i64 s.2))],[(21,.arr 3 1 1 (vwb AV.p (vwb (PV.int .i64) s61))),(23,.arr 218 4 1 [.agg [.p (.slc (vwb (qat (PV.int .i64)) r8)),.own 21 1 0 s61.length,(if s62=true then .p (.slc (vwb (PV.int .i64) (s63 :: s64))) else .nils),.p (.int .i64 s65)]])]⟩) (fun (o70:Int)=>tE ⟨Tryz.prog,94,128,X,[(21,.arr 3 1 1 (vwb AV.p (vwb (PV.int .i64) (s29.set 0 t34)))),(23,.arr 218 4 1 [.agg [.p (.slc (vwb (qat (PV.int .i64)) r8)),.own 21 1 0 ((s29.set 0 t34)).length,(if s30=true then .p (.slc (vwb (PV.int .i64) (s31 :: s32))) else .nils),.p (.int .i64 s33)]])],i41,w42,False,h43⟩ (.exit 2) ⟨[(0,.loc 23 1 0 0),(1,.p (.int .i64 1)),(2,.p (.int .i64 u44)),(3,.p (.int .i64 0)),(8,.p (.int .i64 t66)),(9,.p (.int .i64 o70)),(44,.p (.int .i64 (vxc.wrap (u44+1)))),(45,.p (.int .i64 t66))],[(21,.arr 3 1 1 (vwb AV.p (vwb (PV.int .i64) s61))),(23,.arr 218 4 1 [.agg [.p (.slc (vwb (qat (PV.int .i64)) r8)),.own 21 1 0 s61.length,(if s62=true then .p (.slc (vwb (PV.int .i64) (s63 :: s64))) else .nils),.p (.int .i64 s65)]])]⟩) h69 ?_ ?_
 clear h h67 h67T h69
 intro s x h
 obtain ⟨m71,t72⟩:=s
 simp only [qjj] at h
 dsimp only
 refine zs<|zr ?_
 refine zU<|zl<|zn<|zs ?_
 obtain ⟨h73,h⟩|⟨h73,h⟩:=zI h
 refine zi<|zk<|zn<|zs<|zb<|zs<|zr ?_
 refine zU<|zl<|zn<|zd ?_
 obtain ⟨x74,h75,h75a,h75b,h⟩:=zX h
 obtain ⟨x76,h77,h77l,h77L,h⟩:=zY 1 h
 obtain ⟨x78,h79,h79a,h79b,h⟩:=zX h
 refine yU ?_
 obtain ⟨r80,h81,h⟩:=zB h
 refine yc (qgy x76 (x78 == t66) _ h81) ?_
 refine yU ?_
 refine yd<|yn<|zn<|zr ?_
 refine zU<|zl ?_
 cases h
 exact ⟨rfl,zE⟩
 refine zj<|zx<|ze ?_
 cases h
 exact ⟨rfl,zE⟩
 try simp only at h
 refine zA<|yh<|zn<|zs<|zr ?_
 obtain ⟨x82,h83,h83l,h83L,h⟩:=zY 1 h
 refine zU<|zl<|zn<|zr ?_
 refine zU ?_
 refine zM ⟨[(0,.loc 23 1 0 0),(1,.p (.int .i64 1)),(2,.p (.int .i64 u44)),(3,.p (.int .i64 0)),(44,.p (.int .i64 (vxc.wrap (u44+1)))),(45,.p (.int .i64 t66)),(82,.loc 23 1 0 0),(84,.p (.int .i64 2)),(88,.p (.int .i64 (if (vxc.wrap (t66+1)) > u44 then (vxc.wrap (t66+1)) else u44))),(91,.p (.int .i64 (vxc.wrap (0+m68))))],[(21,.arr 3 1 1 (vwb AV.p (vwb (PV.int .i64) (s61.set 1 t66)))),(23,.arr 218 4 1 [.agg [.p (.slc (vwb (qat (PV.int .i64)) r8)),.own 21 1 0 ((s61.set 1 t66)).length,(if s62=true then .p (.slc (vwb (PV.int .i64) (s63 :: s64))) else .nils),.p (.int .i64 s65)]])]⟩ ?_
 refine qif (avs:=[.loc 23 1 0 0,.p (.int .i64 2),.p (.int .i64 (if (vxc.wrap (t66+1)) > u44 then (vxc.wrap (t66+1)) else u44)),.p (.int .i64 (vxc.wrap (0+m68)))]) 222 rfl (qbf rfl) rfl func160 rfl call160 ntmps160 (by simp) (by simp only [go_sem,seval,h67T];all_goals rfl) ?_
 intro i84 w85 h86
 obtain ⟨u87,h88,h⟩:=zB h
 replace h88:=vwz h88
 obtain ⟨c89,h90,h⟩:=zB h
 replace h90:=vwz h90
 refine qnl (st':=⟨[(0,.loc 23 1 0 0),(1,.p (.int .i64 2)),(2,.p (.int .i64 u87)),(3,.p (.int .i64 c89))],[(21,.arr 3 1 1 (vwb AV.p (vwb (PV.int .i64) (s61.set 1 t66)))),(23,.arr 218 4 1 [.agg [.p (.slc (vwb (qat (PV.int .i64)) r8)),.own 21 1 0 ((s61.set 1 t66)).length,(if s62=true then .p (.slc (vwb (PV.int .i64) (s63 :: s64))) else .nils),.p (.int .i64 s65)]])]⟩) (by simp only [go_sem,seval,h67T,←h88,←h90];all_goals ((repeat' refine vzq ?_ ?_) <;> first | rfl | (simp;done) | (simp;rfl) | (simp [*];done) | (simp [*];rfl))) ?_
 clear h88 h90
 obtain ⟨o91,h92,h⟩:=zB h
 refine zJ (fun (o:(Unit) ⊕ (Unit))=>match o with | .inl o93=>tE ⟨Tryz.prog,94,222,X,[(21,.arr 3 1 1 (vwb AV.p (vwb (PV.int .i64) (s61.set 1 t66)))),(23,.arr 218 4 1 [.agg [.p (.slc (vwb (qat (PV.int .i64)) r8)),.own 21 1 0 ((s61.set 1 t66)).length,(if s62=true then .p (.slc (vwb (PV.int .i64) (s63 :: s64))) else .nils),.p (.int .i64 s65)]])],i84,w85,False,h86⟩ .normal ⟨[(0,.loc 23 1 0 0),(1,.p (.int .i64 2)),(2,.p (.int .i64 u87)),(3,.p (.int .i64 c89))],[(21,.arr 3 1 1 (vwb AV.p (vwb (PV.int .i64) (s61.set 1 t66)))),(23,.arr 218 4 1 [.agg [.p (.slc (vwb (qat (PV.int .i64)) r8)),.own 21 1 0 ((s61.set 1 t66)).length,(if s62=true then .p (.slc (vwb (PV.int .i64) (s63 :: s64))) else .nils),.p (.int .i64 s65)]])]⟩ | .inr o94=>tE ⟨Tryz.prog,94,222,X,[(21,.arr 3 1 1 (vwb AV.p (vwb (PV.int .i64) (s61.set 1 t66)))),(23,.arr 218 4 1 [.agg [.p (.slc (vwb (qat (PV.int .i64)) r8)),.own 21 1 0 ((s61.set 1 t66)).length,(if s62=true then .p (.slc (vwb (PV.int .i64) (s63 :: s64))) else .nils),.p (.int .i64 s65)]])],i84,w85,False,h86⟩ .ret ⟨[],[(21,.arr 3 1 1 (vwb AV.p (vwb (PV.int .i64) (s61.set 1 t66)))),(23,.arr 218 4 1 [.agg [.p (.slc (vwb (qat (PV.int .i64)) r8)),.own 21 1 0 ((s61.set 1 t66)).length,(if s62=true then .p (.slc (vwb (PV.int .i64) (s63 :: s64))) else .nils),.p (.int .i64 s65)]])]⟩) o91 ?_ ?_
 replace h:=h92
 clear h92
 refine zs<|zr ?_
 refine zW 4 ?_
 obtain ⟨h95,h⟩|⟨h95,h⟩:=zI h
 refine zU ?_
 refine zg ?_
 refine zg ?_
 refine zg ?_
 refine zg ?_
 refine zg ?_
 refine zg ?_
 refine zU<|zl<|zn ?_
 obtain ⟨h96,h⟩|⟨h96,h⟩:=zI h
 refine zi<|zq ?_
 cases h
 exact ⟨rfl,zE⟩
 refine zj<|zk ?_
 cases h
 exact ⟨rfl,zE⟩
 refine zU ?_
 refine zh ?_
 refine zU<|zl<|zn ?_
 refine zj<|zk ?_
 cases h
 exact ⟨rfl,zE⟩
 rcases o91 with ⟨⟩ | ⟨⟩
 try simp only at h
 refine zA<|zn<|zs<|zs<|zr ?_
 refine zU<|zl<|zn ?_
 obtain ⟨h97,h⟩|⟨h97,h⟩:=zI h
 refine zi<|zs<|zr ?_
 refine zU ?_
 obtain ⟨h98,h⟩:=qab h
 refine zCo cln44 259 (PV.int .i64) (s61.set 1 t66) _ rfl ⟨by unfold maxLen;omega,by omega⟩ ?_
 obtain ⟨x99,h100,h100l,h100L,h⟩:=zY 0 h
 obtain ⟨l101,h102,h⟩:=zB h
 replace h102:=vwz h102
 replace h102:=qrg h102 h100
 refine zM ⟨[(3,.p (.int .i64 c89)),(31,.loc 23 1 0 0),(32,.loc 23 1 0 0),(37,.p (.slc (vwb (PV.int .i64) (x99 :: l101))))],[(21,.arr 3 1 1 (vwb AV.p (vwb (PV.int .i64) (s61.set 1 t66)))),(23,.arr 218 4 1 [.agg [.p (.slc (vwb (qat (PV.int .i64)) r8)),.own 21 1 0 ((s61.set 1 t66)).length,(if s62=true then .p (.slc (vwb (PV.int .i64) (s63 :: s64))) else .nils),.p (.int .i64 s65)]])]⟩ ?_
 clear h102
 refine zU<|zl<|zn<|zq<|zt ?_
 refine qg0 (by simp only [results160];simp only [go_sem,seval,h67T,h97];exact rfl) ?_
 refine zl<|yn<|zn<|zr ?_
 refine zU<|zl ?_
 cases h
 exact ⟨rfl,zE⟩
 have h97F:=vvo.2 h97
 refine zj<|zk<|zn<|zs<|zr ?_
 refine zU<|zl<|zn<|zb ?_
 obtain ⟨o103,h104,h⟩:=zB h
 refine zO (fun (s:List Int×Bool×Int×List Int×Int×Int)=>⟨[(0,.loc 23 1 0 0),(1,.p (.int .i64 2)),(2,.p (.int .i64 u87)),(3,.p (.int .i64 c89)),(44,.p (.int .i64 (vxc.wrap (u87+1)))),(45,.p (.int .i64 s.2.2.2.2.2))],[(21,.arr 3 1 1 (vwb AV.p (vwb (PV.int .i64) s.1))),(23,.arr 218 4 1 [.agg [.p (.slc (vwb (qat (PV.int .i64)) r8)),.own 21 1 0 s.1.length,(if s.2.1=true then .p (.slc (vwb (PV.int .i64) (s.2.2.1 :: s.2.2.2.1))) else .nils),.p (.int .i64 s.2.2.2.2.1)]])]⟩) (fun (o105:List Int×Bool×Int×List Int×Int)=>tE ⟨Tryz.prog,94,222,X,[(21,.arr 3 1 1 (vwb AV.p (vwb (PV.int .i64) (s61.set 1 t66)))),(23,.arr 218 4 1 [.agg [.p (.slc (vwb (qat (PV.int .i64)) r8)),.own 21 1 0 ((s61.set 1 t66)).length,(if s62=true then .p (.slc (vwb (PV.int .i64) (s63 :: s64))) else .nils),.p (.int .i64 s65)]])],i84,w85,False,h86⟩ (.exit 0) ⟨[],[(21,.arr 3 1 1 (vwb AV.p (vwb (PV.int .i64) o105.1))),(23,.arr 218 4 1 [.agg [.p (.slc (vwb (qat (PV.int .i64)) r8)),.own 21 1 0 o105.1.length,(if o105.2.1=true then .p (.slc (vwb (PV.int .i64) (o105.2.2.1 :: o105.2.2.2.1))) else .nils),.p (.int .i64 o105.2.2.2.2)]])]⟩) h104 ?_ ?_
 clear h h67 h67T h69 h83 h83l h83L h97 h97F h104
 intro s x h
 obtain ⟨s106,s107,s108,s109,s110,t111⟩:=s
 simp only [qe9] at h
 dsimp only
 refine zs<|zr ?_
 refine zU<|zl<|zn<|zs ?_
 obtain ⟨h112,h⟩|⟨h112,h⟩:=zI h
 have h112T:=eq_true h112
 refine zi<|zk<|zn<|zs<|zb<|zs<|zr ?_
 refine zU<|zl<|zn<|zs<|zr ?_
 refine zU<|zl<|zn<|zs<|zs<|zr ?_
 refine zU<|zl<|zn<|zb ?_
 obtain ⟨m113,h114,h⟩:=zB h
 refine zO (fun (s:Int×Int)=>⟨[(0,.loc 23 1 0 0),(1,.p (.int .i64 2)),(2,.p (.int .i64 u87)),(3,.p (.int .i64 c89)),(8,.p (.int .i64 t111)),(9,.p (.int .i64 s.1)),(44,.p (.int .i64 (vxc.wrap (u87+1)))),(45,.p (.int .i64 t111)),(48,.p (.int .i64 2)),(49,.p (.int .i64 s.2))],[(21,.arr 3 1 1 (vwb AV.p (vwb (PV.int .i64) s106))),(23,.arr 218 4 1 [.agg [.p (.slc (vwb (qat (PV.int .i64)) r8)),.own 21 1 0 s106.length,(if s107=true then .p (.slc (vwb (PV.int .i64) (s108 :: s109))) else .nils),.p (.int .i64 s110)]])]⟩) (fun (o115:Int)=>tE ⟨Tryz.prog,94,222,X,[(21,.arr 3 1 1 (vwb AV.p (vwb (PV.int .i64) (s61.set 1 t66)))),(23,.arr 218 4 1 [.agg [.p (.slc (vwb (qat (PV.int .i64)) r8)),.own 21 1 0 ((s61.set 1 t66)).length,(if s62=true then .p (.slc (vwb (PV.int .i64) (s63 :: s64))) else .nils),.p (.int .i64 s65)]])],i84,w85,False,h86⟩ (.exit 2) ⟨[(0,.loc 23 1 0 0),(1,.p (.int .i64 2)),(2,.p (.int .i64 u87)),(3,.p (.int .i64 c89)),(8,.p (.int .i64 t111)),(9,.p (.int .i64 o115)),(44,.p (.int .i64 (vxc.wrap (u87+1)))),(45,.p (.int .i64 t111))],[(21,.arr 3 1 1 (vwb AV.p (vwb (PV.int .i64) s106))),(23,.arr 218 4 1 [.agg [.p (.slc (vwb (qat (PV.int .i64)) r8)),.own 21 1 0 s106.length,(if s107=true then .p (.slc (vwb (PV.int .i64) (s108 :: s109))) else .nils),.p (.int .i64 s110)]])]⟩) h114 ?_ ?_
 clear h h112 h112T h114
 intro s x h
 obtain ⟨m116,t117⟩:=s
 simp only [qmd] at h
 dsimp only
 refine zs<|zr ?_
 refine zU<|zl<|zn<|zs ?_
 obtain ⟨h118,h⟩|⟨h118,h⟩:=zI h
 refine zi<|zk<|zn<|zs<|zb<|zs<|zr ?_
 refine zU<|zl<|zn<|zd ?_
 obtain ⟨x119,h120,h120a,h120b,h⟩:=zX h
 obtain ⟨x121,h122,h122l,h122L,h⟩:=zY 2 h
 obtain ⟨x123,h124,h124a,h124b,h⟩:=zX h
 refine yU ?_
 obtain ⟨r125,h126,h⟩:=zB h
 refine yc (qgy x121 (x123 == t111) _ h126) ?_
 refine yU ?_
 refine yd<|yn<|zn<|zr ?_
 refine zU<|zl ?_
 cases h
 exact ⟨rfl,zE⟩
 refine zj<|zx<|ze ?_
 cases h
 exact ⟨rfl,zE⟩
 try simp only at h
 refine zA<|yh<|zn<|zs<|zr ?_
 obtain ⟨x127,h128,h128l,h128L,h⟩:=zY 2 h
 refine zU<|zl<|zn<|zr ?_
 refine zU ?_
 refine zM ⟨[(0,.loc 23 1 0 0),(1,.p (.int .i64 2)),(2,.p (.int .i64 u87)),(3,.p (.int .i64 c89)),(44,.p (.int .i64 (vxc.wrap (u87+1)))),(45,.p (.int .i64 t111)),(82,.loc 23 1 0 0),(84,.p (.int .i64 3)),(88,.p (.int .i64 (if (vxc.wrap (t111+1)) > u87 then (vxc.wrap (t111+1)) else u87))),(91,.p (.int .i64 (vxc.wrap (c89+m113))))],[(21,.arr 3 1 1 (vwb AV.p (vwb (PV.int .i64) (s106.set 2 t111)))),(23,.arr 218 4 1 [.agg [.p (.slc (vwb (qat (PV.int .i64)) r8)),.own 21 1 0 ((s106.set 2 t111)).length,(if s107=true then .p (.slc (vwb (PV.int .i64) (s108 :: s109))) else .nils),.p (.int .i64 s110)]])]⟩ ?_
 refine qif (avs:=[.loc 23 1 0 0,.p (.int .i64 3),.p (.int .i64 (if (vxc.wrap (t111+1)) > u87 then (vxc.wrap (t111+1)) else u87)),.p (.int .i64 (vxc.wrap (c89+m113)))]) 316 rfl (qbf rfl) rfl func160 rfl call160 ntmps160 (by simp) (by simp only [go_sem,seval,h112T];all_goals rfl) ?_
 intro i129 w130 h131
 obtain ⟨u132,h133,h⟩:=zB h
 replace h133:=vwz h133
 obtain ⟨c134,h135,h⟩:=zB h
 replace h135:=vwz h135
 refine qnl (st':=⟨[(0,.loc 23 1 0 0),(1,.p (.int .i64 3)),(2,.p (.int .i64 u132)),(3,.p (.int .i64 c134))],[(21,.arr 3 1 1 (vwb AV.p (vwb (PV.int .i64) (s106.set 2 t111)))),(23,.arr 218 4 1 [.agg [.p (.slc (vwb (qat (PV.int .i64)) r8)),.own 21 1 0 ((s106.set 2 t111)).length,(if s107=true then .p (.slc (vwb (PV.int .i64) (s108 :: s109))) else .nils),.p (.int .i64 s110)]])]⟩) (by simp only [go_sem,seval,h112T,←h133,←h135];all_goals ((repeat' refine vzq ?_ ?_) <;> first | rfl | (simp;done) | (simp;rfl) | (simp [*];done) | (simp [*];rfl))) ?_
 clear h133 h135
 obtain ⟨o136,h137,h⟩:=zB h
 refine zJ (fun (o:(Unit) ⊕ (Unit))=>match o with | .inl o138=>tE ⟨Tryz.prog,94,316,X,[(21,.arr 3 1 1 (vwb AV.p (vwb (PV.int .i64) (s106.set 2 t111)))),(23,.arr 218 4 1 [.agg [.p (.slc (vwb (qat (PV.int .i64)) r8)),.own 21 1 0 ((s106.set 2 t111)).length,(if s107=true then .p (.slc (vwb (PV.int .i64) (s108 :: s109))) else .nils),.p (.int .i64 s110)]])],i129,w130,False,h131⟩ .normal ⟨[(0,.loc 23 1 0 0),(1,.p (.int .i64 3)),(2,.p (.int .i64 u132)),(3,.p (.int .i64 c134))],[(21,.arr 3 1 1 (vwb AV.p (vwb (PV.int .i64) (s106.set 2 t111)))),(23,.arr 218 4 1 [.agg [.p (.slc (vwb (qat (PV.int .i64)) r8)),.own 21 1 0 ((s106.set 2 t111)).length,(if s107=true then .p (.slc (vwb (PV.int .i64) (s108 :: s109))) else .nils),.p (.int .i64 s110)]])]⟩ | .inr o139=>tE ⟨Tryz.prog,94,316,X,[(21,.arr 3 1 1 (vwb AV.p (vwb (PV.int .i64) (s106.set 2 t111)))),(23,.arr 218 4 1 [.agg [.p (.slc (vwb (qat (PV.int .i64)) r8)),.own 21 1 0 ((s106.set 2 t111)).length,(if s107=true then .p (.slc (vwb (PV.int .i64) (s108 :: s109))) else .nils),.p (.int .i64 s110)]])],i129,w130,False,h131⟩ .ret ⟨[],[(21,.arr 3 1 1 (vwb AV.p (vwb (PV.int .i64) (s106.set 2 t111)))),(23,.arr 218 4 1 [.agg [.p (.slc (vwb (qat (PV.int .i64)) r8)),.own 21 1 0 ((s106.set 2 t111)).length,(if s107=true then .p (.slc (vwb (PV.int .i64) (s108 :: s109))) else .nils),.p (.int .i64 s110)]])]⟩) o136 ?_ ?_
 replace h:=h137
 clear h137
 refine zs<|zr ?_
 refine zW 4 ?_
 obtain ⟨h140,h⟩|⟨h140,h⟩:=zI h
 refine zU ?_
 refine zg ?_
 refine zg ?_
 refine zg ?_
 refine zg ?_
 refine zg ?_
 refine zg ?_
 refine zU<|zl<|zn ?_
 obtain ⟨h141,h⟩|⟨h141,h⟩:=zI h
 refine zi<|zq ?_
 cases h
 exact ⟨rfl,zE⟩
 refine zj<|zk ?_
 cases h
 exact ⟨rfl,zE⟩
 refine zU ?_
 refine zh ?_
 refine zU<|zl<|zn ?_
 refine zj<|zk ?_
 cases h
 exact ⟨rfl,zE⟩
 rcases o136 with ⟨⟩ | ⟨⟩
 try simp only at h
 refine zA<|zn<|zs<|zs<|zr ?_
 refine zU<|zl<|zn ?_
 obtain ⟨h142,h⟩|⟨h142,h⟩:=zI h
 refine zi<|zs<|zr ?_
 refine zU ?_
 obtain ⟨h143,h⟩:=qab h
 refine zCo cln44 353 (PV.int .i64) (s106.set 2 t111) _ rfl ⟨by unfold maxLen;omega,by omega⟩ ?_
 obtain ⟨x144,h145,h145l,h145L,h⟩:=zY 0 h
 obtain ⟨l146,h147,h⟩:=zB h
 replace h147:=vwz h147
 replace h147:=qrg h147 h145
 refine zM ⟨[(3,.p (.int .i64 c134)),(31,.loc 23 1 0 0),(32,.loc 23 1 0 0),(37,.p (.slc (vwb (PV.int .i64) (x144 :: l146))))],[(21,.arr 3 1 1 (vwb AV.p (vwb (PV.int .i64) (s106.set 2 t111)))),(23,.arr 218 4 1 [.agg [.p (.slc (vwb (qat (PV.int .i64)) r8)),.own 21 1 0 ((s106.set 2 t111)).length,(if s107=true then .p (.slc (vwb (PV.int .i64) (s108 :: s109))) else .nils),.p (.int .i64 s110)]])]⟩ ?_
 clear h147
 refine zU<|zl<|zn<|zq<|zt ?_
 refine qg0 (by simp only [results160];simp only [go_sem,seval,h112T,h142];exact rfl) ?_
 refine zl<|yn<|zn<|zr ?_
 refine zU<|zl ?_
 cases h
 exact ⟨rfl,zE⟩
 have h142F:=vvo.2 h142
 refine zj<|zk<|zn<|zs<|zr ?_
 refine zU<|zl<|zn<|zb ?_
 obtain ⟨o148,h149,h⟩:=zB h
 refine zO (fun (s:List Int×Bool×Int×List Int×Int×Int)=>⟨[(0,.loc 23 1 0 0),(1,.p (.int .i64 3)),(2,.p (.int .i64 u132)),(3,.p (.int .i64 c134)),(44,.p (.int .i64 (vxc.wrap (u132+1)))),(45,.p (.int .i64 s.2.2.2.2.2))],[(21,.arr 3 1 1 (vwb AV.p (vwb (PV.int .i64) s.1))),(23,.arr 218 4 1 [.agg [.p (.slc (vwb (qat (PV.int .i64)) r8)),.own 21 1 0 s.1.length,(if s.2.1=true then .p (.slc (vwb (PV.int .i64) (s.2.2.1 :: s.2.2.2.1))) else .nils),.p (.int .i64 s.2.2.2.2.1)]])]⟩) (fun (o150:List Int×Bool×Int×List Int×Int)=>tE ⟨Tryz.prog,94,316,X,[(21,.arr 3 1 1 (vwb AV.p (vwb (PV.int .i64) (s106.set 2 t111)))),(23,.arr 218 4 1 [.agg [.p (.slc (vwb (qat (PV.int .i64)) r8)),.own 21 1 0 ((s106.set 2 t111)).length,(if s107=true then .p (.slc (vwb (PV.int .i64) (s108 :: s109))) else .nils),.p (.int .i64 s110)]])],i129,w130,False,h131⟩ (.exit 0) ⟨[],[(21,.arr 3 1 1 (vwb AV.p (vwb (PV.int .i64) o150.1))),(23,.arr 218 4 1 [.agg [.p (.slc (vwb (qat (PV.int .i64)) r8)),.own 21 1 0 o150.1.length,(if o150.2.1=true then .p (.slc (vwb (PV.int .i64) (o150.2.2.1 :: o150.2.2.2.1))) else .nils),.p (.int .i64 o150.2.2.2.2)]])]⟩) h149 ?_ ?_
 clear h h112 h112T h114 h128 h128l h128L h142 h142F h149
 intro s x h
 obtain ⟨s151,s152,s153,s154,s155,t156⟩:=s
 simp only [qe8] at h
 dsimp only
 refine zs<|zr ?_
 refine zU<|zl<|zn<|zs ?_
 obtain ⟨h157,h⟩|⟨h157,h⟩:=zI h
 have h157T:=eq_true h157
 refine zi<|zk<|zn<|zs<|zb<|zs<|zr ?_
 refine zU<|zl<|zn<|zs<|zr ?_
 refine zU<|zl<|zn<|zs<|zs<|zr ?_
 refine zU<|zl<|zn<|zb ?_
 obtain ⟨m158,h159,h⟩:=zB h
 refine zO (fun (s:Int×Int)=>⟨[(0,.loc 23 1 0 0),(1,.p (.int .i64 3)),(2,.p (.int .i64 u132)),(3,.p (.int .i64 c134)),(8,.p (.int .i64 t156)),(9,.p (.int .i64 s.1)),(44,.p (.int .i64 (vxc.wrap (u132+1)))),(45,.p (.int .i64 t156)),(48,.p (.int .i64 3)),(49,.p (.int .i64 s.2))],[(21,.arr 3 1 1 (vwb AV.p (vwb (PV.int .i64) s151))),(23,.arr 218 4 1 [.agg [.p (.slc (vwb (qat (PV.int .i64)) r8)),.own 21 1 0 s151.length,(if s152=true then .p (.slc (vwb (PV.int .i64) (s153 :: s154))) else .nils),.p (.int .i64 s155)]])]⟩) (fun (o160:Int)=>tE ⟨Tryz.prog,94,316,X,[(21,.arr 3 1 1 (vwb AV.p (vwb (PV.int .i64) (s106.set 2 t111)))),(23,.arr 218 4 1 [.agg [.p (.slc (vwb (qat (PV.int .i64)) r8)),.own 21 1 0 ((s106.set 2 t111)).length,(if s107=true then .p (.slc (vwb (PV.int .i64) (s108 :: s109))) else .nils),.p (.int .i64 s110)]])],i129,w130,False,h131⟩ (.exit 2) ⟨[(0,.loc 23 1 0 0),(1,.p (.int .i64 3)),(2,.p (.int .i64 u132)),(3,.p (.int .i64 c134)),(8,.p (.int .i64 t156)),(9,.p (.int .i64 o160)),(44,.p (.int .i64 (vxc.wrap (u132+1)))),(45,.p (.int .i64 t156))],[(21,.arr 3 1 1 (vwb AV.p (vwb (PV.int .i64) s151))),(23,.arr 218 4 1 [.agg [.p (.slc (vwb (qat (PV.int .i64)) r8)),.own 21 1 0 s151.length,(if s152=true then .p (.slc (vwb (PV.int .i64) (s153 :: s154))) else .nils),.p (.int .i64 s155)]])]⟩) h159 ?_ ?_
 clear h h157 h157T h159
 intro s x h
 obtain ⟨m161,t162⟩:=s
 simp only [qme] at h
 dsimp only
 refine zs<|zr ?_
 refine zU<|zl<|zn<|zs ?_
 obtain ⟨h163,h⟩|⟨h163,h⟩:=zI h
 refine zi<|zk<|zn<|zs<|zb<|zs<|zr ?_
 refine zU<|zl<|zn<|zd ?_
 obtain ⟨x164,h165,h165a,h165b,h⟩:=zX h
 obtain ⟨x166,h167,h167l,h167L,h⟩:=zY 3 h
 obtain ⟨x168,h169,h169a,h169b,h⟩:=zX h
 refine yU ?_
 obtain ⟨r170,h171,h⟩:=zB h
 refine yc (qgy x166 (x168 == t156) _ h171) ?_
 refine yU ?_
 refine yd<|yn<|zn<|zr ?_
 refine zU<|zl ?_
 cases h
 exact ⟨rfl,zE⟩
 refine zj<|zx<|ze ?_
 cases h
 exact ⟨rfl,zE⟩
 try simp only at h
 refine zA<|yh<|zn<|zs<|zr ?_
 obtain ⟨x172,h173,h173l,h173L,h⟩:=zY 3 h
 refine zU<|zl<|zn<|zr ?_
 refine zU ?_
 refine zM ⟨[(0,.loc 23 1 0 0),(1,.p (.int .i64 3)),(2,.p (.int .i64 u132)),(3,.p (.int .i64 c134)),(44,.p (.int .i64 (vxc.wrap (u132+1)))),(45,.p (.int .i64 t156)),(82,.loc 23 1 0 0),(84,.p (.int .i64 4)),(88,.p (.int .i64 (if (vxc.wrap (t156+1)) > u132 then (vxc.wrap (t156+1)) else u132))),(91,.p (.int .i64 (vxc.wrap (c134+m158))))],[(21,.arr 3 1 1 (vwb AV.p (vwb (PV.int .i64) (s151.set 3 t156)))),(23,.arr 218 4 1 [.agg [.p (.slc (vwb (qat (PV.int .i64)) r8)),.own 21 1 0 ((s151.set 3 t156)).length,(if s152=true then .p (.slc (vwb (PV.int .i64) (s153 :: s154))) else .nils),.p (.int .i64 s155)]])]⟩ ?_
 refine qif (avs:=[.loc 23 1 0 0,.p (.int .i64 4),.p (.int .i64 (if (vxc.wrap (t156+1)) > u132 then (vxc.wrap (t156+1)) else u132)),.p (.int .i64 (vxc.wrap (c134+m158)))]) 410 rfl (qbf rfl) rfl func160 rfl call160 ntmps160 (by simp) (by simp only [go_sem,seval,h157T];all_goals rfl) ?_
 intro i174 w175 h176
 obtain ⟨u177,h178,h⟩:=zB h
 replace h178:=vwz h178
 obtain ⟨c179,h180,h⟩:=zB h
 replace h180:=vwz h180
 refine qnl (st':=⟨[(0,.loc 23 1 0 0),(1,.p (.int .i64 4)),(2,.p (.int .i64 u177)),(3,.p (.int .i64 c179))],[(21,.arr 3 1 1 (vwb AV.p (vwb (PV.int .i64) (s151.set 3 t156)))),(23,.arr 218 4 1 [.agg [.p (.slc (vwb (qat (PV.int .i64)) r8)),.own 21 1 0 ((s151.set 3 t156)).length,(if s152=true then .p (.slc (vwb (PV.int .i64) (s153 :: s154))) else .nils),.p (.int .i64 s155)]])]⟩) (by simp only [go_sem,seval,h157T,←h178,←h180];all_goals ((repeat' refine vzq ?_ ?_) <;> first | rfl | (simp;done) | (simp;rfl) | (simp [*];done) | (simp [*];rfl))) ?_
 clear h178 h180
 obtain ⟨o181,h182,h⟩:=zB h
 refine zJ (fun (o:(Unit) ⊕ (Unit))=>match o with | .inl o183=>tE ⟨Tryz.prog,94,410,X,[(21,.arr 3 1 1 (vwb AV.p (vwb (PV.int .i64) (s151.set 3 t156)))),(23,.arr 218 4 1 [.agg [.p (.slc (vwb (qat (PV.int .i64)) r8)),.own 21 1 0 ((s151.set 3 t156)).length,(if s152=true then .p (.slc (vwb (PV.int .i64) (s153 :: s154))) else .nils),.p (.int .i64 s155)]])],i174,w175,False,h176⟩ .normal ⟨[(0,.loc 23 1 0 0),(1,.p (.int .i64 4)),(2,.p (.int .i64 u177)),(3,.p (.int .i64 c179))],[(21,.arr 3 1 1 (vwb AV.p (vwb (PV.int .i64) (s151.set 3 t156)))),(23,.arr 218 4 1 [.agg [.p (.slc (vwb (qat (PV.int .i64)) r8)),.own 21 1 0 ((s151.set 3 t156)).length,(if s152=true then .p (.slc (vwb (PV.int .i64) (s153 :: s154))) else .nils),.p (.int .i64 s155)]])]⟩ | .inr o184=>tE ⟨Tryz.prog,94,410,X,[(21,.arr 3 1 1 (vwb AV.p (vwb (PV.int .i64) (s151.set 3 t156)))),(23,.arr 218 4 1 [.agg [.p (.slc (vwb (qat (PV.int .i64)) r8)),.own 21 1 0 ((s151.set 3 t156)).length,(if s152=true then .p (.slc (vwb (PV.int .i64) (s153 :: s154))) else .nils),.p (.int .i64 s155)]])],i174,w175,False,h176⟩ .ret ⟨[],[(21,.arr 3 1 1 (vwb AV.p (vwb (PV.int .i64) (s151.set 3 t156)))),(23,.arr 218 4 1 [.agg [.p (.slc (vwb (qat (PV.int .i64)) r8)),.own 21 1 0 ((s151.set 3 t156)).length,(if s152=true then .p (.slc (vwb (PV.int .i64) (s153 :: s154))) else .nils),.p (.int .i64 s155)]])]⟩) o181 ?_ ?_
 replace h:=h182
 clear h182
 refine zs<|zr ?_
 refine zW 4 ?_
 obtain ⟨h185,h⟩|⟨h185,h⟩:=zI h
 refine zU ?_
 refine zg ?_
 refine zg ?_
 refine zg ?_
 refine zg ?_
 refine zg ?_
 refine zg ?_
 refine zU<|zl<|zn ?_
 obtain ⟨h186,h⟩|⟨h186,h⟩:=zI h
 refine zi<|zq ?_
 cases h
 exact ⟨rfl,zE⟩
 refine zj<|zk ?_
 cases h
 exact ⟨rfl,zE⟩
 refine zU ?_
 refine zh ?_
 refine zU<|zl<|zn ?_
 refine zj<|zk ?_
 cases h
 exact ⟨rfl,zE⟩
 rcases o181 with ⟨⟩ | ⟨⟩
 try simp only at h
 refine zA<|zn<|zs<|zs<|zr ?_
 refine zU<|zl<|zn ?_
 obtain ⟨h187,h⟩|⟨h187,h⟩:=zI h
 refine zi<|zs<|zr ?_
 refine zU ?_
 obtain ⟨h188,h⟩:=qab h
 refine zCo cln44 447 (PV.int .i64) (s151.set 3 t156) _ rfl ⟨by unfold maxLen;omega,by omega⟩ ?_
 obtain ⟨x189,h190,h190l,h190L,h⟩:=zY 0 h
 obtain ⟨l191,h192,h⟩:=zB h
 replace h192:=vwz h192
 replace h192:=qrg h192 h190
 refine zM ⟨[(3,.p (.int .i64 c179)),(31,.loc 23 1 0 0),(32,.loc 23 1 0 0),(37,.p (.slc (vwb (PV.int .i64) (x189 :: l191))))],[(21,.arr 3 1 1 (vwb AV.p (vwb (PV.int .i64) (s151.set 3 t156)))),(23,.arr 218 4 1 [.agg [.p (.slc (vwb (qat (PV.int .i64)) r8)),.own 21 1 0 ((s151.set 3 t156)).length,(if s152=true then .p (.slc (vwb (PV.int .i64) (s153 :: s154))) else .nils),.p (.int .i64 s155)]])]⟩ ?_
 clear h192
 refine zU<|zl<|zn<|zq<|zt ?_
 refine qg0 (by simp only [results160];simp only [go_sem,seval,h157T,h187];exact rfl) ?_
 refine zl<|yn<|zn<|zr ?_
 refine zU<|zl ?_
 cases h
 exact ⟨rfl,zE⟩
 have h187F:=vvo.2 h187
 refine zj<|zk<|zn<|zs<|zr ?_
 refine zU<|zl<|zn<|zb ?_
 obtain ⟨o193,h194,h⟩:=zB h
 refine zO (fun (s:List Int×Bool×Int×List Int×Int×Int)=>⟨[(0,.loc 23 1 0 0),(1,.p (.int .i64 4)),(2,.p (.int .i64 u177)),(3,.p (.int .i64 c179)),(44,.p (.int .i64 (vxc.wrap (u177+1)))),(45,.p (.int .i64 s.2.2.2.2.2))],[(21,.arr 3 1 1 (vwb AV.p (vwb (PV.int .i64) s.1))),(23,.arr 218 4 1 [.agg [.p (.slc (vwb (qat (PV.int .i64)) r8)),.own 21 1 0 s.1.length,(if s.2.1=true then .p (.slc (vwb (PV.int .i64) (s.2.2.1 :: s.2.2.2.1))) else .nils),.p (.int .i64 s.2.2.2.2.1)]])]⟩) (fun (o195:List Int×Bool×Int×List Int×Int)=>tE ⟨Tryz.prog,94,410,X,[(21,.arr 3 1 1 (vwb AV.p (vwb (PV.int .i64) (s151.set 3 t156)))),(23,.arr 218 4 1 [.agg [.p (.slc (vwb (qat (PV.int .i64)) r8)),.own 21 1 0 ((s151.set 3 t156)).length,(if s152=true then .p (.slc (vwb (PV.int .i64) (s153 :: s154))) else .nils),.p (.int .i64 s155)]])],i174,w175,False,h176⟩ (.exit 0) ⟨[],[(21,.arr 3 1 1 (vwb AV.p (vwb (PV.int .i64) o195.1))),(23,.arr 218 4 1 [.agg [.p (.slc (vwb (qat (PV.int .i64)) r8)),.own 21 1 0 o195.1.length,(if o195.2.1=true then .p (.slc (vwb (PV.int .i64) (o195.2.2.1 :: o195.2.2.2.1))) else .nils),.p (.int .i64 o195.2.2.2.2)]])]⟩) h194 ?_ ?_
 clear h h157 h157T h159 h173 h173l h173L h187 h187F h194
 intro s x h
 obtain ⟨s196,s197,s198,s199,s200,t201⟩:=s
 simp only [qe7] at h
 dsimp only
 refine zs<|zr ?_
 refine zU<|zl<|zn<|zs ?_
 obtain ⟨h202,h⟩|⟨h202,h⟩:=zI h
 have h202T:=eq_true h202
 refine zi<|zk<|zn<|zs<|zb<|zs<|zr ?_
 refine zU<|zl<|zn<|zs<|zr ?_
 refine zU<|zl<|zn<|zs<|zs<|zr ?_
 refine zU<|zl<|zn<|zb ?_
 obtain ⟨m203,h204,h⟩:=zB h
 refine zO (fun (s:Int×Int)=>⟨[(0,.loc 23 1 0 0),(1,.p (.int .i64 4)),(2,.p (.int .i64 u177)),(3,.p (.int .i64 c179)),(8,.p (.int .i64 t201)),(9,.p (.int .i64 s.1)),(44,.p (.int .i64 (vxc.wrap (u177+1)))),(45,.p (.int .i64 t201)),(48,.p (.int .i64 4)),(49,.p (.int .i64 s.2))],[(21,.arr 3 1 1 (vwb AV.p (vwb (PV.int .i64) s196))),(23,.arr 218 4 1 [.agg [.p (.slc (vwb (qat (PV.int .i64)) r8)),.own 21 1 0 s196.length,(if s197=true then .p (.slc (vwb (PV.int .i64) (s198 :: s199))) else .nils),.p (.int .i64 s200)]])]⟩) (fun (o205:Int)=>tE ⟨Tryz.prog,94,410,X,[(21,.arr 3 1 1 (vwb AV.p (vwb (PV.int .i64) (s151.set 3 t156)))),(23,.arr 218 4 1 [.agg [.p (.slc (vwb (qat (PV.int .i64)) r8)),.own 21 1 0 ((s151.set 3 t156)).length,(if s152=true then .p (.slc (vwb (PV.int .i64) (s153 :: s154))) else .nils),.p (.int .i64 s155)]])],i174,w175,False,h176⟩ (.exit 2) ⟨[(0,.loc 23 1 0 0),(1,.p (.int .i64 4)),(2,.p (.int .i64 u177)),(3,.p (.int .i64 c179)),(8,.p (.int .i64 t201)),(9,.p (.int .i64 o205)),(44,.p (.int .i64 (vxc.wrap (u177+1)))),(45,.p (.int .i64 t201))],[(21,.arr 3 1 1 (vwb AV.p (vwb (PV.int .i64) s196))),(23,.arr 218 4 1 [.agg [.p (.slc (vwb (qat (PV.int .i64)) r8)),.own 21 1 0 s196.length,(if s197=true then .p (.slc (vwb (PV.int .i64) (s198 :: s199))) else .nils),.p (.int .i64 s200)]])]⟩) h204 ?_ ?_
 clear h h202 h202T h204
 intro s x h
 obtain ⟨m206,t207⟩:=s
 simp only [qmf] at h
 dsimp only
 refine zs<|zr ?_
 refine zU<|zl<|zn<|zs ?_
 obtain ⟨h208,h⟩|⟨h208,h⟩:=zI h
 refine zi<|zk<|zn<|zs<|zb<|zs<|zr ?_
 refine zU<|zl<|zn<|zd ?_
 obtain ⟨x209,h210,h210a,h210b,h⟩:=zX h
 obtain ⟨x211,h212,h212l,h212L,h⟩:=zY 4 h
 obtain ⟨x213,h214,h214a,h214b,h⟩:=zX h
 refine yU ?_
 obtain ⟨r215,h216,h⟩:=zB h
 refine yc (qgy x211 (x213 == t201) _ h216) ?_
 refine yU ?_
 refine yd<|yn<|zn<|zr ?_
 refine zU<|zl ?_
 cases h
 exact ⟨rfl,zE⟩
 refine zj<|zx<|ze ?_
 cases h
 exact ⟨rfl,zE⟩
 try simp only at h
 refine zA<|yh<|zn<|zs<|zr ?_
 obtain ⟨x217,h218,h218l,h218L,h⟩:=zY 4 h
 refine zU<|zl<|zn<|zr ?_
 refine zU ?_
 refine zM ⟨[(0,.loc 23 1 0 0),(1,.p (.int .i64 4)),(2,.p (.int .i64 u177)),(3,.p (.int .i64 c179)),(44,.p (.int .i64 (vxc.wrap (u177+1)))),(45,.p (.int .i64 t201)),(82,.loc 23 1 0 0),(84,.p (.int .i64 5)),(88,.p (.int .i64 (if (vxc.wrap (t201+1)) > u177 then (vxc.wrap (t201+1)) else u177))),(91,.p (.int .i64 (vxc.wrap (c179+m203))))],[(21,.arr 3 1 1 (vwb AV.p (vwb (PV.int .i64) (s196.set 4 t201)))),(23,.arr 218 4 1 [.agg [.p (.slc (vwb (qat (PV.int .i64)) r8)),.own 21 1 0 ((s196.set 4 t201)).length,(if s197=true then .p (.slc (vwb (PV.int .i64) (s198 :: s199))) else .nils),.p (.int .i64 s200)]])]⟩ ?_
 refine qif (avs:=[.loc 23 1 0 0,.p (.int .i64 5),.p (.int .i64 (if (vxc.wrap (t201+1)) > u177 then (vxc.wrap (t201+1)) else u177)),.p (.int .i64 (vxc.wrap (c179+m203)))]) 504 rfl (qbf rfl) rfl func160 rfl call160 ntmps160 (by simp) (by simp only [go_sem,seval,h202T];all_goals rfl) ?_
 intro i219 w220 h221
 obtain ⟨u222,h223,h⟩:=zB h
 replace h223:=vwz h223
 obtain ⟨c224,h225,h⟩:=zB h
 replace h225:=vwz h225
 refine qnl (st':=⟨[(0,.loc 23 1 0 0),(1,.p (.int .i64 5)),(2,.p (.int .i64 u222)),(3,.p (.int .i64 c224))],[(21,.arr 3 1 1 (vwb AV.p (vwb (PV.int .i64) (s196.set 4 t201)))),(23,.arr 218 4 1 [.agg [.p (.slc (vwb (qat (PV.int .i64)) r8)),.own 21 1 0 ((s196.set 4 t201)).length,(if s197=true then .p (.slc (vwb (PV.int .i64) (s198 :: s199))) else .nils),.p (.int .i64 s200)]])]⟩) (by simp only [go_sem,seval,h202T,←h223,←h225];all_goals ((repeat' refine vzq ?_ ?_) <;> first | rfl | (simp;done) | (simp;rfl) | (simp [*];done) | (simp [*];rfl))) ?_
 clear h223 h225
 obtain ⟨o226,h227,h⟩:=zB h
 refine zJ (fun (o:(Unit) ⊕ (Unit))=>match o with | .inl o228=>tE ⟨Tryz.prog,94,504,X,[(21,.arr 3 1 1 (vwb AV.p (vwb (PV.int .i64) (s196.set 4 t201)))),(23,.arr 218 4 1 [.agg [.p (.slc (vwb (qat (PV.int .i64)) r8)),.own 21 1 0 ((s196.set 4 t201)).length,(if s197=true then .p (.slc (vwb (PV.int .i64) (s198 :: s199))) else .nils),.p (.int .i64 s200)]])],i219,w220,False,h221⟩ .normal ⟨[(0,.loc 23 1 0 0),(1,.p (.int .i64 5)),(2,.p (.int .i64 u222)),(3,.p (.int .i64 c224))],[(21,.arr 3 1 1 (vwb AV.p (vwb (PV.int .i64) (s196.set 4 t201)))),(23,.arr 218 4 1 [.agg [.p (.slc (vwb (qat (PV.int .i64)) r8)),.own 21 1 0 ((s196.set 4 t201)).length,(if s197=true then .p (.slc (vwb (PV.int .i64) (s198 :: s199))) else .nils),.p (.int .i64 s200)]])]⟩ | .inr o229=>tE ⟨Tryz.prog,94,504,X,[(21,.arr 3 1 1 (vwb AV.p (vwb (PV.int .i64) (s196.set 4 t201)))),(23,.arr 218 4 1 [.agg [.p (.slc (vwb (qat (PV.int .i64)) r8)),.own 21 1 0 ((s196.set 4 t201)).length,(if s197=true then .p (.slc (vwb (PV.int .i64) (s198 :: s199))) else .nils),.p (.int .i64 s200)]])],i219,w220,False,h221⟩ .ret ⟨[],[(21,.arr 3 1 1 (vwb AV.p (vwb (PV.int .i64) (s196.set 4 t201)))),(23,.arr 218 4 1 [.agg [.p (.slc (vwb (qat (PV.int .i64)) r8)),.own 21 1 0 ((s196.set 4 t201)).length,(if s197=true then .p (.slc (vwb (PV.int .i64) (s198 :: s199))) else .nils),.p (.int .i64 s200)]])]⟩) o226 ?_ ?_
 replace h:=h227
 clear h227
 refine zs<|zr ?_
 refine zW 4 ?_
 obtain ⟨h230,h⟩|⟨h230,h⟩:=zI h
 refine zU ?_
 refine zg ?_
 refine zg ?_
 refine zg ?_
 refine zg ?_
 refine zg ?_
 refine zg ?_
 refine zU<|zl<|zn ?_
 obtain ⟨h231,h⟩|⟨h231,h⟩:=zI h
 refine zi<|zq ?_
 cases h
 exact ⟨rfl,zE⟩
 refine zj<|zk ?_
 cases h
 exact ⟨rfl,zE⟩
 refine zU ?_
 refine zh ?_
 refine zU<|zl<|zn ?_
 refine zj<|zk ?_
 cases h
 exact ⟨rfl,zE⟩
 rcases o226 with ⟨⟩ | ⟨⟩
 try simp only at h
 refine zA<|zn<|zs<|zs<|zr ?_
 refine zU<|zl<|zn ?_
 obtain ⟨h232,h⟩|⟨h232,h⟩:=zI h
 refine zi<|zs<|zr ?_
 refine zU ?_
 obtain ⟨h233,h⟩:=qab h
 refine zCo cln44 541 (PV.int .i64) (s196.set 4 t201) _ rfl ⟨by unfold maxLen;omega,by omega⟩ ?_
 obtain ⟨x234,h235,h235l,h235L,h⟩:=zY 0 h
 obtain ⟨l236,h237,h⟩:=zB h
 replace h237:=vwz h237
 replace h237:=qrg h237 h235
 refine zM ⟨[(3,.p (.int .i64 c224)),(31,.loc 23 1 0 0),(32,.loc 23 1 0 0),(37,.p (.slc (vwb (PV.int .i64) (x234 :: l236))))],[(21,.arr 3 1 1 (vwb AV.p (vwb (PV.int .i64) (s196.set 4 t201)))),(23,.arr 218 4 1 [.agg [.p (.slc (vwb (qat (PV.int .i64)) r8)),.own 21 1 0 ((s196.set 4 t201)).length,(if s197=true then .p (.slc (vwb (PV.int .i64) (s198 :: s199))) else .nils),.p (.int .i64 s200)]])]⟩ ?_
 clear h237
 refine zU<|zl<|zn<|zq<|zt ?_
 refine qg0 (by simp only [results160];simp only [go_sem,seval,h202T,h232];exact rfl) ?_
 refine zl<|yn<|zn<|zr ?_
 refine zU<|zl ?_
 cases h
 exact ⟨rfl,zE⟩
 have h232F:=vvo.2 h232
 refine zj<|zk<|zn<|zs<|zr ?_
 refine zU<|zl<|zn<|zb ?_
 obtain ⟨o238,h239,h⟩:=zB h
 refine zO (fun (s:List Int×Bool×Int×List Int×Int×Int)=>⟨[(0,.loc 23 1 0 0),(1,.p (.int .i64 5)),(2,.p (.int .i64 u222)),(3,.p (.int .i64 c224)),(44,.p (.int .i64 (vxc.wrap (u222+1)))),(45,.p (.int .i64 s.2.2.2.2.2))],[(21,.arr 3 1 1 (vwb AV.p (vwb (PV.int .i64) s.1))),(23,.arr 218 4 1 [.agg [.p (.slc (vwb (qat (PV.int .i64)) r8)),.own 21 1 0 s.1.length,(if s.2.1=true then .p (.slc (vwb (PV.int .i64) (s.2.2.1 :: s.2.2.2.1))) else .nils),.p (.int .i64 s.2.2.2.2.1)]])]⟩) (fun (o240:List Int×Bool×Int×List Int×Int)=>tE ⟨Tryz.prog,94,504,X,[(21,.arr 3 1 1 (vwb AV.p (vwb (PV.int .i64) (s196.set 4 t201)))),(23,.arr 218 4 1 [.agg [.p (.slc (vwb (qat (PV.int .i64)) r8)),.own 21 1 0 ((s196.set 4 t201)).length,(if s197=true then .p (.slc (vwb (PV.int .i64) (s198 :: s199))) else .nils),.p (.int .i64 s200)]])],i219,w220,False,h221⟩ (.exit 0) ⟨[],[(21,.arr 3 1 1 (vwb AV.p (vwb (PV.int .i64) o240.1))),(23,.arr 218 4 1 [.agg [.p (.slc (vwb (qat (PV.int .i64)) r8)),.own 21 1 0 o240.1.length,(if o240.2.1=true then .p (.slc (vwb (PV.int .i64) (o240.2.2.1 :: o240.2.2.2.1))) else .nils),.p (.int .i64 o240.2.2.2.2)]])]⟩) h239 ?_ ?_
 clear h h202 h202T h204 h218 h218l h218L h232 h232F h239
 intro s x h
 obtain ⟨s241,s242,s243,s244,s245,t246⟩:=s
 simp only [qbs] at h
 dsimp only
 refine zs<|zr ?_
 refine zU<|zl<|zn<|zs ?_
 obtain ⟨h247,h⟩|⟨h247,h⟩:=zI h
 have h247T:=eq_true h247
 refine zi<|zk<|zn<|zs<|zb<|zs<|zr ?_
 refine zU<|zl<|zn<|zs<|zr ?_
 refine zU<|zl<|zn<|zs<|zs<|zr ?_
 refine zU<|zl<|zn<|zb ?_
 obtain ⟨m248,h249,h⟩:=zB h
 refine zO (fun (s:Int×Int)=>⟨[(0,.loc 23 1 0 0),(1,.p (.int .i64 5)),(2,.p (.int .i64 u222)),(3,.p (.int .i64 c224)),(8,.p (.int .i64 t246)),(9,.p (.int .i64 s.1)),(44,.p (.int .i64 (vxc.wrap (u222+1)))),(45,.p (.int .i64 t246)),(48,.p (.int .i64 5)),(49,.p (.int .i64 s.2))],[(21,.arr 3 1 1 (vwb AV.p (vwb (PV.int .i64) s241))),(23,.arr 218 4 1 [.agg [.p (.slc (vwb (qat (PV.int .i64)) r8)),.own 21 1 0 s241.length,(if s242=true then .p (.slc (vwb (PV.int .i64) (s243 :: s244))) else .nils),.p (.int .i64 s245)]])]⟩) (fun (o250:Int)=>tE ⟨Tryz.prog,94,504,X,[(21,.arr 3 1 1 (vwb AV.p (vwb (PV.int .i64) (s196.set 4 t201)))),(23,.arr 218 4 1 [.agg [.p (.slc (vwb (qat (PV.int .i64)) r8)),.own 21 1 0 ((s196.set 4 t201)).length,(if s197=true then .p (.slc (vwb (PV.int .i64) (s198 :: s199))) else .nils),.p (.int .i64 s200)]])],i219,w220,False,h221⟩ (.exit 2) ⟨[(0,.loc 23 1 0 0),(1,.p (.int .i64 5)),(2,.p (.int .i64 u222)),(3,.p (.int .i64 c224)),(8,.p (.int .i64 t246)),(9,.p (.int .i64 o250)),(44,.p (.int .i64 (vxc.wrap (u222+1)))),(45,.p (.int .i64 t246))],[(21,.arr 3 1 1 (vwb AV.p (vwb (PV.int .i64) s241))),(23,.arr 218 4 1 [.agg [.p (.slc (vwb (qat (PV.int .i64)) r8)),.own 21 1 0 s241.length,(if s242=true then .p (.slc (vwb (PV.int .i64) (s243 :: s244))) else .nils),.p (.int .i64 s245)]])]⟩) h249 ?_ ?_
 clear h h247 h247T h249
 intro s x h
 obtain ⟨m251,t252⟩:=s
 simp only [qjk] at h
 dsimp only
 refine zs<|zr ?_
 refine zU<|zl<|zn<|zs ?_
 obtain ⟨h253,h⟩|⟨h253,h⟩:=zI h
 refine zi<|zk<|zn<|zs<|zb<|zs<|zr ?_
 refine zU<|zl<|zn<|zd ?_
 obtain ⟨x254,h255,h255a,h255b,h⟩:=zX h
 obtain ⟨x256,h257,h257l,h257L,h⟩:=zY 5 h
 obtain ⟨x258,h259,h259a,h259b,h⟩:=zX h
 refine yU ?_
 obtain ⟨r260,h261,h⟩:=zB h
 refine yc (qgy x256 (x258 == t246) _ h261) ?_
 refine yU ?_
 refine yd<|yn<|zn<|zr ?_
 refine zU<|zl ?_
 cases h
 exact ⟨rfl,zE⟩
 refine zj<|zx<|ze ?_
 cases h
 exact ⟨rfl,zE⟩
 try simp only at h
 refine zA<|yh<|zn<|zs<|zr ?_
 obtain ⟨x262,h263,h263l,h263L,h⟩:=zY 5 h
 refine zU<|zl<|zn<|zr ?_
 refine zU ?_
 refine zM ⟨[(0,.loc 23 1 0 0),(1,.p (.int .i64 5)),(2,.p (.int .i64 u222)),(3,.p (.int .i64 c224)),(44,.p (.int .i64 (vxc.wrap (u222+1)))),(45,.p (.int .i64 t246)),(82,.loc 23 1 0 0),(84,.p (.int .i64 6)),(88,.p (.int .i64 (if (vxc.wrap (t246+1)) > u222 then (vxc.wrap (t246+1)) else u222))),(91,.p (.int .i64 (vxc.wrap (c224+m248))))],[(21,.arr 3 1 1 (vwb AV.p (vwb (PV.int .i64) (s241.set 5 t246)))),(23,.arr 218 4 1 [.agg [.p (.slc (vwb (qat (PV.int .i64)) r8)),.own 21 1 0 ((s241.set 5 t246)).length,(if s242=true then .p (.slc (vwb (PV.int .i64) (s243 :: s244))) else .nils),.p (.int .i64 s245)]])]⟩ ?_
 refine qif (avs:=[.loc 23 1 0 0,.p (.int .i64 6),.p (.int .i64 (if (vxc.wrap (t246+1)) > u222 then (vxc.wrap (t246+1)) else u222)),.p (.int .i64 (vxc.wrap (c224+m248)))]) 598 rfl (qbf rfl) rfl func160 rfl call160 ntmps160 (by simp) (by simp only [go_sem,seval,h247T];all_goals rfl) ?_
 intro i264 w265 h266
 obtain ⟨u267,h268,h⟩:=zB h
 replace h268:=vwz h268
 obtain ⟨c269,h270,h⟩:=zB h
 replace h270:=vwz h270
 refine qnl (st':=⟨[(0,.loc 23 1 0 0),(1,.p (.int .i64 6)),(2,.p (.int .i64 u267)),(3,.p (.int .i64 c269))],[(21,.arr 3 1 1 (vwb AV.p (vwb (PV.int .i64) (s241.set 5 t246)))),(23,.arr 218 4 1 [.agg [.p (.slc (vwb (qat (PV.int .i64)) r8)),.own 21 1 0 ((s241.set 5 t246)).length,(if s242=true then .p (.slc (vwb (PV.int .i64) (s243 :: s244))) else .nils),.p (.int .i64 s245)]])]⟩) (by simp only [go_sem,seval,h247T,←h268,←h270];all_goals ((repeat' refine vzq ?_ ?_) <;> first | rfl | (simp;done) | (simp;rfl) | (simp [*];done) | (simp [*];rfl))) ?_
 clear h268 h270
 obtain ⟨o271,h272,h⟩:=zB h
 refine zJ (fun (o:(Unit) ⊕ (Unit))=>match o with | .inl o273=>tE ⟨Tryz.prog,94,598,X,[(21,.arr 3 1 1 (vwb AV.p (vwb (PV.int .i64) (s241.set 5 t246)))),(23,.arr 218 4 1 [.agg [.p (.slc (vwb (qat (PV.int .i64)) r8)),.own 21 1 0 ((s241.set 5 t246)).length,(if s242=true then .p (.slc (vwb (PV.int .i64) (s243 :: s244))) else .nils),.p (.int .i64 s245)]])],i264,w265,False,h266⟩ .normal ⟨[(0,.loc 23 1 0 0),(1,.p (.int .i64 6)),(2,.p (.int .i64 u267)),(3,.p (.int .i64 c269))],[(21,.arr 3 1 1 (vwb AV.p (vwb (PV.int .i64) (s241.set 5 t246)))),(23,.arr 218 4 1 [.agg [.p (.slc (vwb (qat (PV.int .i64)) r8)),.own 21 1 0 ((s241.set 5 t246)).length,(if s242=true then .p (.slc (vwb (PV.int .i64) (s243 :: s244))) else .nils),.p (.int .i64 s245)]])]⟩ | .inr o274=>tE ⟨Tryz.prog,94,598,X,[(21,.arr 3 1 1 (vwb AV.p (vwb (PV.int .i64) (s241.set 5 t246)))),(23,.arr 218 4 1 [.agg [.p (.slc (vwb (qat (PV.int .i64)) r8)),.own 21 1 0 ((s241.set 5 t246)).length,(if s242=true then .p (.slc (vwb (PV.int .i64) (s243 :: s244))) else .nils),.p (.int .i64 s245)]])],i264,w265,False,h266⟩ .ret ⟨[],[(21,.arr 3 1 1 (vwb AV.p (vwb (PV.int .i64) (s241.set 5 t246)))),(23,.arr 218 4 1 [.agg [.p (.slc (vwb (qat (PV.int .i64)) r8)),.own 21 1 0 ((s241.set 5 t246)).length,(if s242=true then .p (.slc (vwb (PV.int .i64) (s243 :: s244))) else .nils),.p (.int .i64 s245)]])]⟩) o271 ?_ ?_
 replace h:=h272
 clear h272
 refine zs<|zr ?_
 refine zW 4 ?_
 obtain ⟨h275,h⟩|⟨h275,h⟩:=zI h
 refine zU ?_
 refine zg ?_
 refine zg ?_
 refine zg ?_
 refine zg ?_
 refine zg ?_
 refine zg ?_
 refine zU<|zl<|zn ?_
 obtain ⟨h276,h⟩|⟨h276,h⟩:=zI h
 refine zi<|zq ?_
 cases h
 exact ⟨rfl,zE⟩
 refine zj<|zk ?_
 cases h
 exact ⟨rfl,zE⟩
 refine zU ?_
 refine zh ?_
 refine zU<|zl<|zn ?_
 refine zj<|zk ?_
 cases h
 exact ⟨rfl,zE⟩
 rcases o271 with ⟨⟩ | ⟨⟩
 try simp only at h
 refine zA<|zn<|zs<|zs<|zr ?_
 refine zU<|zl<|zn ?_
 obtain ⟨h277,h⟩|⟨h277,h⟩:=zI h
 refine zi<|zs<|zr ?_
 refine zU ?_
 obtain ⟨h278,h⟩:=qab h
 refine zCo cln44 635 (PV.int .i64) (s241.set 5 t246) _ rfl ⟨by unfold maxLen;omega,by omega⟩ ?_
 obtain ⟨x279,h280,h280l,h280L,h⟩:=zY 0 h
 obtain ⟨l281,h282,h⟩:=zB h
 replace h282:=vwz h282
 replace h282:=qrg h282 h280
 refine zM ⟨[(3,.p (.int .i64 c269)),(31,.loc 23 1 0 0),(32,.loc 23 1 0 0),(37,.p (.slc (vwb (PV.int .i64) (x279 :: l281))))],[(21,.arr 3 1 1 (vwb AV.p (vwb (PV.int .i64) (s241.set 5 t246)))),(23,.arr 218 4 1 [.agg [.p (.slc (vwb (qat (PV.int .i64)) r8)),.own 21 1 0 ((s241.set 5 t246)).length,(if s242=true then .p (.slc (vwb (PV.int .i64) (s243 :: s244))) else .nils),.p (.int .i64 s245)]])]⟩ ?_
 clear h282
 refine zU<|zl<|zn<|zq<|zt ?_
 refine qg0 (by simp only [results160];simp only [go_sem,seval,h247T,h277];exact rfl) ?_
 refine zl<|yn<|zn<|zr ?_
 refine zU<|zl ?_
 cases h
 exact ⟨rfl,zE⟩
 have h277F:=vvo.2 h277
 refine zj<|zk<|zn<|zs<|zr ?_
 refine zU<|zl<|zn<|zb ?_
 obtain ⟨o283,h284,h⟩:=zB h
 refine zO (fun (s:Unit)=>⟨[(0,.loc 23 1 0 0),(1,.p (.int .i64 6)),(2,.p (.int .i64 u267)),(3,.p (.int .i64 c269)),(44,.p (.int .i64 (vxc.wrap (u267+1)))),(45,.p (.int .i64 0))],[(21,.arr 3 1 1 (vwb AV.p (vwb (PV.int .i64) (s241.set 5 t246)))),(23,.arr 218 4 1 [.agg [.p (.slc (vwb (qat (PV.int .i64)) r8)),.own 21 1 0 ((s241.set 5 t246)).length,(if s242=true then .p (.slc (vwb (PV.int .i64) (s243 :: s244))) else .nils),.p (.int .i64 s245)]])]⟩) (fun (o285:Unit)=>tE ⟨Tryz.prog,94,598,X,[(21,.arr 3 1 1 (vwb AV.p (vwb (PV.int .i64) (s241.set 5 t246)))),(23,.arr 218 4 1 [.agg [.p (.slc (vwb (qat (PV.int .i64)) r8)),.own 21 1 0 ((s241.set 5 t246)).length,(if s242=true then .p (.slc (vwb (PV.int .i64) (s243 :: s244))) else .nils),.p (.int .i64 s245)]])],i264,w265,False,h266⟩ (.exit 0) ⟨[],[(21,.arr 3 1 1 (vwb AV.p (vwb (PV.int .i64) (s241.set 5 t246)))),(23,.arr 218 4 1 [.agg [.p (.slc (vwb (qat (PV.int .i64)) r8)),.own 21 1 0 ((s241.set 5 t246)).length,(if s242=true then .p (.slc (vwb (PV.int .i64) (s243 :: s244))) else .nils),.p (.int .i64 s245)]])]⟩) h284 ?_ ?_
 clear h h247 h247T h249 h263 h263l h263L h277 h277F h284
 intro s x h
 simp only [qmg] at h
 refine zs<|zr ?_
 refine zU<|zl<|zn<|zs ?_
 obtain ⟨h286,h⟩|⟨h286,h⟩:=zI h
 cases h
 refine zj<|zx<|ze ?_
 cases h
 exact ⟨rfl,zE⟩
 cases o283
 try simp only at h
 refine zA<|yh ?_
 refine qwl (by simp only [results160];simp only [go_sem,seval,h247T,h277F];exact rfl) ?_
 refine zl<|yn<|zn<|zr ?_
 refine zU<|zl ?_
 cases h
 exact ⟨rfl,zE⟩
 try simp only at h
 refine zA<|zt ?_
 refine qg0 (by simp only [results160];simp only [go_sem,seval,h247T];exact rfl) ?_
 refine zl<|yn<|zn<|zr ?_
 refine zU<|zl ?_
 cases h
 exact ⟨rfl,zE⟩
 have h247T:=eq_false h247
 refine zj<|zx<|ze ?_
 cases h
 exact ⟨rfl,zE⟩
 obtain ⟨b287,b288,b289,b290,b291⟩:=o238
 try simp only at h
 refine zA<|yh ?_
 refine qwl (by simp only [results160];simp only [go_sem,seval,h202T,h232F];exact rfl) ?_
 obtain ⟨h292,h⟩:=qab h
 refine zM ⟨[(0,.loc 23 1 0 0),(1,.p (.int .i64 4)),(2,.p (.int .i64 u177)),(3,.p (.int .i64 c179)),(44,.p (.int .i64 (vxc.wrap (u177+1)))),(45,.p (.int .i64 t201)),(92,.p (.tup []))],[(21,.arr 3 1 1 (vwb AV.p (vwb (PV.int .i64) b287))),(23,.arr 218 4 1 [.agg [.p (.slc (vwb (qat (PV.int .i64)) r8)),.own 21 1 0 b287.length,(if b288=true then .p (.slc (vwb (PV.int .i64) (b289 :: b290))) else .nils),.p (.int .i64 b291)]])]⟩ ?_
 clear h292
 refine zl<|yn<|zn<|zr ?_
 refine zU<|zl ?_
 cases h
 exact ⟨rfl,zE⟩
 try simp only at h
 refine zA<|zt ?_
 refine qg0 (by simp only [results160];simp only [go_sem,seval,h202T];exact rfl) ?_
 refine zl<|yn<|zn<|zr ?_
 refine zU<|zl ?_
 cases h
 exact ⟨rfl,zE⟩
 have h202T:=eq_false h202
 refine zj<|zx<|ze ?_
 cases h
 exact ⟨rfl,zE⟩
 obtain ⟨b293,b294,b295,b296,b297⟩:=o193
 try simp only at h
 refine zA<|yh ?_
 refine qwl (by simp only [results160];simp only [go_sem,seval,h157T,h187F];exact rfl) ?_
 obtain ⟨h298,h⟩:=qab h
 refine zM ⟨[(0,.loc 23 1 0 0),(1,.p (.int .i64 3)),(2,.p (.int .i64 u132)),(3,.p (.int .i64 c134)),(44,.p (.int .i64 (vxc.wrap (u132+1)))),(45,.p (.int .i64 t156)),(92,.p (.tup []))],[(21,.arr 3 1 1 (vwb AV.p (vwb (PV.int .i64) b293))),(23,.arr 218 4 1 [.agg [.p (.slc (vwb (qat (PV.int .i64)) r8)),.own 21 1 0 b293.length,(if b294=true then .p (.slc (vwb (PV.int .i64) (b295 :: b296))) else .nils),.p (.int .i64 b297)]])]⟩ ?_
 clear h298
 refine zl<|yn<|zn<|zr ?_
 refine zU<|zl ?_
 cases h
 exact ⟨rfl,zE⟩
 try simp only at h
 refine zA<|zt ?_
 refine qg0 (by simp only [results160];simp only [go_sem,seval,h157T];exact rfl) ?_
 refine zl<|yn<|zn<|zr ?_
 refine zU<|zl ?_
 cases h
 exact ⟨rfl,zE⟩
 have h157T:=eq_false h157
 refine zj<|zx<|ze ?_
 cases h
 exact ⟨rfl,zE⟩
 obtain ⟨b299,b300,b301,b302,b303⟩:=o148
 try simp only at h
 refine zA<|yh ?_
 refine qwl (by simp only [results160];simp only [go_sem,seval,h112T,h142F];exact rfl) ?_
 obtain ⟨h304,h⟩:=qab h
 refine zM ⟨[(0,.loc 23 1 0 0),(1,.p (.int .i64 2)),(2,.p (.int .i64 u87)),(3,.p (.int .i64 c89)),(44,.p (.int .i64 (vxc.wrap (u87+1)))),(45,.p (.int .i64 t111)),(92,.p (.tup []))],[(21,.arr 3 1 1 (vwb AV.p (vwb (PV.int .i64) b299))),(23,.arr 218 4 1 [.agg [.p (.slc (vwb (qat (PV.int .i64)) r8)),.own 21 1 0 b299.length,(if b300=true then .p (.slc (vwb (PV.int .i64) (b301 :: b302))) else .nils),.p (.int .i64 b303)]])]⟩ ?_
 clear h304
 refine zl<|yn<|zn<|zr ?_
 refine zU<|zl ?_
 cases h
 exact ⟨rfl,zE⟩
 try simp only at h
 refine zA<|zt ?_
 refine qg0 (by simp only [results160];simp only [go_sem,seval,h112T];exact rfl) ?_
 refine zl<|yn<|zn<|zr ?_
 refine zU<|zl ?_
 cases h
 exact ⟨rfl,zE⟩
 have h112T:=eq_false h112
 refine zj<|zx<|ze ?_
 cases h
 exact ⟨rfl,zE⟩
 obtain ⟨b305,b306,b307,b308,b309⟩:=o103
 try simp only at h
 refine zA<|yh ?_
 refine qwl (by simp only [results160];simp only [go_sem,seval,h67T,h97F];exact rfl) ?_
 obtain ⟨h310,h⟩:=qab h
 refine zM ⟨[(0,.loc 23 1 0 0),(1,.p (.int .i64 1)),(2,.p (.int .i64 u44)),(3,.p (.int .i64 0)),(44,.p (.int .i64 (vxc.wrap (u44+1)))),(45,.p (.int .i64 t66)),(92,.p (.tup []))],[(21,.arr 3 1 1 (vwb AV.p (vwb (PV.int .i64) b305))),(23,.arr 218 4 1 [.agg [.p (.slc (vwb (qat (PV.int .i64)) r8)),.own 21 1 0 b305.length,(if b306=true then .p (.slc (vwb (PV.int .i64) (b307 :: b308))) else .nils),.p (.int .i64 b309)]])]⟩ ?_
 clear h310
 refine zl<|yn<|zn<|zr ?_
 refine zU<|zl ?_
 cases h
 exact ⟨rfl,zE⟩
 try simp only at h
 refine zA<|zt ?_
 refine qg0 (by simp only [results160];simp only [go_sem,seval,h67T];exact rfl) ?_
 refine zl<|yn<|zn<|zr ?_
 refine zU<|zl ?_
 cases h
 exact ⟨rfl,zE⟩
 have h67T:=eq_false h67
 refine zj<|zx<|ze ?_
 cases h
 exact ⟨rfl,zE⟩
 obtain ⟨b311,b312,b313,b314,b315⟩:=o58
 try simp only at h
 refine zA<|yh ?_
 refine qwl (by simp only [results160];simp only [go_sem,seval,h35T,h52F];exact rfl) ?_
 obtain ⟨h316,h⟩:=qab h
 refine zM ⟨[(0,.loc 23 1 0 0),(1,.p (.int .i64 0)),(2,.p (.int .i64 0)),(3,.p (.int .i64 0)),(44,.p (.int .i64 1)),(45,.p (.int .i64 t34)),(92,.p (.tup []))],[(21,.arr 3 1 1 (vwb AV.p (vwb (PV.int .i64) b311))),(23,.arr 218 4 1 [.agg [.p (.slc (vwb (qat (PV.int .i64)) r8)),.own 21 1 0 b311.length,(if b312=true then .p (.slc (vwb (PV.int .i64) (b313 :: b314))) else .nils),.p (.int .i64 b315)]])]⟩ ?_
 clear h316
 refine zl<|yn<|zn<|zr ?_
 refine zU<|zl ?_
 cases h
 exact ⟨rfl,zE⟩
 try simp only at h
 refine zA<|zt ?_
 refine qg0 (by simp only [results160];simp only [go_sem,seval,h35T];exact rfl) ?_
 refine zl<|yn<|zn<|zr ?_
 refine zU<|zl ?_
 cases h
 exact ⟨rfl,zE⟩
 have h35T:=eq_false h35
 refine zj<|zx<|ze ?_
 cases h
 exact ⟨rfl,zE⟩
 obtain ⟨b317,b318,b319,b320,b321⟩:=o26
 try simp only at h
 refine zA<|yh ?_
 refine qwl (by simp only [results160];simp only [go_sem,seval,h6F,h7T,h20F];exact rfl) ?_
 obtain ⟨h322,h⟩:=qab h
 refine zM ⟨[(8,.loc 23 1 0 0),(25,.p (.tup []))],[(21,.arr 3 1 1 (vwb AV.p (vwb (PV.int .i64) b317))),(23,.arr 218 4 1 [.agg [.p (.slc (vwb (qat (PV.int .i64)) r8)),.own 21 1 0 b317.length,(if b318=true then .p (.slc (vwb (PV.int .i64) (b319 :: b320))) else .nils),.p (.int .i64 b321)]])]⟩ ?_
 clear h322
 refine zl ?_
 cases h
 exact ⟨rfl,zE⟩
 obtain ⟨s323,s324,s325,s326,s327⟩:=o12
 try simp only at h
 refine zA<|zn<|zs<|zd ?_
 refine yU ?_
 refine yd<|zn ?_
 obtain ⟨h328,h⟩|⟨h328,h⟩:=zI h
 refine zq ?_
 cases h
 exact zT results97
 refine zq ?_
 cases h
 exact zT results97
theorem qum {D:Prop} (n1:Int) (l2:List Pair) (r3:List Int×Int) (h:qob n1 l2=some r3):Con D Tryz.prog 98 [(.int .i64 n1),(.slc (vwb qba l2))] (.tup [(.slc (vwb (PV.int .i64) r3.1)),(.int .i64 r3.2)]):=by
 refine zP call98 func98 rfl ntmps98 fun X w hT=>?_
 simp only [qob] at h
 refine zs<|zr ?_
 refine zU<|zl<|zn<|zs<|zs<|zr ?_
 refine zU ?_
 obtain ⟨r4,h5,h⟩:=zB h
 refine zc (qn1 n1 l2 _ h5) ?_
 refine zU<|zl<|zn<|zs<|zr ?_
 refine zU<|zl<|zn ?_
 obtain ⟨h6,h⟩|⟨h6,h⟩:=zI h
 refine zi<|zs<|zr ?_
 refine zU<|zl<|zn<|zq<|zt ?_
 cases h
 exact zT results98
 cases h
theorem qmw {D:Prop} (l1:List Int) (r2:List Int) (h:qhi l1=some r2):Con D Tryz.prog 162 [(.slc (vwb (PV.int .i64) l1))] (.slc (vwb (PV.int .i64) r2)):=by
 refine zP call162 func162 rfl ntmps162 fun X w hT=>?_
 simp only [qhi] at h
 refine zs<|zr ?_
 refine zU<|zl<|zn<|zs<|zr ?_
 refine zU<|zl<|zn<|zs<|zr ?_
 obtain ⟨h3,h⟩:=qab h
 obtain ⟨h4,h⟩:=qab h
 refine zU<|zl<|zn<|zs<|zs<|zr ?_
 refine zU<|zl<|zn<|zb ?_
 obtain ⟨o5,h6,h⟩:=zB h
 refine zO (fun (s:(List (Int×Int))×List Int×Int)=>⟨[(3,.mapo 9 1),(4,.own 12 1 0 s.2.1.length),(13,.p (.slc (vwb (PV.int .i64) l1))),(14,.p (.int .i64 (l1.length:Int))),(15,.p (.int .i64 s.2.2))],[(9,.map 1 (vwb AV.p (qmc (PV.int .i64) s.1)) (vwb AV.p (qna (PV.int .i64) s.1))),(12,.arr 3 1 1 (vwb AV.p (vwb (PV.int .i64) s.2.1)))]⟩) (fun (o7:List Int)=>tE (cX Tryz.f162 X w D hT) (.exit 0) ⟨[(4,.own 12 1 0 o7.length)],[(12,.arr 3 1 1 (vwb AV.p (vwb (PV.int .i64) o7)))]⟩) h6 ?_ ?_
 clear h h3 h4 h6
 intro s x h
 obtain ⟨n8,o9,t10⟩:=s
 simp only [qet] at h
 dsimp only
 refine zs<|zr ?_
 refine zU<|zl<|zn<|zs ?_
 obtain ⟨h11,h⟩|⟨h11,h⟩:=zI h
 refine zi<|zk<|zn<|zs<|zb<|zs<|zr ?_
 obtain ⟨x12,h13,h13a,h13b,h⟩:=zX h
 refine zU<|zl<|zn<|zs<|zr ?_
 refine zU<|zl<|zn<|zs<|zs<|zr ?_
 refine zU<|zl<|zn ?_
 obtain ⟨h14,h⟩|⟨h14,h⟩:=zI h
 refine zj<|zk<|zn<|zr ?_
 obtain ⟨x15,h16,h16a,h16b,h⟩:=zX h
 refine zU<|zl<|yn<|zn<|zr ?_
 refine zU<|zl ?_
 cases h
 exact ⟨rfl,zE⟩
 refine zi<|zs<|zr ?_
 refine zU<|zl<|zn<|zr ?_
 refine zU<|zl<|zn<|zr ?_
 obtain ⟨x17,h18,h18a,h18b,h⟩:=zX h
 refine zU<|zl<|yn<|zn<|zr ?_
 refine zU<|zl ?_
 cases h
 exact ⟨rfl,zE⟩
 refine zj<|zx<|ze ?_
 cases h
 exact ⟨rfl,zE⟩
 try simp only at h
 refine zA<|yh<|zn<|zs<|zr ?_
 refine zU<|zl<|zn<|zq ?_
 cases h
 exact zT results162
theorem qtk (c1:List Int) (m2:List (Arr2_int×Bool)) (r3:List (List Int)×Int) (h:qil c1 m2=some r3):Con False Tryz.prog 55 [(.slc (vwb (PV.int .i64) c1)),(.mapv (qmc qac m2) (qna PV.bool m2))] (.tup [(.slc (vwb (qat (PV.int .i64)) r3.1)),(.int .i64 r3.2)]):=by
 refine zP call55 func55 rfl ntmps55 fun X w hT=>?_
 simp only [qil] at h
 refine zs<|zr ?_
 refine zU<|zl<|zn<|zs<|zr ?_
 refine zU<|zl<|zn<|zs<|zr ?_
 refine zU<|zl<|zn<|zs<|zs<|zr ?_
 refine zU<|zl<|zn<|zb ?_
 obtain ⟨p4,h5,h⟩:=zB h
 refine zO (fun (s:List Pair×Int)=>⟨[(0,.p (.slc (vwb (PV.int .i64) c1))),(1,.p (.mapv (qmc qac m2) (qna PV.bool m2))),(6,.p (.int .i64 (c1.length:Int))),(7,.own 48 1 0 s.1.length),(20,.p (.int .i64 (c1.length:Int))),(21,.p (.int .i64 s.2))],[(48,.arr 126 3 1 (vwb AV.p (vwb qba s.1)))]⟩) (fun (o6:List Pair)=>tE (cX Tryz.f55 X w False hT) (.exit 0) ⟨[(0,.p (.slc (vwb (PV.int .i64) c1))),(6,.p (.int .i64 (c1.length:Int))),(7,.own 48 1 0 o6.length)],[(48,.arr 126 3 1 (vwb AV.p (vwb qba o6)))]⟩) h5 ?_ ?_
 clear h h5
 intro s x h
 obtain ⟨p7,t8⟩:=s
 simp only [qev] at h
 dsimp only
 refine zs<|zr ?_
 refine zU<|zl<|zn<|zs ?_
 obtain ⟨h9,h⟩|⟨h9,h⟩:=zI h
 refine zi<|zk<|zn<|zs<|zb<|zs<|zr ?_
 refine zU<|zl<|zn<|zs<|zr ?_
 refine zU<|zl<|zn<|zb ?_
 obtain ⟨p10,h11,h⟩:=zB h
 refine zO (fun (s:List Pair×Int)=>⟨[(0,.p (.slc (vwb (PV.int .i64) c1))),(1,.p (.mapv (qmc qac m2) (qna PV.bool m2))),(6,.p (.int .i64 (c1.length:Int))),(7,.own 48 1 0 s.1.length),(8,.p (.int .i64 t8)),(9,.p (.int .i64 s.2)),(20,.p (.int .i64 (c1.length:Int))),(21,.p (.int .i64 t8))],[(48,.arr 126 3 1 (vwb AV.p (vwb qba s.1)))]⟩) (fun (o12:List Pair)=>tE (cX Tryz.f55 X w False hT) (.exit 2) ⟨[(0,.p (.slc (vwb (PV.int .i64) c1))),(1,.p (.mapv (qmc qac m2) (qna PV.bool m2))),(6,.p (.int .i64 (c1.length:Int))),(7,.own 48 1 0 o12.length),(20,.p (.int .i64 (c1.length:Int))),(21,.p (.int .i64 t8))],[(48,.arr 126 3 1 (vwb AV.p (vwb qba o12)))]⟩) h11 ?_ ?_
 clear h h9 h11
 intro s x h
 obtain ⟨p13,k14⟩:=s
 simp only [qeu] at h
 dsimp only
 refine zs<|zs<|zr ?_
 refine zU<|zl<|zn ?_
 obtain ⟨h15,h⟩|⟨h15,h⟩:=zI h
 refine zi<|zk<|zn<|zs<|zb<|zs<|zr ?_
 refine zU<|zl<|zn<|zs<|zs<|zd ?_
 obtain ⟨x16,h17,h17a,h17b,h⟩:=zX h
 obtain ⟨x18,h19,h19a,h19b,h⟩:=zX h
 refine yU ?_
 refine yd<|zn ?_
 obtain ⟨h20,h⟩|⟨h20,h⟩:=zI h
 refine zi<|zr ?_
 refine zU<|zl<|zn<|zr ?_
 obtain ⟨h21,h⟩:=qab h
 refine zU<|zl<|yn<|zn<|zr ?_
 refine zU<|zl ?_
 cases h
 exact ⟨rfl,zE⟩
 refine zj<|zk<|zn<|zr ?_
 obtain ⟨h22,h⟩:=qab h
 refine zU<|zl<|yn<|zn<|zr ?_
 refine zU<|zl ?_
 cases h
 exact ⟨rfl,zE⟩
 refine zj<|zx<|ze ?_
 cases h
 exact ⟨rfl,zE⟩
 try simp only at h
 refine zA<|yh<|yn<|zn<|zr ?_
 refine zU<|zl ?_
 cases h
 exact ⟨rfl,zE⟩
 refine zj<|zx<|ze ?_
 cases h
 exact ⟨rfl,zE⟩
 try simp only at h
 refine zA<|yh<|zn<|zs<|zr ?_
 refine zU<|zl<|zn<|zs<|zr ?_
 refine zU<|zl<|zn<|zs<|zs<|zr ?_
 refine zU<|zl<|zn ?_
 obtain ⟨h23,h⟩|⟨h23,h⟩:=zI h
 have h23T:=eq_true h23
 refine zi<|zr ?_
 refine zU ?_
 refine zM ⟨[(0,.p (.slc (vwb (PV.int .i64) c1))),(53,.p (.int .i64 (c1.length:Int))),(54,.p (.slc (vwb qba p4)))],[]⟩ ?_
 obtain ⟨r24,h25,h⟩:=zB h
 refine zc (qry (c1.length:Int) p4 _ h25) ?_
 refine zU<|zl<|zn<|zs<|zs<|zr ?_
 refine zU<|zl<|zn ?_
 obtain ⟨h26,h⟩|⟨h26,h⟩:=zI h
 refine zi<|zs<|zr ?_
 refine zU<|zl<|zn<|zq<|zt ?_
 cases h
 exact zT results55
 have h26F:=vvo.2 h26
 refine zj<|zk<|zn<|zs<|zr ?_
 refine zU ?_
 refine zM ⟨[(0,.p (.slc (vwb (PV.int .i64) c1))),(68,.p (.slc (vwb (PV.int .i64) r24.1)))],[]⟩ ?_
 refine qif (avs:=[.p (.slc (vwb (PV.int .i64) r24.1))]) 93 rfl (qbf rfl) rfl func99 rfl call99 ntmps99 (by simp) (by simp only [go_sem,seval,h23T,h26F];all_goals rfl) ?_
 intro i27 w28 h29
 show AWp _ _ _ ⟨[(0,.p (.slc (vwb (PV.int .i64) r24.1)))],[]⟩
 refine zs<|zr ?_
 refine zU<|zl<|zn<|zs<|zr ?_
 refine zU<|zl<|zn<|zs<|zs<|zr ?_
 refine zU ?_
 obtain ⟨r30,h31,h⟩:=zB h
 refine zc (qmw r24.1 _ h31) ?_
 refine zU<|zl<|zn<|zb ?_
 obtain ⟨o32,h33,h⟩:=zB h
 refine zO (fun (s:List (List Int)×Int)=>⟨[(3,.own 113 1 0 s.1.length),(7,.p (.slc (vwb (PV.int .i64) r30))),(8,.p (.int .i64 (r30.length:Int))),(9,.p (.int .i64 s.2))],((113,.arr 23 1 1 (qh3 113 3 1 1 (PV.int .i64) s.1)) :: qi4 113 3 1 1 (PV.int .i64) s.1 [])⟩) (fun (o34:List (List Int))=>tE ⟨Tryz.prog,33,93,X,[],i27,w28,False,h29⟩ (.exit 0) ⟨[(3,.own 113 1 0 o34.length)],((113,.arr 23 1 1 (qh3 113 3 1 1 (PV.int .i64) o34)) :: qi4 113 3 1 1 (PV.int .i64) o34 [])⟩) h33 ?_ ?_
 clear h h5 h23 h23T h25 h26 h26F h31 h33
 intro s x h
 obtain ⟨o35,t36⟩:=s
 simp only [qjx] at h
 dsimp only
 refine zs<|zr ?_
 refine zU<|zl<|zn<|zs ?_
 obtain ⟨h37,h⟩|⟨h37,h⟩:=zI h
 refine zi<|zk<|zn<|zs<|zb<|zs<|zr ?_
 obtain ⟨x38,h39,h39a,h39b,h⟩:=zX h
 refine zU<|zl<|zn<|zs<|zs<|zr ?_
 refine zU<|zl<|zn ?_
 obtain ⟨h40,h⟩|⟨h40,h⟩:=zI h
 refine zi<|zr ?_
 obtain ⟨h41,h⟩:=qab h
 refine zW 3 ?_
 refine zM ⟨[(4,.p (.int .i64 t36)),(5,.p (.int .i64 x38)),(7,.p (.slc (vwb (PV.int .i64) r30))),(8,.p (.int .i64 (r30.length:Int))),(9,.p (.int .i64 t36)),(20,.own 113 1 0 (o35.length+1))],((113,.arr 23 1 1 (qh3 113 3 1 1 (PV.int .i64) (o35++[[]]))) :: qi4 113 3 1 1 (PV.int .i64) (o35++[[]]) [])⟩ ?_
 refine zU<|zl<|zn<|zr ?_
 obtain ⟨x42,h43,h43a,h43b,h⟩:=zX h
 have hx_7556C:=h43b
 simp only [vtx,vt2,vv5,vt0,Nat.zero_add] at hx_7556C
 obtain ⟨h44,h⟩:=qab h
 refine zW 11 ?_
 refine zM ⟨[(3,.own 113 1 0 (((o35++[[]]).set x38.toNat (x42++[t36]))).length),(7,.p (.slc (vwb (PV.int .i64) r30))),(8,.p (.int .i64 (r30.length:Int))),(9,.p (.int .i64 t36))],((113,.arr 23 1 1 (qh3 113 3 1 1 (PV.int .i64) ((o35++[[]]).set x38.toNat (x42++[t36])))) :: qi4 113 3 1 1 (PV.int .i64) ((o35++[[]]).set x38.toNat (x42++[t36])) [])⟩ ?_
 refine zl<|yn<|zn<|zr ?_
 refine zU<|zl ?_
 cases h
 exact ⟨rfl,zE⟩
 refine zj<|zk<|zn<|zr ?_
 obtain ⟨x45,h46,h46a,h46b,h⟩:=zX h
 obtain ⟨h47,h⟩:=qab h
 refine zW 11 ?_
 refine zM ⟨[(3,.own 113 1 0 ((o35.set x38.toNat (x45++[t36]))).length),(7,.p (.slc (vwb (PV.int .i64) r30))),(8,.p (.int .i64 (r30.length:Int))),(9,.p (.int .i64 t36))],((113,.arr 23 1 1 (qh3 113 3 1 1 (PV.int .i64) (o35.set x38.toNat (x45++[t36])))) :: qi4 113 3 1 1 (PV.int .i64) (o35.set x38.toNat (x45++[t36])) [])⟩ ?_
 refine zl<|yn<|zn<|zr ?_
 refine zU<|zl ?_
 cases h
 exact ⟨rfl,zE⟩
 refine zj<|zx<|ze ?_
 cases h
 exact ⟨rfl,zE⟩
 try simp only at h
 refine zA<|yh<|zn<|zs<|zr ?_
 refine zU<|zl<|zn<|zq ?_
 refine qg0 (by simp only [results99];simp only [go_sem,seval,h23T,h26F];exact rfl) ?_
 refine zU<|zl<|zn<|zs<|zs<|zr ?_
 refine zU<|zl<|zn<|zb ?_
 obtain ⟨g48,h49,h⟩:=zB h
 refine zO (fun (s:List (List Int)×Int)=>⟨[(0,.p (.slc (vwb (PV.int .i64) c1))),(13,.own 113 1 0 s.1.length),(70,.own 113 1 0 s.1.length),(71,.p (.int .i64 ((o32.length:Nat):Int))),(72,.p (.int .i64 s.2))],((113,.arr 23 1 1 (qh3 113 3 1 1 (PV.int .i64) s.1)) :: qi4 113 3 1 1 (PV.int .i64) s.1 [])⟩) (fun (o50:List (List Int))=>tE (cX Tryz.f55 X w False hT) (.exit 4) ⟨[(13,.own 113 1 0 o50.length)],((113,.arr 23 1 1 (qh3 113 3 1 1 (PV.int .i64) o50)) :: qi4 113 3 1 1 (PV.int .i64) o50 [])⟩) h49 ?_ ?_
 clear h h5 h23 h23T h25 h26 h26F h31 h33 h49
 intro s x h
 obtain ⟨g51,t52⟩:=s
 simp only [qd4] at h
 dsimp only
 refine zs<|zr ?_
 refine zU<|zl<|zn<|zs ?_
 obtain ⟨h53,h⟩|⟨h53,h⟩:=zI h
 refine zi<|zk<|zn<|zs<|zb<|zs<|zr ?_
 obtain ⟨x54,h55,h55a,h55b,h⟩:=zX h
 refine zU<|zl<|zn<|zs<|zr ?_
 refine zU<|zl<|zn<|zb ?_
 obtain ⟨g56,h57,h⟩:=zB h
 refine zO (fun (s:List (List Int)×Int)=>⟨[(0,.p (.slc (vwb (PV.int .i64) c1))),(13,.own 113 1 0 s.1.length),(15,.own (fx 113 t52.toNat) 1 0 x54.length),(70,.own 113 1 0 s.1.length),(71,.p (.int .i64 ((o32.length:Nat):Int))),(72,.p (.int .i64 t52)),(76,.own (fx 113 t52.toNat) 1 0 x54.length),(77,.p (.int .i64 ((x54.length:Nat):Int))),(78,.p (.int .i64 s.2))],((113,.arr 23 1 1 (qh3 113 3 1 1 (PV.int .i64) s.1)) :: qi4 113 3 1 1 (PV.int .i64) s.1 [])⟩) (fun (o58:List (List Int))=>tE (cX Tryz.f55 X w False hT) (.exit 6) ⟨[(0,.p (.slc (vwb (PV.int .i64) c1))),(13,.own 113 1 0 o58.length),(70,.own 113 1 0 o58.length),(71,.p (.int .i64 ((o32.length:Nat):Int))),(72,.p (.int .i64 t52))],((113,.arr 23 1 1 (qh3 113 3 1 1 (PV.int .i64) o58)) :: qi4 113 3 1 1 (PV.int .i64) o58 [])⟩) h57 ?_ ?_
 clear h h53 h55 h55a h55b h57
 intro s x h
 obtain ⟨g59,t60⟩:=s
 simp only [qgq] at h
 dsimp only
 refine zs<|zr ?_
 refine zU<|zl<|zn<|zs ?_
 obtain ⟨h61,h⟩|⟨h61,h⟩:=zI h
 refine zi<|zk<|zn<|zs<|zb<|zs<|zr ?_
 obtain ⟨x62,h63,h63a,h63b,h⟩:=zX h
 obtain ⟨x64,h65,h65a,h65b,h⟩:=zX h
 obtain ⟨h66,h⟩:=qab h
 refine zU<|zl<|zn<|zr ?_
 obtain ⟨x67,h68,h68a,h68b,h⟩:=zX h
 refine zW 8 ?_
 refine zM ⟨[(0,.p (.slc (vwb (PV.int .i64) c1))),(13,.own 113 1 0 ((g59.set t52.toNat (x62.set t60.toNat x67))).length),(15,.own (fx 113 t52.toNat) 1 0 x54.length),(70,.own 113 1 0 ((g59.set t52.toNat (x62.set t60.toNat x67))).length),(71,.p (.int .i64 ((o32.length:Nat):Int))),(72,.p (.int .i64 t52)),(76,.own (fx 113 t52.toNat) 1 0 x54.length),(77,.p (.int .i64 ((x54.length:Nat):Int))),(78,.p (.int .i64 t60))],((113,.arr 23 1 1 (qh3 113 3 1 1 (PV.int .i64) (g59.set t52.toNat (x62.set t60.toNat x67)))) :: qi4 113 3 1 1 (PV.int .i64) (g59.set t52.toNat (x62.set t60.toNat x67)) [])⟩ ?_
 refine zl<|yn<|zn<|zr ?_
 refine zU<|zl ?_
 cases h
 exact ⟨rfl,zE⟩
 refine zj<|zx<|ze ?_
 cases h
 exact ⟨rfl,zE⟩
 try simp only at h
 refine zA<|yh<|yn<|zn<|zr ?_
 refine zU<|zl ?_
 cases h
 exact ⟨rfl,zE⟩
 refine zj<|zx<|ze ?_
 cases h
 exact ⟨rfl,zE⟩
 try simp only at h
 refine zA<|yh<|zn<|zs<|zr ?_
 refine zU<|zl<|zn<|zq ?_
 cases h
 exact zT results55
 have h23T:=eq_false h23
 refine zj<|zr ?_
 refine zU ?_
 refine zM ⟨[(0,.p (.slc (vwb (PV.int .i64) c1))),(60,.p (.int .i64 (c1.length:Int))),(61,.p (.slc (vwb qba p4)))],[]⟩ ?_
 obtain ⟨r69,h70,h⟩:=zB h
 refine zc (qum (c1.length:Int) p4 _ h70) ?_
 refine zU<|zl<|zn<|zs<|zs<|zr ?_
 refine zU<|zl<|zn ?_
 obtain ⟨h71,h⟩|⟨h71,h⟩:=zI h
 refine zi<|zs<|zr ?_
 refine zU<|zl<|zn<|zq<|zt ?_
 cases h
 exact zT results55
 have h71F:=vvo.2 h71
 refine zj<|zk<|zn<|zs<|zr ?_
 refine zU ?_
 refine zM ⟨[(0,.p (.slc (vwb (PV.int .i64) c1))),(68,.p (.slc (vwb (PV.int .i64) r69.1)))],[]⟩ ?_
 refine qif (avs:=[.p (.slc (vwb (PV.int .i64) r69.1))]) 126 rfl (qbf rfl) rfl func99 rfl call99 ntmps99 (by simp) (by simp only [go_sem,seval,h23T,h71F];all_goals rfl) ?_
 intro i72 w73 h74
 show AWp _ _ _ ⟨[(0,.p (.slc (vwb (PV.int .i64) r69.1)))],[]⟩
 refine zs<|zr ?_
 refine zU<|zl<|zn<|zs<|zr ?_
 refine zU<|zl<|zn<|zs<|zs<|zr ?_
 refine zU ?_
 obtain ⟨r75,h76,h⟩:=zB h
 refine zc (qmw r69.1 _ h76) ?_
 refine zU<|zl<|zn<|zb ?_
 obtain ⟨o77,h78,h⟩:=zB h
 refine zO (fun (s:List (List Int)×Int)=>⟨[(3,.own 146 1 0 s.1.length),(7,.p (.slc (vwb (PV.int .i64) r75))),(8,.p (.int .i64 (r75.length:Int))),(9,.p (.int .i64 s.2))],((146,.arr 23 1 1 (qh3 146 3 1 1 (PV.int .i64) s.1)) :: qi4 146 3 1 1 (PV.int .i64) s.1 [])⟩) (fun (o79:List (List Int))=>tE ⟨Tryz.prog,33,126,X,[],i72,w73,False,h74⟩ (.exit 0) ⟨[(3,.own 146 1 0 o79.length)],((146,.arr 23 1 1 (qh3 146 3 1 1 (PV.int .i64) o79)) :: qi4 146 3 1 1 (PV.int .i64) o79 [])⟩) h78 ?_ ?_
 clear h h5 h23 h23T h70 h71 h71F h76 h78
 intro s x h
 obtain ⟨o80,t81⟩:=s
 simp only [qmh] at h
 dsimp only
 refine zs<|zr ?_
 refine zU<|zl<|zn<|zs ?_
 obtain ⟨h82,h⟩|⟨h82,h⟩:=zI h
 refine zi<|zk<|zn<|zs<|zb<|zs<|zr ?_
 obtain ⟨x83,h84,h84a,h84b,h⟩:=zX h
 refine zU<|zl<|zn<|zs<|zs<|zr ?_
 refine zU<|zl<|zn ?_
 obtain ⟨h85,h⟩|⟨h85,h⟩:=zI h
 refine zi<|zr ?_
 obtain ⟨h86,h⟩:=qab h
 refine zW 3 ?_
 refine zM ⟨[(4,.p (.int .i64 t81)),(5,.p (.int .i64 x83)),(7,.p (.slc (vwb (PV.int .i64) r75))),(8,.p (.int .i64 (r75.length:Int))),(9,.p (.int .i64 t81)),(20,.own 146 1 0 (o80.length+1))],((146,.arr 23 1 1 (qh3 146 3 1 1 (PV.int .i64) (o80++[[]]))) :: qi4 146 3 1 1 (PV.int .i64) (o80++[[]]) [])⟩ ?_
 refine zU<|zl<|zn<|zr ?_
 obtain ⟨x87,h88,h88a,h88b,h⟩:=zX h
 have hx_7831C:=h88b
 simp only [vtx,vt2,vv5,vt0,Nat.zero_add] at hx_7831C
 obtain ⟨h89,h⟩:=qab h
 refine zW 11 ?_
 refine zM ⟨[(3,.own 146 1 0 (((o80++[[]]).set x83.toNat (x87++[t81]))).length),(7,.p (.slc (vwb (PV.int .i64) r75))),(8,.p (.int .i64 (r75.length:Int))),(9,.p (.int .i64 t81))],((146,.arr 23 1 1 (qh3 146 3 1 1 (PV.int .i64) ((o80++[[]]).set x83.toNat (x87++[t81])))) :: qi4 146 3 1 1 (PV.int .i64) ((o80++[[]]).set x83.toNat (x87++[t81])) [])⟩ ?_
 refine zl<|yn<|zn<|zr ?_
 refine zU<|zl ?_
 cases h
 exact ⟨rfl,zE⟩
 refine zj<|zk<|zn<|zr ?_
 obtain ⟨x90,h91,h91a,h91b,h⟩:=zX h
 obtain ⟨h92,h⟩:=qab h
 refine zW 11 ?_
 refine zM ⟨[(3,.own 146 1 0 ((o80.set x83.toNat (x90++[t81]))).length),(7,.p (.slc (vwb (PV.int .i64) r75))),(8,.p (.int .i64 (r75.length:Int))),(9,.p (.int .i64 t81))],((146,.arr 23 1 1 (qh3 146 3 1 1 (PV.int .i64) (o80.set x83.toNat (x90++[t81])))) :: qi4 146 3 1 1 (PV.int .i64) (o80.set x83.toNat (x90++[t81])) [])⟩ ?_
 refine zl<|yn<|zn<|zr ?_
 refine zU<|zl ?_
 cases h
 exact ⟨rfl,zE⟩
 refine zj<|zx<|ze ?_
 cases h
 exact ⟨rfl,zE⟩
 try simp only at h
 refine zA<|yh<|zn<|zs<|zr ?_
 refine zU<|zl<|zn<|zq ?_
 refine qg0 (by simp only [results99];simp only [go_sem,seval,h23T,h71F];exact rfl) ?_
 refine zU<|zl<|zn<|zs<|zs<|zr ?_
 refine zU<|zl<|zn<|zb ?_
 obtain ⟨g93,h94,h⟩:=zB h
 refine zO (fun (s:List (List Int)×Int)=>⟨[(0,.p (.slc (vwb (PV.int .i64) c1))),(13,.own 146 1 0 s.1.length),(70,.own 146 1 0 s.1.length),(71,.p (.int .i64 ((o77.length:Nat):Int))),(72,.p (.int .i64 s.2))],((146,.arr 23 1 1 (qh3 146 3 1 1 (PV.int .i64) s.1)) :: qi4 146 3 1 1 (PV.int .i64) s.1 [])⟩) (fun (o95:List (List Int))=>tE (cX Tryz.f55 X w False hT) (.exit 4) ⟨[(13,.own 146 1 0 o95.length)],((146,.arr 23 1 1 (qh3 146 3 1 1 (PV.int .i64) o95)) :: qi4 146 3 1 1 (PV.int .i64) o95 [])⟩) h94 ?_ ?_
 clear h h5 h23 h23T h70 h71 h71F h76 h78 h94
 intro s x h
 obtain ⟨g96,t97⟩:=s
 simp only [qmj] at h
 dsimp only
 refine zs<|zr ?_
 refine zU<|zl<|zn<|zs ?_
 obtain ⟨h98,h⟩|⟨h98,h⟩:=zI h
 refine zi<|zk<|zn<|zs<|zb<|zs<|zr ?_
 obtain ⟨x99,h100,h100a,h100b,h⟩:=zX h
 refine zU<|zl<|zn<|zs<|zr ?_
 refine zU<|zl<|zn<|zb ?_
 obtain ⟨g101,h102,h⟩:=zB h
 refine zO (fun (s:List (List Int)×Int)=>⟨[(0,.p (.slc (vwb (PV.int .i64) c1))),(13,.own 146 1 0 s.1.length),(15,.own (fx 146 t97.toNat) 1 0 x99.length),(70,.own 146 1 0 s.1.length),(71,.p (.int .i64 ((o77.length:Nat):Int))),(72,.p (.int .i64 t97)),(76,.own (fx 146 t97.toNat) 1 0 x99.length),(77,.p (.int .i64 ((x99.length:Nat):Int))),(78,.p (.int .i64 s.2))],((146,.arr 23 1 1 (qh3 146 3 1 1 (PV.int .i64) s.1)) :: qi4 146 3 1 1 (PV.int .i64) s.1 [])⟩) (fun (o103:List (List Int))=>tE (cX Tryz.f55 X w False hT) (.exit 6) ⟨[(0,.p (.slc (vwb (PV.int .i64) c1))),(13,.own 146 1 0 o103.length),(70,.own 146 1 0 o103.length),(71,.p (.int .i64 ((o77.length:Nat):Int))),(72,.p (.int .i64 t97))],((146,.arr 23 1 1 (qh3 146 3 1 1 (PV.int .i64) o103)) :: qi4 146 3 1 1 (PV.int .i64) o103 [])⟩) h102 ?_ ?_
 clear h h98 h100 h100a h100b h102
 intro s x h
 obtain ⟨g104,t105⟩:=s
 simp only [qmi] at h
 dsimp only
 refine zs<|zr ?_
 refine zU<|zl<|zn<|zs ?_
 obtain ⟨h106,h⟩|⟨h106,h⟩:=zI h
 refine zi<|zk<|zn<|zs<|zb<|zs<|zr ?_
 obtain ⟨x107,h108,h108a,h108b,h⟩:=zX h
 obtain ⟨x109,h110,h110a,h110b,h⟩:=zX h
 obtain ⟨h111,h⟩:=qab h
 refine zU<|zl<|zn<|zr ?_
 obtain ⟨x112,h113,h113a,h113b,h⟩:=zX h
 refine zW 8 ?_
 refine zM ⟨[(0,.p (.slc (vwb (PV.int .i64) c1))),(13,.own 146 1 0 ((g104.set t97.toNat (x107.set t105.toNat x112))).length),(15,.own (fx 146 t97.toNat) 1 0 x99.length),(70,.own 146 1 0 ((g104.set t97.toNat (x107.set t105.toNat x112))).length),(71,.p (.int .i64 ((o77.length:Nat):Int))),(72,.p (.int .i64 t97)),(76,.own (fx 146 t97.toNat) 1 0 x99.length),(77,.p (.int .i64 ((x99.length:Nat):Int))),(78,.p (.int .i64 t105))],((146,.arr 23 1 1 (qh3 146 3 1 1 (PV.int .i64) (g104.set t97.toNat (x107.set t105.toNat x112)))) :: qi4 146 3 1 1 (PV.int .i64) (g104.set t97.toNat (x107.set t105.toNat x112)) [])⟩ ?_
 refine zl<|yn<|zn<|zr ?_
 refine zU<|zl ?_
 cases h
 exact ⟨rfl,zE⟩
 refine zj<|zx<|ze ?_
 cases h
 exact ⟨rfl,zE⟩
 try simp only at h
 refine zA<|yh<|yn<|zn<|zr ?_
 refine zU<|zl ?_
 cases h
 exact ⟨rfl,zE⟩
 refine zj<|zx<|ze ?_
 cases h
 exact ⟨rfl,zE⟩
 try simp only at h
 refine zA<|yh<|zn<|zs<|zr ?_
 refine zU<|zl<|zn<|zq ?_
 cases h
 exact zT results55
theorem qlv {D:Prop} (x1:Int) (r2:Bool) (h:qhp x1=some r2):Con D Tryz.prog 171 [(.int .i64 x1)] (.bool r2):=by
 refine zP call171 func171 rfl ntmps171 fun X w hT=>?_
 simp only [qhp] at h
 refine zs<|zr ?_
 refine zU<|zl<|zn<|zs<|zr ?_
 refine zU<|zl<|zn<|zq ?_
 cases h
 exact zT results171
theorem qpt {D:Prop} (x1:Int) (y2:Int) (r3:Int) (h:qgr x1 y2=some r3):Con D Tryz.prog 101 [(.int .i64 x1),(.int .i64 y2)] (.int .i64 r3):=by
 refine zP call101 func101 rfl ntmps101 fun X w hT=>?_
 simp only [qgr] at h
 refine zs<|zr ?_
 refine zU<|zl<|zn<|zs<|zr ?_
 refine zU ?_
 obtain ⟨r4,h5,h⟩:=zB h
 refine zc (qlv x1 _ h5) ?_
 refine zU<|zl<|zn<|zs<|zr ?_
 refine zU ?_
 obtain ⟨r6,h7,h⟩:=zB h
 refine zc (qlv y2 _ h7) ?_
 refine zU<|zl<|zn<|zs<|zs<|zr ?_
 refine zU<|zl<|zn ?_
 obtain ⟨h8,h⟩|⟨h8,h⟩:=zI h
 refine zi<|zs<|zs<|zr ?_
 refine zU<|zl<|zn ?_
 obtain ⟨h9,h⟩|⟨h9,h⟩:=zI h
 refine zi<|zs<|zr ?_
 refine zU<|zl<|zn<|zq<|zt<|zt ?_
 cases h
 exact zT results101
 refine zj<|zk<|zn<|zs<|zr ?_
 refine zU<|zl<|zn<|zq<|zt ?_
 cases h
 exact zT results101
 refine zj<|zk<|zn<|zs<|zs<|zr ?_
 refine zU<|zl<|zn ?_
 obtain ⟨h10,h⟩|⟨h10,h⟩:=zI h
 refine zi<|zs<|zr ?_
 refine zU<|zl<|zn<|zq<|zt ?_
 cases h
 exact zT results101
 refine zj<|zk<|zn<|zs<|zs<|zr ?_
 refine zU<|zl<|zn ?_
 obtain ⟨h11,h⟩|⟨h11,h⟩:=zI h
 refine zi<|zs<|zr ?_
 refine zU<|zl<|zn<|zq<|zt ?_
 cases h
 exact zT results101
 refine zj<|zk<|zn<|zs<|zs<|zr ?_
 refine zU<|zl<|zn ?_
 obtain ⟨h12,h⟩|⟨h12,h⟩:=zI h
 refine zi<|zs<|zr ?_
 refine zU<|zl<|zn<|zq<|zt ?_
 cases h
 exact zT results101
 refine zj<|zk<|zn<|zs<|zr ?_
 refine zU<|zl<|zn<|zq ?_
 cases h
 exact zT results101
theorem qn2 {D:Prop} (s1:List Int) (s2:List Int) (r3:Int) (h:qah s1 s2=some r3):Con D Tryz.prog 57 [(.slc (vwb (PV.int .i64) s1)),(.slc (vwb (PV.int .i64) s2))] (.int .i64 r3):=by
 refine zP call57 func57 rfl ntmps57 fun X w hT=>?_
 simp only [qah] at h
 refine zs<|zr ?_
 refine zU<|zl<|zn<|zs<|zs<|zr ?_
 refine zU<|zl<|zn<|zb ?_
 obtain ⟨o4,h5,h⟩:=zB h
 refine zO (fun (s:Int)=>⟨[(0,.p (.slc (vwb (PV.int .i64) s1))),(1,.p (.slc (vwb (PV.int .i64) s2))),(9,.p (.slc (vwb (PV.int .i64) s1))),(10,.p (.int .i64 (s1.length:Int))),(11,.p (.int .i64 s))],[]⟩) (fun (o:(Unit) ⊕ (Int))=>match o with | .inl o6=>tE (cX Tryz.f57 X w D hT) (.exit 0) ⟨[(0,.p (.slc (vwb (PV.int .i64) s1))),(1,.p (.slc (vwb (PV.int .i64) s2)))],[]⟩ | .inr o7=>tR Tryz.prog Tryz.f57 (.int .i64 o7)) h5 ?_ ?_
 clear h h5
 intro t8 x h
 simp only [qa3] at h
 refine zs<|zr ?_
 refine zU<|zl<|zn<|zs ?_
 obtain ⟨h9,h⟩|⟨h9,h⟩:=zI h
 refine zi<|zk<|zn<|zs<|zb<|zs<|zr ?_
 obtain ⟨x10,h11,h11a,h11b,h⟩:=zX h
 refine zU<|zl<|zn<|zs<|zs<|zr ?_
 refine zU<|zl<|zn ?_
 obtain ⟨h12,h⟩|⟨h12,h⟩:=zI h
 refine zi<|zs<|zr ?_
 refine zU<|zl<|zn<|zq<|zt<|yr<|zt ?_
 cases h
 exact ⟨rfl,zT results57⟩
 refine zj<|zk<|zn<|zs<|zr ?_
 obtain ⟨x13,h14,h14a,h14b,h⟩:=zX h
 refine zU<|zl<|zn<|zs<|zr ?_
 refine zU ?_
 obtain ⟨r15,h16,h⟩:=zB h
 refine zc (qpt x10 x13 _ h16) ?_
 refine zU<|zl<|zn<|zs<|zr ?_
 refine zU<|zl<|zn ?_
 obtain ⟨h17,h⟩|⟨h17,h⟩:=zI h
 refine zi<|zs<|zr ?_
 refine zU<|zl<|zn<|zq<|yr<|zt ?_
 cases h
 exact ⟨rfl,zT results57⟩
 refine zj<|zk<|yn<|zn<|zr ?_
 refine zU<|zl ?_
 cases h
 exact ⟨rfl,zE⟩
 refine zj<|zx<|ze ?_
 cases h
 exact ⟨rfl,zE⟩
 rcases o4 with ⟨⟩ | r18
 try simp only at h
 refine zA<|yh<|zn<|zs<|zs<|zr ?_
 refine zU<|zl<|zn ?_
 obtain ⟨h19,h⟩|⟨h19,h⟩:=zI h
 refine zi<|zs<|zr ?_
 refine zU<|zl<|zn<|zq<|zt ?_
 cases h
 exact zT results57
 refine zj<|zk<|zn<|zs<|zr ?_
 refine zU<|zl<|zn<|zq ?_
 cases h
 exact zT results57
 try simp only at h
 refine zZ fun s hq=>?_
 refine yr<|zt ?_
 cases h
 exact hq
theorem qkv (t1:Table) (l2:Linkage) (r3:List (List Int)×Int) (h:qfl t1 l2=some r3):Con False Tryz.prog 20 [(qap t1),(qai l2)] (.tup [(.slc (vwb (qat (PV.int .i64)) r3.1)),(.int .i64 r3.2)]):=by
 refine zP call20 func20 rfl ntmps20 fun X w hT=>?_
 simp only [qfl] at h
 refine zs<|zr ?_
 refine zU<|zl<|zn<|zs<|zs<|zr ?_
 refine zU ?_
 obtain ⟨r4,h5,h⟩:=zB h
 refine zc (qmv t1 l2 _ h5) ?_
 refine zU<|zl<|zn<|zs<|zr ?_
 refine zU<|zl<|zn ?_
 obtain ⟨h6,h⟩|⟨h6,h⟩:=zI h
 refine zi<|zs<|zr ?_
 refine zU<|zl<|zn<|zq<|zt ?_
 cases h
 exact zT results20
 refine zj<|zk<|zn<|zs<|zr ?_
 refine zU ?_
 obtain ⟨r7,h8,h⟩:=zB h
 refine zc (qlu t1 l2 _ h8) ?_
 refine zU<|zl<|zn<|zs<|zr ?_
 refine zU<|zl<|zn<|zs<|zs<|zr ?_
 refine zU<|zl<|zn<|zb ?_
 obtain ⟨m9,h10,h⟩:=zB h
 refine zO (fun (s:(List (Arr2_int×Bool))×Int)=>⟨[(2,.loc 2 1 0 0),(7,.p (.slc (vwb qac r7))),(8,.mapo 32 1),(33,.p (.slc (vwb qac r7))),(34,.p (.int .i64 (r7.length:Int))),(35,.p (.int .i64 s.2))],[(2,.arr 41 3 1 [.p (qap t1)]),(32,.map 1 (vwb AV.p (qmc qac s.1)) (vwb AV.p (qna PV.bool s.1)))]⟩) (fun (o11:(List (Arr2_int×Bool)))=>tE (cX Tryz.f20 X w False hT) (.exit 0) ⟨[(2,.loc 2 1 0 0),(7,.p (.slc (vwb qac r7))),(8,.mapo 32 1)],[(2,.arr 41 3 1 [.p (qap t1)]),(32,.map 1 (vwb AV.p (qmc qac o11)) (vwb AV.p (qna PV.bool o11)))]⟩) h10 ?_ ?_
 clear h h5 h6 h8 h10
 intro s x h
 obtain ⟨m12,t13⟩:=s
 simp only [qdl] at h
 dsimp only
 refine zs<|zr ?_
 refine zU<|zl<|zn<|zs ?_
 obtain ⟨h14,h⟩|⟨h14,h⟩:=zI h
 have h14T:=eq_true h14
 refine zi<|zk<|zn<|zs<|zb<|zs<|zr ?_
 obtain ⟨x15,h16,h16a,h16b,h⟩:=zX h
 refine zU<|zl<|zn<|zr ?_
 refine zW 2 ?_
 obtain ⟨k17,h18,h⟩:=zB h
 replace h18:=vwz h18
 obtain ⟨k19,h20,h⟩:=zB h
 replace h20:=vwz h20
 refine vkj (st':=⟨[(2,.loc 2 1 0 0),(7,.p (.slc (vwb qac r7))),(8,.mapo 32 1),(33,.p (.slc (vwb qac r7))),(34,.p (.int .i64 (r7.length:Int))),(35,.p (.int .i64 t13)),(39,.mapo 32 1),(40,.p (.agg [.int .i64 k17,.int .i64 k19]))],[(2,.arr 41 3 1 [.p (qap t1)]),(32,.map 1 (vwb AV.p (qmc qac m12)) (vwb AV.p (qna PV.bool m12)))]⟩) (by simp only [go_sem,seval,h14T,←h18,←h20];all_goals ((repeat' refine vzq ?_ ?_) <;> first | rfl | (simp;done) | (simp;rfl) | (simp [*];done) | (simp [*];rfl))) ?_
 clear h18 h20
 refine zU<|zl<|yn<|zn<|zr ?_
 refine zU<|zl ?_
 cases h
 exact ⟨rfl,zE⟩
 have h14T:=eq_false h14
 refine zj<|zx<|ze ?_
 cases h
 exact ⟨rfl,zE⟩
 try simp only at h
 refine zA<|yh<|zn<|zs<|zr ?_
 refine zU ?_
 obtain ⟨r21,h22,h⟩:=zB h
 refine zc (qqn (t1.Rows.length:Int) r7 _ h22) ?_
 refine zU<|zl<|zn<|zs<|zs<|zr ?_
 refine zU<|zl<|zn ?_
 obtain ⟨h23,h⟩|⟨h23,h⟩:=zI h
 refine zi<|zs<|zr ?_
 refine zU<|zl<|zn<|zq<|zt ?_
 cases h
 exact zT results20
 refine zj<|zk<|zn<|zs<|zr ?_
 refine zU<|zl<|zn<|zs<|zs<|zr ?_
 refine zU<|zl<|zn<|zb ?_
 obtain ⟨o24,h25,h⟩:=zB h
 refine zO (fun (s:List (List Int)×Int)=>⟨[(2,.loc 2 1 0 0),(8,.p (.mapv (qmc qac m9) (qna PV.bool m9))),(13,.own 93 1 0 s.1.length),(53,.p (.slc (vwb (qat (PV.int .i64)) r21.1))),(54,.p (.int .i64 (r21.1.length:Int))),(55,.p (.int .i64 s.2))],[(2,.arr 41 3 1 [.p (qap t1)]),(93,.arr 63 1 1 (vwb AV.p (vwb (qat (PV.int .i64)) s.1)))]⟩) (fun (o:(List (List Int)) ⊕ (List (List Int)×Int))=>match o with | .inl o26=>tE (cX Tryz.f20 X w False hT) (.exit 2) ⟨[(13,.own 93 1 0 o26.length)],[(93,.arr 63 1 1 (vwb AV.p (vwb (qat (PV.int .i64)) o26)))]⟩ | .inr o27=>tR Tryz.prog Tryz.f20 (.tup [(.slc (vwb (qat (PV.int .i64)) o27.1)),(.int .i64 o27.2)])) h25 ?_ ?_
 clear h h5 h6 h8 h10 h22 h23 h25
 intro s x h
 obtain ⟨o28,t29⟩:=s
 simp only [qek] at h
 dsimp only
 refine zs<|zr ?_
 refine zU<|zl<|zn<|zs ?_
 obtain ⟨h30,h⟩|⟨h30,h⟩:=zI h
 refine zi<|zk<|zn<|zs<|zb<|zs<|zr ?_
 obtain ⟨x31,h32,h32a,h32b,h⟩:=zX h
 refine zU<|zl<|zn<|zs<|zr ?_
 refine zU ?_
 obtain ⟨r33,h34,h⟩:=zB h
 refine zc (qtk x31 m9 _ h34) ?_
 refine zU<|zl<|zn<|zs<|zs<|zr ?_
 refine zU<|zl<|zn ?_
 obtain ⟨h35,h⟩|⟨h35,h⟩:=zI h
 refine zi<|zs<|zr ?_
 refine zU<|zl<|zn<|zq<|zt<|yr<|zt ?_
 cases h
 exact ⟨rfl,zT results20⟩
 refine zj<|zk<|zn<|zs<|zr ?_
 refine zU<|zl<|zn<|zb ?_
 obtain ⟨o36,h37,h⟩:=zB h
 refine zO (fun (s:List (List Int)×Int)=>⟨[(2,.loc 2 1 0 0),(8,.p (.mapv (qmc qac m9) (qna PV.bool m9))),(13,.own 93 1 0 s.1.length),(53,.p (.slc (vwb (qat (PV.int .i64)) r21.1))),(54,.p (.int .i64 (r21.1.length:Int))),(55,.p (.int .i64 t29)),(68,.p (.slc (vwb (qat (PV.int .i64)) r33.1))),(69,.p (.int .i64 (r33.1.length:Int))),(70,.p (.int .i64 s.2))],[(2,.arr 41 3 1 [.p (qap t1)]),(93,.arr 63 1 1 (vwb AV.p (vwb (qat (PV.int .i64)) s.1)))]⟩) (fun (o38:List (List Int))=>tE (cX Tryz.f20 X w False hT) (.exit 4) ⟨[(2,.loc 2 1 0 0),(8,.p (.mapv (qmc qac m9) (qna PV.bool m9))),(13,.own 93 1 0 o38.length),(53,.p (.slc (vwb (qat (PV.int .i64)) r21.1))),(54,.p (.int .i64 (r21.1.length:Int))),(55,.p (.int .i64 t29))],[(2,.arr 41 3 1 [.p (qap t1)]),(93,.arr 63 1 1 (vwb AV.p (vwb (qat (PV.int .i64)) o38)))]⟩) h37 ?_ ?_
 clear h h30 h32 h32a h32b h34 h35 h37
 intro s x h
 obtain ⟨o39,t40⟩:=s
 simp only [qc4] at h
 dsimp only
 refine zs<|zr ?_
 refine zU<|zl<|zn<|zs ?_
 obtain ⟨h41,h⟩|⟨h41,h⟩:=zI h
 refine zi<|zk<|zn<|zs<|zb<|zs<|zr ?_
 obtain ⟨x42,h43,h43a,h43b,h⟩:=zX h
 refine zU<|zl<|zn<|zs<|zr ?_
 refine zU<|zl<|zn<|zs<|zs<|zr ?_
 refine zU<|zl<|zn<|zb ?_
 obtain ⟨i44,h45,h⟩:=zB h
 refine zO (fun (s:List Int×Int)=>⟨[(2,.loc 2 1 0 0),(8,.p (.mapv (qmc qac m9) (qna PV.bool m9))),(13,.own 93 1 0 o39.length),(20,.own 88 1 0 s.1.length),(53,.p (.slc (vwb (qat (PV.int .i64)) r21.1))),(54,.p (.int .i64 (r21.1.length:Int))),(55,.p (.int .i64 t29)),(68,.p (.slc (vwb (qat (PV.int .i64)) r33.1))),(69,.p (.int .i64 (r33.1.length:Int))),(70,.p (.int .i64 t40)),(74,.p (.slc (vwb (PV.int .i64) x42))),(75,.p (.int .i64 (x42.length:Int))),(76,.p (.int .i64 s.2))],[(2,.arr 41 3 1 [.p (qap t1)]),(88,.arr 2 1 1 (vwb AV.p (vwb (PV.int .i64) s.1))),(93,.arr 63 1 1 (vwb AV.p (vwb (qat (PV.int .i64)) o39)))]⟩) (fun (o46:List Int)=>tE (cX Tryz.f20 X w False hT) (.exit 6) ⟨[(2,.loc 2 1 0 0),(8,.p (.mapv (qmc qac m9) (qna PV.bool m9))),(13,.own 93 1 0 o39.length),(20,.own 88 1 0 o46.length),(53,.p (.slc (vwb (qat (PV.int .i64)) r21.1))),(54,.p (.int .i64 (r21.1.length:Int))),(55,.p (.int .i64 t29)),(68,.p (.slc (vwb (qat (PV.int .i64)) r33.1))),(69,.p (.int .i64 (r33.1.length:Int))),(70,.p (.int .i64 t40))],[(2,.arr 41 3 1 [.p (qap t1)]),(88,.arr 2 1 1 (vwb AV.p (vwb (PV.int .i64) o46))),(93,.arr 63 1 1 (vwb AV.p (vwb (qat (PV.int .i64)) o39)))]⟩) h45 ?_ ?_
 clear h h41 h43 h43a h43b h45
 intro s x h
 obtain ⟨i47,t48⟩:=s
 simp only [qc3] at h
 dsimp only
 refine zs<|zr ?_
 refine zU<|zl<|zn<|zs ?_
 obtain ⟨h49,h⟩|⟨h49,h⟩:=zI h
 refine zi<|zk<|zn<|zs<|zb<|zs<|zr ?_
 obtain ⟨x50,h51,h51a,h51b,h⟩:=zX h
 refine zU<|zl<|zn<|zr ?_
 obtain ⟨x52,h53,h53a,h53b,h⟩:=zX h
 obtain ⟨h54,h⟩:=qab h
 refine zU<|zl<|yn<|zn<|zr ?_
 refine zU<|zl ?_
 cases h
 exact ⟨rfl,zE⟩
 refine zj<|zx<|ze ?_
 cases h
 exact ⟨rfl,zE⟩
 try simp only at h
 refine zA<|yh<|zn<|zr ?_
 refine zW 3 ?_
 refine zM ⟨[(2,.loc 2 1 0 0),(8,.p (.mapv (qmc qac m9) (qna PV.bool m9))),(53,.p (.slc (vwb (qat (PV.int .i64)) r21.1))),(54,.p (.int .i64 (r21.1.length:Int))),(55,.p (.int .i64 t29)),(68,.p (.slc (vwb (qat (PV.int .i64)) r33.1))),(69,.p (.int .i64 (r33.1.length:Int))),(70,.p (.int .i64 t40)),(90,.own 93 1 0 o39.length),(92,.own 92 1 0 1)],[(2,.arr 41 3 1 [.p (qap t1)]),(92,.arr 63 1 1 [.p (.slc (vwb (PV.int .i64) i44))]),(93,.arr 63 1 1 (vwb AV.p (vwb (qat (PV.int .i64)) o39)))]⟩ ?_
 obtain ⟨h55,h⟩:=qab h
 refine zU<|zl<|yn<|zn<|zr ?_
 refine zU<|zl ?_
 cases h
 exact ⟨rfl,zE⟩
 refine zj<|zx<|ze ?_
 cases h
 exact ⟨rfl,zE⟩
 try simp only at h
 refine zA<|yh<|yn<|zn<|zr ?_
 refine zU<|zl ?_
 cases h
 exact ⟨rfl,zE⟩
 refine zj<|zx<|ze ?_
 cases h
 exact ⟨rfl,zE⟩
 rcases o24 with o56 | r57
 try simp only at h
 refine zA<|yh<|zn<|zs<|zr ?_
 refine zU ?_
 refine zM ⟨[(13,.own 93 1 0 o56.length),(96,.own 93 1 0 o56.length)],[(93,.arr 63 1 1 (vwb AV.p (vwb (qat (PV.int .i64)) o56)))]⟩ ?_
 obtain ⟨l58,h59,h⟩:=zB h
 refine zSF srt56 (qat (PV.int .i64)) (fun (y60:List Int) (y61:List Int)=>qah y60 y61) h59 (fun y60 y61 r h=>qn2 y60 y61 r h) ?_
 have h62:=vhb h59
 refine zM ⟨[(13,.own 93 1 0 l58.length),(97,.p (.tup []))],[(93,.arr 63 1 1 (vwb AV.p (vwb (qat (PV.int .i64)) l58)))]⟩ ?_
 clear h62
 refine zl<|zn<|zs<|zr ?_
 refine zU<|zl<|zn<|zq ?_
 cases h
 exact zT results20
 try simp only at h
 refine zZ fun s hq=>?_
 refine yr<|zt ?_
 cases h
 exact hq
theorem qtl {D:Prop} (a1:List Int) (b2:List Int) (r3:Bool) (h:qim a1 b2=some r3):Con D Tryz.prog 60 [(.slc (vwb (PV.int .i64) a1)),(.slc (vwb (PV.int .i64) b2))] (.bool r3):=by
 refine zP call60 func60 rfl ntmps60 fun X w hT=>?_
 simp only [qim] at h
 refine zs<|zr ?_
 refine zU<|zl<|zn<|zs<|zs<|zr ?_
 refine zU<|zl<|zn ?_
 obtain ⟨h4,h⟩|⟨h4,h⟩:=zI h
 refine zi<|zs<|zr ?_
 refine zU<|zl<|zn<|zq<|zt ?_
 cases h
 exact zT results60
 refine zj<|zk<|zn<|zs<|zs<|zr ?_
 refine zU<|zl<|zn<|zb ?_
 obtain ⟨o5,h6,h⟩:=zB h
 refine zO (fun (s:Int)=>⟨[(0,.p (.slc (vwb (PV.int .i64) a1))),(1,.p (.slc (vwb (PV.int .i64) b2))),(5,.p (.int .i64 s))],[]⟩) (fun (o:(Unit) ⊕ (Bool))=>match o with | .inl o7=>tE (cX Tryz.f60 X w D hT) (.exit 0) ⟨[],[]⟩ | .inr o8=>tR Tryz.prog Tryz.f60 (.bool o8)) h6 ?_ ?_
 clear h h4 h6
 intro i9 x h
 simp only [qew] at h
 refine zs<|zs<|zr ?_
 refine zU<|zl<|zn ?_
 obtain ⟨h10,h⟩|⟨h10,h⟩:=zI h
 refine zi<|zk<|zn<|zs<|zb<|zs<|zd ?_
 obtain ⟨x11,h12,h12a,h12b,h⟩:=zX h
 obtain ⟨x13,h14,h14a,h14b,h⟩:=zX h
 refine yU ?_
 refine yd<|zn ?_
 obtain ⟨h15,h⟩|⟨h15,h⟩:=zI h
 refine zi<|zs<|zr ?_
 refine zU<|zl<|zn<|zq<|yr<|zt ?_
 cases h
 exact ⟨rfl,zT results60⟩
 refine zj<|zk<|yn<|zn<|zr ?_
 refine zU<|zl ?_
 cases h
 exact ⟨rfl,zE⟩
 refine zj<|zx<|ze ?_
 cases h
 exact ⟨rfl,zE⟩
 rcases o5 with ⟨⟩ | r16
 try simp only at h
 refine zA<|yh<|zn<|zs<|zr ?_
 refine zU<|zl<|zn<|zq ?_
 cases h
 exact zT results60
 try simp only at h
 refine zZ fun s hq=>?_
 refine yr<|zt ?_
 cases h
 exact hq
theorem qqo {D:Prop} (a1:List (List Int)) (b2:List (List Int)) (r3:Bool) (h:qfm a1 b2=some r3):Con D Tryz.prog 23 [(.slc (vwb (qat (PV.int .i64)) a1)),(.slc (vwb (qat (PV.int .i64)) b2))] (.bool r3):=by
 refine zP call23 func23 rfl ntmps23 fun X w hT=>?_
 simp only [qfm] at h
 refine zs<|zr ?_
 refine zU<|zl<|zn<|zs<|zs<|zr ?_
 refine zU<|zl<|zn ?_
 obtain ⟨h4,h⟩|⟨h4,h⟩:=zI h
 refine zi<|zs<|zr ?_
 refine zU<|zl<|zn<|zq<|zt ?_
 cases h
 exact zT results23
 refine zj<|zk<|zn<|zs<|zs<|zr ?_
 refine zU<|zl<|zn<|zb ?_
 obtain ⟨o5,h6,h⟩:=zB h
 refine zO (fun (s:Int)=>⟨[(0,.p (.slc (vwb (qat (PV.int .i64)) a1))),(1,.p (.slc (vwb (qat (PV.int .i64)) b2))),(5,.p (.int .i64 s))],[]⟩) (fun (o:(Unit) ⊕ (Bool))=>match o with | .inl o7=>tE (cX Tryz.f23 X w D hT) (.exit 0) ⟨[],[]⟩ | .inr o8=>tR Tryz.prog Tryz.f23 (.bool o8)) h6 ?_ ?_
 clear h h4 h6
 intro i9 x h
 simp only [qg1] at h
 refine zs<|zs<|zr ?_
 refine zU<|zl<|zn ?_
 obtain ⟨h10,h⟩|⟨h10,h⟩:=zI h
 refine zi<|zk<|zn<|zs<|zb<|zs<|zd ?_
 obtain ⟨x11,h12,h12a,h12b,h⟩:=zX h
 obtain ⟨x13,h14,h14a,h14b,h⟩:=zX h
 refine yU ?_
 obtain ⟨r15,h16,h⟩:=zB h
 refine yc (qtl x11 x13 _ h16) ?_
 refine yU ?_
 refine yd<|zn ?_
 obtain ⟨h17,h⟩|⟨h17,h⟩:=zI h
 refine zj<|zk<|yn<|zn<|zr ?_
 refine zU<|zl ?_
 cases h
 exact ⟨rfl,zE⟩
 refine zi<|zs<|zr ?_
 refine zU<|zl<|zn<|zq<|yr<|zt ?_
 cases h
 exact ⟨rfl,zT results23⟩
 refine zj<|zx<|ze ?_
 cases h
 exact ⟨rfl,zE⟩
 rcases o5 with ⟨⟩ | r18
 try simp only at h
 refine zA<|yh<|zn<|zs<|zr ?_
 refine zU<|zl<|zn<|zq ?_
 cases h
 exact zT results23
 try simp only at h
 refine zZ fun s hq=>?_
 refine yr<|zt ?_
 cases h
 exact hq
end Go.Proofs.YtmlegeeinnkhkaaGreat
