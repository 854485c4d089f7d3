/- -/
import Derived.Shelf.SlSortCmp.NoneTotal
import Derived.Ground.SlsfProg
import Derived.Shelf.SortM.Plain
import Derived.Shelf.SortM.SortNone
import Derived.Ground.SlgmProg
import Derived.Shelf.Slices.CompactI
import Derived.Ground.Names2Prog
import Derived.Shelf.Strings.Repeat
import Derived.Ground.NamesProg
import Derived.Shelf.Small.Strs
import Derived.Shelf.Spec.BitsCarry
import Derived.Shelf.Spec.SlicesGrow
import Derived.Ground.Names8Prog
import Derived.Ground.SlgnProg
import Derived.Test.YtmlegeeinnkhkaaGreatT1
import Derived.Test.YtmlegeeinnkhkaaGreatL1
import Derived.Test.YtmlegeeinnkhkaaGreatA2
import Derived.Test.YtmlegeeinnkhkaaGreatA3
set_option linter.unusedVariables false
set_option linter.unusedSimpArgs false
set_option maxHeartbeats 4000000
set_option maxRecDepth 20000
open And renaming intro→v62
open Bool renaming eq_false_iff→v18
open Go.IntKind renaming i64→v4a
open List renaming length_append→v0h,length_cons→v2p,length_nil→v0k,length_set→v0m,map→v2v,replicate→v01
open Nat renaming le_refl→v1f
open Option.some renaming inj→v3q
open Go.Ab.PV renaming int→v65,str→v67
namespace Go.Proofs.YtmlegeeinnkhkaaGreat
open Go Go.Ab Tryz
variable {D:Prop}
theorem mixed:prog.follows .mixedOrders=true:=by kernel_rfl
@[reducible] noncomputable def cX (f:Func) (X:Nat→Prop) (w:World) (D:Prop) (hT:q0p prog (fun b=>X b∨F (fun _=>none) (qa4 []) b) w):Cx:=⟨prog,f.ntmps,0,X,[],fun _=>none,w,D,hT⟩
theorem zd {N B:Nat} {X:Nat→Prop} {H0:List (Nat×AO)} {inj0:Inj} {w0:World} {tb:q0p prog (fun b=>X b∨F inj0 (qa4 H0) b) w0} {Q:Exit→St→Prop} {st:St} {id:Nat} {l:List Oper} (h:DGo ⟨prog,N,B,X,H0,inj0,w0,D,tb⟩ l.toArray l st [] (DK ⟨prog,N,B,X,H0,inj0,w0,D,tb⟩ l.toArray Q)) (hs:qn0 l.toArray=true:=by kernel_rfl):AWp ⟨prog,N,B,X,H0,inj0,w0,D,tb⟩ (.region id l.toArray true) Q st:=q3g mixed hs h
theorem zdl (n:Nat) {N B:Nat} {X:Nat→Prop} {H0:List (Nat×AO)} {inj0:Inj} {w0:World} {tb:q0p prog (fun b=>X b∨F inj0 (qa4 H0) b) w0} {Q:Exit→St→Prop} {st:St} {id:Nat} {l:List Oper} (h:DGo ⟨prog,N,B,X,H0,inj0,w0,D,tb⟩ l.toArray (l.take n) st [] (DKL ⟨prog,N,B,X,H0,inj0,w0,D,tb⟩ l.toArray (l.drop n) Q)) (hs:qn0 l.toArray=true:=by kernel_rfl) (hl:vdx l.toArray n=true:=by kernel_rfl):AWp ⟨prog,N,B,X,H0,inj0,w0,D,tb⟩ (.region id l.toArray true) Q st:=q3h n mixed hs hl h
def qaj (x:Value):PV:=.agg [.int .i64 x.Kind,.int .i64 x.Num,.str x.Str]
@[go_sem] theorem vpd (x:Value):PV.agg [.int .i64 x.Kind,.int .i64 x.Num,.str x.Str]=qaj x:=rfl
@[go_sem] theorem q3y (x:Value):(qaj x).cells=[.int .i64 x.Kind,.int .i64 x.Num,.str x.Str]:=rfl
@[go_sem] theorem vmc (x:Value):(qaj x).isAgg=true:=rfl
@[go_sem] theorem vmd (x:Value):(qaj x).isTup=false:=rfl
@[go_sem] theorem vuc (l:List Value):((l.map qaj).all fun y=>y.cells.length == 3)=true:=by simp [qaj,PV.cells]
@[go_sem] theorem vud (l:List Value):((l.map qaj).map AV.p).all (qjf 3)=true:=qk2 _ _ _ fun _=>⟨rfl,rfl⟩
@[go_sem] theorem vpe:qaj (Value.mk 0 0 [])=.agg [.int .i64 0,.int .i64 0,.str []]:=rfl
@[go_sem] theorem vpf (x:Value):(qaj x).flat=true:=rfl
def qaq (x:Similar):PV:=.agg [.int .i64 x.Attr,.int .i64 x.Measure,.int .i64 x.Limit]
@[go_sem] theorem vl0 (x:Similar):PV.agg [.int .i64 x.Attr,.int .i64 x.Measure,.int .i64 x.Limit]=qaq x:=rfl
@[go_sem] theorem qz9 (x:Similar):(qaq x).cells=[.int .i64 x.Attr,.int .i64 x.Measure,.int .i64 x.Limit]:=rfl
@[go_sem] theorem vhq (x:Similar):(qaq x).isAgg=true:=rfl
@[go_sem] theorem vhr (x:Similar):(qaq x).isTup=false:=rfl
@[go_sem] theorem vl1:qaq (Similar.mk 0 0 0)=.agg [.int .i64 0,.int .i64 0,.int .i64 0]:=rfl
@[go_sem] theorem vl2 (x:Similar):(qaq x).flat=true:=rfl
def qjl (x:Ratio):PV:=.agg [.int .i64 x.Num,.int .i64 x.Den]
@[go_sem] theorem vpg (x:Ratio):PV.agg [.int .i64 x.Num,.int .i64 x.Den]=qjl x:=rfl
@[go_sem] theorem vme (x:Ratio):(qjl x).cells=[.int .i64 x.Num,.int .i64 x.Den]:=rfl
@[go_sem] theorem vmf (x:Ratio):(qjl x).isAgg=true:=rfl
@[go_sem] theorem vmg (x:Ratio):(qjl x).isTup=false:=rfl
@[go_sem] theorem vph:qjl (Ratio.mk 0 0)=.agg [.int .i64 0,.int .i64 0]:=rfl
@[go_sem] theorem vpi (x:Ratio):(qjl x).flat=true:=rfl
def qao (x:Row):PV:=.agg [.int .i64 x.ID,.slc (v2v qaj x.Values)]
@[go_sem] theorem vue (x:Row):PV.agg [.int .i64 x.ID,.slc (v2v qaj x.Values)]=qao x:=rfl
@[go_sem] theorem vbc (x:Row):(qao x).cells=[.int .i64 x.ID,.slc (v2v qaj x.Values)]:=rfl
@[go_sem] theorem vqc (x:Row):(qao x).isAgg=true:=rfl
@[go_sem] theorem vqd (x:Row):(qao x).isTup=false:=rfl
@[simp] theorem vy7 (a_ID:Int) (a_Values:List Value):qao ⟨a_ID,a_Values⟩=.agg [.int .i64 a_ID,.slc (v2v qaj a_Values)]:=rfl
def qak (x:Linkage):PV:=.agg [.slc (v2v (qap qaq) x.Rules),.slc (v2v (v65 .i64) x.Block),.slc (v2v (v65 .i64) x.Survive)]
@[go_sem] theorem vl3 (x:Linkage):PV.agg [.slc (v2v (qap qaq) x.Rules),.slc (v2v (v65 .i64) x.Block),.slc (v2v (v65 .i64) x.Survive)]=qak x:=rfl
@[go_sem] theorem q0a (x:Linkage):(qak x).cells=[.slc (v2v (qap qaq) x.Rules),.slc (v2v (v65 .i64) x.Block),.slc (v2v (v65 .i64) x.Survive)]:=rfl
@[go_sem] theorem vhs (x:Linkage):(qak x).isAgg=true:=rfl
@[go_sem] theorem vht (x:Linkage):(qak x).isTup=false:=rfl
@[simp] theorem vpj (a_Rules:List (List Similar)) (a_Block:List Int) (a_Survive:List Int):qak ⟨a_Rules,a_Block,a_Survive⟩=.agg [.slc (v2v (qap qaq) a_Rules),.slc (v2v (v65 .i64) a_Block),.slc (v2v (v65 .i64) a_Survive)]:=rfl
def qaf (x:Table):PV:=.agg [.str x.Name,.slc (v2v v67 x.Attrs),.slc (v2v qao x.Rows)]
@[go_sem] theorem vpk (x:Table):PV.agg [.str x.Name,.slc (v2v v67 x.Attrs),.slc (v2v qao x.Rows)]=qaf x:=rfl
@[go_sem] theorem q3z (x:Table):(qaf x).cells=[.str x.Name,.slc (v2v v67 x.Attrs),.slc (v2v qao x.Rows)]:=rfl
@[go_sem] theorem vmh (x:Table):(qaf x).isAgg=true:=rfl
@[go_sem] theorem vmi (x:Table):(qaf x).isTup=false:=rfl
@[simp] theorem vuf (a_Name:List UInt8) (a_Attrs:List (List UInt8)) (a_Rows:List Row):qaf ⟨a_Name,a_Attrs,a_Rows⟩=.agg [.str a_Name,.slc (v2v v67 a_Attrs),.slc (v2v qao a_Rows)]:=rfl
def qag (x:Arr2_int):PV:=.agg [.int .i64 x.x0,.int .i64 x.x1]
@[go_sem] theorem vhu (x:Arr2_int):PV.agg [.int .i64 x.x0,.int .i64 x.x1]=qag x:=rfl
@[go_sem] theorem vhj (x:Arr2_int):(qag x).cells=[.int .i64 x.x0,.int .i64 x.x1]:=rfl
@[go_sem] theorem vhk (x:Arr2_int):(qag x).isAgg=true:=rfl
@[go_sem] theorem vhl (x:Arr2_int):(qag x).isTup=false:=rfl
@[go_sem] theorem vmj (l:List Arr2_int):((l.map qag).all fun y=>y.cells.length == 2)=true:=by simp [qag,PV.cells]
@[go_sem] theorem vmk (l:List Arr2_int):((l.map qag).map AV.p).all (qjf 2)=true:=qk2 _ _ _ fun _=>⟨rfl,rfl⟩
@[go_sem] theorem vhv:qag (Arr2_int.mk 0 0)=.agg [.int .i64 0,.int .i64 0]:=rfl
@[go_sem] theorem vhw (x:Arr2_int):(qag x).flat=true:=rfl
def qas (x:Arr2_int64):PV:=.agg [.int .i64 x.x0,.int .i64 x.x1]
@[go_sem] theorem ve2 (x:Arr2_int64):PV.agg [.int .i64 x.x0,.int .i64 x.x1]=qas x:=rfl
@[go_sem] theorem qwk (x:Arr2_int64):(qas x).cells=[.int .i64 x.x0,.int .i64 x.x1]:=rfl
@[go_sem] theorem vde (x:Arr2_int64):(qas x).isAgg=true:=rfl
@[go_sem] theorem vdf (x:Arr2_int64):(qas x).isTup=false:=rfl
@[go_sem] theorem ve3:qas (Arr2_int64.mk 0 0)=.agg [.int .i64 0,.int .i64 0]:=rfl
@[go_sem] theorem ve4 (x:Arr2_int64):(qas x).flat=true:=rfl
def qa8 (x:Pair):PV:=.agg [.int .i64 x.I,.int .i64 x.K,.int .i64 x.Weight]
@[go_sem] theorem vqe (x:Pair):PV.agg [.int .i64 x.I,.int .i64 x.K,.int .i64 x.Weight]=qa8 x:=rfl
@[go_sem] theorem vpl (x:Pair):(qa8 x).cells=[.int .i64 x.I,.int .i64 x.K,.int .i64 x.Weight]:=rfl
@[go_sem] theorem vpm (x:Pair):(qa8 x).isAgg=true:=rfl
@[go_sem] theorem vpn (x:Pair):(qa8 x).isTup=false:=rfl
@[go_sem] theorem vqf:qa8 (Pair.mk 0 0 0)=.agg [.int .i64 0,.int .i64 0,.int .i64 0]:=rfl
@[go_sem] theorem vqg (x:Pair):(qa8 x).flat=true:=rfl
def qjd (x:Cluster_search):PV:=.agg [.slc (v2v (qap (v65 .i64)) x.w),.slc (v2v (v65 .i64) x.labels),.slc (v2v (v65 .i64) x.best),.int .i64 x.least]
@[go_sem] theorem q8b (x:Cluster_search):PV.agg [.slc (v2v (qap (v65 .i64)) x.w),.slc (v2v (v65 .i64) x.labels),.slc (v2v (v65 .i64) x.best),.int .i64 x.least]=qjd x:=rfl
@[go_sem] theorem q7w (x:Cluster_search):(qjd x).cells=[.slc (v2v (qap (v65 .i64)) x.w),.slc (v2v (v65 .i64) x.labels),.slc (v2v (v65 .i64) x.best),.int .i64 x.least]:=rfl
@[go_sem] theorem q7x (x:Cluster_search):(qjd x).isAgg=true:=rfl
@[go_sem] theorem q7y (x:Cluster_search):(qjd x).isTup=false:=rfl
@[simp] theorem vbf (a_w:List (List Int)) (a_labels:List Int) (a_best:List Int) (a_least:Int):qjd ⟨a_w,a_labels,a_best,a_least⟩=.agg [.slc (v2v (qap (v65 .i64)) a_w),.slc (v2v (v65 .i64) a_labels),.slc (v2v (v65 .i64) a_best),.int .i64 a_least]:=rfl
def qah (x:Drossref04_Wide):PV:=.agg [.int .u64 x.Hi,.int .u64 x.Lo]
@[go_sem] theorem q7z (x:Drossref04_Wide):PV.agg [.int .u64 x.Hi,.int .u64 x.Lo]=qah x:=rfl
@[go_sem] theorem q5o (x:Drossref04_Wide):(qah x).cells=[.int .u64 x.Hi,.int .u64 x.Lo]:=rfl
@[go_sem] theorem q5p (x:Drossref04_Wide):(qah x).isAgg=true:=rfl
@[go_sem] theorem q5q (x:Drossref04_Wide):(qah x).isTup=false:=rfl
@[go_sem] theorem q70:qah (Drossref04_Wide.mk 0 0)=.agg [.int .u64 0,.int .u64 0]:=rfl
@[go_sem] theorem q71 (x:Drossref04_Wide):(qah x).flat=true:=rfl
def qa9 (x:Drossref56_Test):PV:=.agg [.int .u8 x.Attr,.int .u8 x.Measure,.int .u8 x.Limit]
@[go_sem] theorem q72 (x:Drossref56_Test):PV.agg [.int .u8 x.Attr,.int .u8 x.Measure,.int .u8 x.Limit]=qa9 x:=rfl
@[go_sem] theorem qrq (x:Drossref56_Test):(qa9 x).cells=[.int .u8 x.Attr,.int .u8 x.Measure,.int .u8 x.Limit]:=rfl
@[go_sem] theorem q5r (x:Drossref56_Test):(qa9 x).isAgg=true:=rfl
@[go_sem] theorem q5s (x:Drossref56_Test):(qa9 x).isTup=false:=rfl
@[go_sem] theorem q73:qa9 (Drossref56_Test.mk 0 0 0)=.agg [.int .u8 0,.int .u8 0,.int .u8 0]:=rfl
@[go_sem] theorem q74 (x:Drossref56_Test):(qa9 x).flat=true:=rfl
def qau (x:Drossref56_Draft):PV:=.agg [.slc (v2v (qap qa9) x.Rules),.int .u8 x.Block,.slc (v2v (v65 .u8) x.Survive)]
@[go_sem] theorem q5t (x:Drossref56_Draft):PV.agg [.slc (v2v (qap qa9) x.Rules),.int .u8 x.Block,.slc (v2v (v65 .u8) x.Survive)]=qau x:=rfl
@[go_sem] theorem qqr (x:Drossref56_Draft):(qau x).cells=[.slc (v2v (qap qa9) x.Rules),.int .u8 x.Block,.slc (v2v (v65 .u8) x.Survive)]:=rfl
@[go_sem] theorem q30 (x:Drossref56_Draft):(qau x).isAgg=true:=rfl
@[go_sem] theorem q31 (x:Drossref56_Draft):(qau x).isTup=false:=rfl
@[simp] theorem q8c (a_Rules:List (List Drossref56_Test)) (a_Block:Int) (a_Survive:List Int):qau ⟨a_Rules,a_Block,a_Survive⟩=.agg [.slc (v2v (qap qa9) a_Rules),.int .u8 a_Block,.slc (v2v (v65 .u8) a_Survive)]:=rfl
def qax (x:Drossref03_Recipe):PV:=.agg [.int .u8 x.Attrs,.int .u8 x.Gap,.slc (v2v (qap (v65 .u8)) x.Rows)]
@[go_sem] theorem q33 (x:Drossref03_Recipe):PV.agg [.int .u8 x.Attrs,.int .u8 x.Gap,.slc (v2v (qap (v65 .u8)) x.Rows)]=qax x:=rfl
@[go_sem] theorem qpo (x:Drossref03_Recipe):(qax x).cells=[.int .u8 x.Attrs,.int .u8 x.Gap,.slc (v2v (qap (v65 .u8)) x.Rows)]:=rfl
@[go_sem] theorem q21 (x:Drossref03_Recipe):(qax x).isAgg=true:=rfl
@[go_sem] theorem q23 (x:Drossref03_Recipe):(qax x).isTup=false:=rfl
@[simp] theorem q75 (a_Attrs:Int) (a_Gap:Int) (a_Rows:List (List Int)):qax ⟨a_Attrs,a_Gap,a_Rows⟩=.agg [.int .u8 a_Attrs,.int .u8 a_Gap,.slc (v2v (qap (v65 .u8)) a_Rows)]:=rfl
def qj3 (x:Merged):PV:=.agg [.str x.Table.Name,.slc (v2v v67 x.Table.Attrs),.slc (v2v qao x.Table.Rows),.slc (v2v (qap (v65 .i64)) x.Clusters),.slc (v2v (qap (v65 .i64)) x.Origins)]
@[go_sem] theorem vml (x:Merged):PV.agg [.str x.Table.Name,.slc (v2v v67 x.Table.Attrs),.slc (v2v qao x.Table.Rows),.slc (v2v (qap (v65 .i64)) x.Clusters),.slc (v2v (qap (v65 .i64)) x.Origins)]=qj3 x:=rfl
@[go_sem] theorem vl4 (x:Merged):(qj3 x).cells=[.str x.Table.Name,.slc (v2v v67 x.Table.Attrs),.slc (v2v qao x.Table.Rows),.slc (v2v (qap (v65 .i64)) x.Clusters),.slc (v2v (qap (v65 .i64)) x.Origins)]:=rfl
@[go_sem] theorem vl5 (x:Merged):(qj3 x).isAgg=true:=rfl
@[go_sem] theorem vl6 (x:Merged):(qj3 x).isTup=false:=rfl
@[simp] theorem vqh (a_Table:Table) (a_Clusters:List (List Int)) (a_Origins:List (List Int)):qj3 ⟨a_Table,a_Clusters,a_Origins⟩=.agg [.str a_Table.Name,.slc (v2v v67 a_Table.Attrs),.slc (v2v qao a_Table.Rows),.slc (v2v (qap (v65 .i64)) a_Clusters),.slc (v2v (qap (v65 .i64)) a_Origins)]:=rfl
def qbe (x:Drossref55_Result):PV:=.agg [.int .i64 x.Value.Kind,.int .i64 x.Value.Num,.str x.Value.Str,.int .i64 x.Origin]
@[go_sem] theorem q34 (x:Drossref55_Result):PV.agg [.int .i64 x.Value.Kind,.int .i64 x.Value.Num,.str x.Value.Str,.int .i64 x.Origin]=qbe x:=rfl
@[go_sem] theorem q24 (x:Drossref55_Result):(qbe x).cells=[.int .i64 x.Value.Kind,.int .i64 x.Value.Num,.str x.Value.Str,.int .i64 x.Origin]:=rfl
@[go_sem] theorem q25 (x:Drossref55_Result):(qbe x).isAgg=true:=rfl
@[go_sem] theorem q26 (x:Drossref55_Result):(qbe x).isTup=false:=rfl
@[go_sem] theorem q35:qbe (Drossref55_Result.mk (Value.mk 0 0 []) 0)=.agg [.int .i64 0,.int .i64 0,.str [],.int .i64 0]:=rfl
@[go_sem] theorem q36 (x:Drossref55_Result):(qbe x).flat=true:=rfl
def qgm (x:Drossref55_Row):PV:=.agg [.int .i64 x.Row.ID,.slc (v2v qaj x.Row.Values),.slc (v2v (v65 .i64) x.Origins)]
@[go_sem] theorem q8d (x:Drossref55_Row):PV.agg [.int .i64 x.Row.ID,.slc (v2v qaj x.Row.Values),.slc (v2v (v65 .i64) x.Origins)]=qgm x:=rfl
@[go_sem] theorem q76 (x:Drossref55_Row):(qgm x).cells=[.int .i64 x.Row.ID,.slc (v2v qaj x.Row.Values),.slc (v2v (v65 .i64) x.Origins)]:=rfl
@[go_sem] theorem q77 (x:Drossref55_Row):(qgm x).isAgg=true:=rfl
@[go_sem] theorem q78 (x:Drossref55_Row):(qgm x).isTup=false:=rfl
@[simp] theorem vbg (a_Row:Row) (a_Origins:List Int):qgm ⟨a_Row,a_Origins⟩=.agg [.int .i64 a_Row.ID,.slc (v2v qaj a_Row.Values),.slc (v2v (v65 .i64) a_Origins)]:=rfl
theorem qpa (a b:Arr2_int):qqz prog 108 (qag a) (qag b)=some (decide (a=b)):=by
  obtain ⟨a0,a1⟩:=a;obtain ⟨b0,b1⟩:=b;simp only [qag,qqz,q4d,eqC,go_sem,seval,beq_self_eq_true,Bool.true_and,Bool.and_true,if_true,Option.bind_some,Option.isSome_some];congr 1;rw [Bool.eq_iff_iff];simp
@[go_sem] theorem qu4 {V:Type} (k:Arr2_int) (m:List (Arr2_int×V)) (g:V→PV):quv prog 108 (qag k) (qnk qag m) ((qn2 g m).map AV.p)=some ((qq7 m k).map fun v=>AV.p (g v)):=q9a _ _ _ qpa k m g
@[go_sem] theorem vbd {V:Type} (a0:Int) (a1:Int) (m:List (Arr2_int×V)) (g:V→PV):quv prog 108 (.agg [.int .i64 a0,.int .i64 a1]) (qnk qag m) ((qn2 g m).map AV.p)=some ((qq7 m (Arr2_int.mk a0 a1)).map fun v=>AV.p (g v)):=qu4 (Arr2_int.mk a0 a1) m g
@[go_sem] theorem qwl {V:Type} (k:Arr2_int) (m:List (Arr2_int×V)) (g:V→PV) (v:V):vbn prog 108 (qag k) (.p (g v)) (qnk qag m) ((qn2 g m).map AV.p)=some (qnk qag (qyo m k v),(qn2 g (qyo m k v)).map AV.p):=vdt _ _ _ qpa k m g v
@[go_sem] theorem vbh {V:Type} (a0:Int) (a1:Int) (m:List (Arr2_int×V)) (g:V→PV) (v:V):vbn prog 108 (.agg [.int .i64 a0,.int .i64 a1]) (.p (g v)) (qnk qag m) ((qn2 g m).map AV.p)=some (qnk qag (qyo m (Arr2_int.mk a0 a1) v),(qn2 g (qyo m (Arr2_int.mk a0 a1) v)).map AV.p):=qwl (Arr2_int.mk a0 a1) m g v
end Go.Proofs.YtmlegeeinnkhkaaGreat
namespace Go.Proofs
open Go Go.Ab Go.Shelf Tryz
variable {D:Prop}
def YtmlegeeinnkhkaaGreat.sort45_ren:Go.Shelf.Ren:=⟨fun | 5=>45 | 8=>86 | 7=>85 | 19=>147 | 20=>148 | 10=>138 | 11=>139 | 12=>140 | 13=>141 | 14=>142 | 15=>143 | 16=>144 | 17=>145 | 18=>146 | 30=>200 | 31=>201 | 32=>202 | 33=>203 | 34=>204 | 35=>205 | 40=>238 | n=>n,fun | 23=>23 | 25=>3 | 3=>3 | 32=>150 | 22=>23 | 0=>0 | 44=>207 | 46=>166 | 4=>4 | 36=>200 | 35=>199 | 41=>118 | 5=>5 | 9=>9 | 53=>253 | 57=>257 | 63=>285 | 64=>286 | n=>n,fun | n=>n⟩
theorem YtmlegeeinnkhkaaGreat.sort45:Go.Proofs.SlLaysM.n5 prog YtmlegeeinnkhkaaGreat.sort45_ren:={
  mixed:=by kernel_rfl
  f5:=⟨f45.name,by decide,func45.trans (congrArg some (by kernel_rfl))⟩
  f7:=⟨f85.name,by decide,func85.trans (congrArg some (by kernel_rfl))⟩
  f8:=func86.trans (congrArg some (by kernel_rfl))
  f10:=⟨f138.name,by decide,func138.trans (congrArg some (by kernel_rfl))⟩
  f11:=⟨f139.name,by decide,func139.trans (congrArg some (by kernel_rfl))⟩
  f12:=⟨f140.name,by decide,func140.trans (congrArg some (by kernel_rfl))⟩
  f13:=⟨f141.name,by decide,func141.trans (congrArg some (by kernel_rfl))⟩
  f14:=⟨f142.name,by decide,func142.trans (congrArg some (by kernel_rfl))⟩
  f15:=⟨f143.name,by decide,func143.trans (congrArg some (by kernel_rfl))⟩
  f16:=⟨f144.name,by decide,func144.trans (congrArg some (by kernel_rfl))⟩
  f17:=⟨f145.name,by decide,func145.trans (congrArg some (by kernel_rfl))⟩
  f18:=⟨f146.name,by decide,func146.trans (congrArg some (by kernel_rfl))⟩
  f19:=func147.trans (congrArg some (by kernel_rfl))
  f20:=func148.trans (congrArg some (by kernel_rfl))
  f30:=⟨f200.name,by decide,func200.trans (congrArg some (by kernel_rfl))⟩
  f31:=func201.trans (congrArg some (by kernel_rfl))
  f32:=func202.trans (congrArg some (by kernel_rfl))
  f33:=⟨f203.name,by decide,func203.trans (congrArg some (by kernel_rfl))⟩
  f34:=⟨f204.name,by decide,func204.trans (congrArg some (by kernel_rfl))⟩
  f35:=⟨f205.name,by decide,func205.trans (congrArg some (by kernel_rfl))⟩
  f40:=⟨f238.name,by decide,func238.trans (congrArg some (by kernel_rfl))⟩
  t0:=underlying0
  a0:=isAgg0
  z0:=sizeOf0
  v0:=zeroValue0
  t3:=underlying3
  a3:=isAgg3
  z3:=sizeOf3
  v3:=zeroValue3
  t4:=underlying4
  a4:=isAgg4
  z4:=sizeOf4
  v4:=zeroValue4
  t5:=underlying5
  a5:=isAgg5
  z5:=sizeOf5
  v5:=zeroValue5
  t9:=underlying9
  a9:=isAgg9
  z9:=sizeOf9
  v9:=zeroValue9
  t22:=underlying23
  a22:=isAgg23
  z22:=sizeOf23
  v22:=zeroValue23
  t23:=underlying23
  a23:=isAgg23
  z23:=sizeOf23
  v23:=zeroValue23
  t25:=underlying3
  a25:=isAgg3
  z25:=sizeOf3
  v25:=zeroValue3
  t32:=underlying150
  a32:=isAgg150
  z32:=sizeOf150
  v32:=zeroValue150
  t35:=underlying199
  a35:=isAgg199
  z35:=sizeOf199
  v35:=zeroValue199
  t36:=underlying200
  a36:=isAgg200
  z36:=sizeOf200
  v36:=zeroValue200
  t41:=underlying118
  a41:=isAgg118
  z41:=sizeOf118
  v41:=zeroValue118
  t44:=underlying207
  a44:=isAgg207
  z44:=sizeOf207
  v44:=zeroValue207
  t46:=underlying166
  a46:=isAgg166
  z46:=sizeOf166
  v46:=zeroValue166
  t53:=underlying253
  a53:=isAgg253
  z53:=sizeOf253
  v53:=zeroValue253
  t57:=underlying257
  a57:=isAgg257
  z57:=sizeOf257
  v57:=zeroValue257
  t63:=underlying285
  a63:=isAgg285
  z63:=sizeOf285
  v63:=zeroValue285
  t64:=underlying286
  a64:=isAgg286
  z64:=sizeOf286
  v64:=zeroValue286 }
def YtmlegeeinnkhkaaGreat.sort56_ren:Go.Shelf.Ren:=⟨fun | 6=>56 | 15=>86 | 14=>100 | 28=>147 | 29=>148 | 20=>163 | 21=>164 | 22=>165 | 23=>166 | 24=>167 | 25=>168 | 26=>169 | 27=>170 | 46=>212 | 47=>201 | 48=>202 | 49=>213 | 50=>214 | 57=>243 | n=>n,fun | 22=>52 | 24=>63 | 25=>116 | 3=>3 | 39=>150 | 0=>0 | 53=>207 | 55=>166 | 4=>4 | 46=>200 | 45=>199 | 50=>118 | 5=>5 | 9=>9 | 66=>253 | 70=>257 | 76=>285 | 77=>286 | n=>n,fun | n=>n⟩
theorem YtmlegeeinnkhkaaGreat.sort56:Go.Proofs.SlLaysF.n6 prog YtmlegeeinnkhkaaGreat.sort56_ren:={
  mixed:=by kernel_rfl
  f6:=⟨f56.name,by decide,func56.trans (congrArg some (by kernel_rfl))⟩
  f14:=⟨f100.name,by decide,func100.trans (congrArg some (by kernel_rfl))⟩
  f15:=func86.trans (congrArg some (by kernel_rfl))
  f20:=⟨f163.name,by decide,func163.trans (congrArg some (by kernel_rfl))⟩
  f21:=⟨f164.name,by decide,func164.trans (congrArg some (by kernel_rfl))⟩
  f22:=⟨f165.name,by decide,func165.trans (congrArg some (by kernel_rfl))⟩
  f23:=⟨f166.name,by decide,func166.trans (congrArg some (by kernel_rfl))⟩
  f24:=⟨f167.name,by decide,func167.trans (congrArg some (by kernel_rfl))⟩
  f25:=⟨f168.name,by decide,func168.trans (congrArg some (by kernel_rfl))⟩
  f26:=⟨f169.name,by decide,func169.trans (congrArg some (by kernel_rfl))⟩
  f27:=⟨f170.name,by decide,func170.trans (congrArg some (by kernel_rfl))⟩
  f28:=func147.trans (congrArg some (by kernel_rfl))
  f29:=func148.trans (congrArg some (by kernel_rfl))
  f46:=⟨f212.name,by decide,func212.trans (congrArg some (by kernel_rfl))⟩
  f47:=func201.trans (congrArg some (by kernel_rfl))
  f48:=func202.trans (congrArg some (by kernel_rfl))
  f49:=⟨f213.name,by decide,func213.trans (congrArg some (by kernel_rfl))⟩
  f50:=⟨f214.name,by decide,func214.trans (congrArg some (by kernel_rfl))⟩
  f57:=⟨f243.name,by decide,func243.trans (congrArg some (by kernel_rfl))⟩
  t0:=underlying0
  a0:=isAgg0
  z0:=sizeOf0
  v0:=zeroValue0
  t3:=underlying3
  a3:=isAgg3
  z3:=sizeOf3
  v3:=zeroValue3
  t4:=underlying4
  a4:=isAgg4
  z4:=sizeOf4
  v4:=zeroValue4
  t5:=underlying5
  a5:=isAgg5
  z5:=sizeOf5
  v5:=zeroValue5
  t9:=underlying9
  a9:=isAgg9
  z9:=sizeOf9
  v9:=zeroValue9
  t22:=underlying52
  a22:=isAgg52
  z22:=sizeOf52
  v22:=zeroValue52
  a24:=isAgg63
  z24:=sizeOf63
  t25:=underlying116
  a25:=isAgg116
  z25:=sizeOf116
  v25:=zeroValue116
  t39:=underlying150
  a39:=isAgg150
  z39:=sizeOf150
  v39:=zeroValue150
  t45:=underlying199
  a45:=isAgg199
  z45:=sizeOf199
  v45:=zeroValue199
  t46:=underlying200
  a46:=isAgg200
  z46:=sizeOf200
  v46:=zeroValue200
  t50:=underlying118
  a50:=isAgg118
  z50:=sizeOf118
  v50:=zeroValue118
  t53:=underlying207
  a53:=isAgg207
  z53:=sizeOf207
  v53:=zeroValue207
  t55:=underlying166
  a55:=isAgg166
  z55:=sizeOf166
  v55:=zeroValue166
  t66:=underlying253
  a66:=isAgg253
  z66:=sizeOf253
  v66:=zeroValue253
  t70:=underlying257
  a70:=isAgg257
  z70:=sizeOf257
  v70:=zeroValue257
  t76:=underlying285
  a76:=isAgg285
  z76:=sizeOf285
  v76:=zeroValue285
  t77:=underlying286
  a77:=isAgg286
  z77:=sizeOf286
  v77:=zeroValue286 }
def YtmlegeeinnkhkaaGreat.sort198_ren:Go.Shelf.Ren:=⟨fun | 6=>198 | 8=>86 | 9=>236 | 19=>147 | 20=>148 | 21=>253 | 22=>254 | 23=>255 | 24=>256 | 25=>257 | 26=>258 | 27=>259 | 28=>260 | 29=>261 | 36=>267 | 31=>201 | 32=>202 | 37=>268 | 38=>269 | 39=>270 | 41=>271 | n=>n,fun | 27=>38 | 29=>9 | 3=>3 | 32=>150 | 26=>38 | 0=>0 | 44=>207 | 46=>166 | 4=>4 | 36=>200 | 35=>199 | 41=>118 | 5=>5 | 9=>9 | 53=>253 | 57=>257 | 63=>285 | 64=>286 | n=>n,fun | n=>n⟩
theorem YtmlegeeinnkhkaaGreat.sort198:Go.Proofs.SlLaysM.n6 prog YtmlegeeinnkhkaaGreat.sort198_ren:={
  mixed:=by kernel_rfl
  f6:=⟨f198.name,by decide,func198.trans (congrArg some (by kernel_rfl))⟩
  f8:=func86.trans (congrArg some (by kernel_rfl))
  f9:=⟨f236.name,by decide,func236.trans (congrArg some (by kernel_rfl))⟩
  f19:=func147.trans (congrArg some (by kernel_rfl))
  f20:=func148.trans (congrArg some (by kernel_rfl))
  f21:=⟨f253.name,by decide,func253.trans (congrArg some (by kernel_rfl))⟩
  f22:=⟨f254.name,by decide,func254.trans (congrArg some (by kernel_rfl))⟩
  f23:=⟨f255.name,by decide,func255.trans (congrArg some (by kernel_rfl))⟩
  f24:=⟨f256.name,by decide,func256.trans (congrArg some (by kernel_rfl))⟩
  f25:=⟨f257.name,by decide,func257.trans (congrArg some (by kernel_rfl))⟩
  f26:=⟨f258.name,by decide,func258.trans (congrArg some (by kernel_rfl))⟩
  f27:=⟨f259.name,by decide,func259.trans (congrArg some (by kernel_rfl))⟩
  f28:=⟨f260.name,by decide,func260.trans (congrArg some (by kernel_rfl))⟩
  f29:=⟨f261.name,by decide,func261.trans (congrArg some (by kernel_rfl))⟩
  f31:=func201.trans (congrArg some (by kernel_rfl))
  f32:=func202.trans (congrArg some (by kernel_rfl))
  f36:=⟨f267.name,by decide,func267.trans (congrArg some (by kernel_rfl))⟩
  f37:=⟨f268.name,by decide,func268.trans (congrArg some (by kernel_rfl))⟩
  f38:=⟨f269.name,by decide,func269.trans (congrArg some (by kernel_rfl))⟩
  f39:=⟨f270.name,by decide,func270.trans (congrArg some (by kernel_rfl))⟩
  f41:=⟨f271.name,by decide,func271.trans (congrArg some (by kernel_rfl))⟩
  t0:=underlying0
  a0:=isAgg0
  z0:=sizeOf0
  v0:=zeroValue0
  t3:=underlying3
  a3:=isAgg3
  z3:=sizeOf3
  v3:=zeroValue3
  t4:=underlying4
  a4:=isAgg4
  z4:=sizeOf4
  v4:=zeroValue4
  t5:=underlying5
  a5:=isAgg5
  z5:=sizeOf5
  v5:=zeroValue5
  t9:=underlying9
  a9:=isAgg9
  z9:=sizeOf9
  v9:=zeroValue9
  t26:=underlying38
  a26:=isAgg38
  z26:=sizeOf38
  v26:=zeroValue38
  t27:=underlying38
  a27:=isAgg38
  z27:=sizeOf38
  v27:=zeroValue38
  t29:=underlying9
  a29:=isAgg9
  z29:=sizeOf9
  v29:=zeroValue9
  t32:=underlying150
  a32:=isAgg150
  z32:=sizeOf150
  v32:=zeroValue150
  t35:=underlying199
  a35:=isAgg199
  z35:=sizeOf199
  v35:=zeroValue199
  t36:=underlying200
  a36:=isAgg200
  z36:=sizeOf200
  v36:=zeroValue200
  t41:=underlying118
  a41:=isAgg118
  z41:=sizeOf118
  v41:=zeroValue118
  t44:=underlying207
  a44:=isAgg207
  z44:=sizeOf207
  v44:=zeroValue207
  t46:=underlying166
  a46:=isAgg166
  z46:=sizeOf166
  v46:=zeroValue166
  t53:=underlying253
  a53:=isAgg253
  z53:=sizeOf253
  v53:=zeroValue253
  t57:=underlying257
  a57:=isAgg257
  z57:=sizeOf257
  v57:=zeroValue257
  t63:=underlying285
  a63:=isAgg285
  z63:=sizeOf285
  v63:=zeroValue285
  t64:=underlying286
  a64:=isAgg286
  z64:=sizeOf286
  v64:=zeroValue286 }
theorem YtmlegeeinnkhkaaGreat.srt45:SrtI prog 45:=⟨call45,fun blk off cap zs w hH hb hs=>AnyM.slices_Sort_int YtmlegeeinnkhkaaGreat.sort45 blk off cap zs w hH hb hs,fun p cap w=>AnyM.slices_Sort_int_none YtmlegeeinnkhkaaGreat.sort45 p cap w⟩
theorem YtmlegeeinnkhkaaGreat.srt56:Srt1 prog 56:=⟨call56,fun enc h1 cf hO g cb blk off cap d w eg hc hH hb hs=>Any.slices_SortFunc_eq YtmlegeeinnkhkaaGreat.sort56 enc h1 cf hO g cb blk off cap d w eg hc hH hb hs,fun p cap fv w=>AnyF.slices_SortFunc_none { YtmlegeeinnkhkaaGreat.sort56 with } p cap fv w⟩
theorem YtmlegeeinnkhkaaGreat.srt198:SrtS prog 198:=⟨call198,fun blk off cap zs w hH hb hs=>AnyM.slices_Sort_string YtmlegeeinnkhkaaGreat.sort198 blk off cap zs w hH hb hs,fun p cap w=>AnyM.slices_Sort_string_none YtmlegeeinnkhkaaGreat.sort198 p cap w⟩
def YtmlegeeinnkhkaaGreat.compact46_ren:Go.Shelf.Ren:=⟨fun | 20=>46 | n=>n,fun | 0=>0 | 3=>3 | 4=>4 | 22=>23 | n=>n,fun | n=>n⟩
theorem YtmlegeeinnkhkaaGreat.compact46:Go.Proofs.Lays2.n20 prog YtmlegeeinnkhkaaGreat.compact46_ren:={
  mixed:=by kernel_rfl
  f20:=func46.trans (congrArg some (by kernel_rfl))
  t0:=underlying0
  a0:=isAgg0
  z0:=sizeOf0
  v0:=zeroValue0
  t3:=underlying3
  a3:=isAgg3
  z3:=sizeOf3
  v3:=zeroValue3
  t4:=underlying4
  a4:=isAgg4
  z4:=sizeOf4
  v4:=zeroValue4
  t22:=underlying23
  a22:=isAgg23
  z22:=sizeOf23
  v22:=zeroValue23
  i3:=by kernel_rfl }
theorem YtmlegeeinnkhkaaGreat.cpt46:CptI prog 46:=⟨call46,fun blk off cap zs w h1 h2 h3=>Any.slices_Compact_int YtmlegeeinnkhkaaGreat.compact46 blk off cap zs w h1 h2 h3,fun a cap w=>Any.slices_Compact_int_empty YtmlegeeinnkhkaaGreat.compact46 a cap w⟩
end Go.Proofs
namespace Go.Proofs.YtmlegeeinnkhkaaGreat
open Go Go.Ab Tryz
variable {D:Prop}
theorem qm0 (v1:Value) (r2:Bool) (h:qkj v1=some r2):Con D prog 80 [(qaj v1)] (.bool r2):=by
 refine zP call80 func80 rfl ntmps80 fun X w hT=>?_
 simp only [qkj] at h
 refine Mc ?_
 refine Te ?_
 refine M8 ?_
 obtain ⟨h3,h⟩|⟨h3,h⟩:=zI h
 refine Mt ?_
 obtain ⟨h4,h⟩|⟨h4,h⟩:=zI h
 replace h:=h.symm
 refine zw 10 true ?_
 refine M4 ?_
 exact Mg h results80
 refine zw 10 false ?_
 refine zh ?_
 exact Mg h results80
 refine T5 ?_
 refine M8 ?_
 obtain ⟨h5,h⟩|⟨h5,h⟩:=zI h
 refine Ma ?_
 exact T7 h results80
 refine T5 ?_
 refine M8 ?_
 obtain ⟨h6,h⟩|⟨h6,h⟩:=zI h
 refine Mt ?_
 obtain ⟨h7,h⟩|⟨h7,h⟩:=zI h
 replace h:=h.symm
 refine zw 25 true ?_
 refine M4 ?_
 refine zg ?_
 exact Mg h results80
 refine zw 25 false ?_
 refine zh ?_
 exact Mg h results80
 refine T5 ?_
 refine M8 ?_
 obtain ⟨h8,h⟩|⟨h8,h⟩:=zI h
 refine Mt ?_
 obtain ⟨h9,h⟩|⟨h9,h⟩:=zI h
 replace h:=h.symm
 refine zw 36 true ?_
 refine M4 ?_
 exact Mg h results80
 refine zw 36 false ?_
 refine zh ?_
 exact Mg h results80
 refine Tf ?_
 exact M3 h results80
theorem qu5 (c1:Similar) (r2:Bool) (h:qjr c1=some r2):Con D prog 81 [(qaq c1)] (.bool r2):=by
 refine zP call81 func81 rfl ntmps81 fun X w hT=>?_
 simp only [qjr] at h
 refine Mc ?_
 refine Te ?_
 refine M8 ?_
 obtain ⟨h3,h⟩|⟨h3,h⟩:=zI h
 refine Ma ?_
 exact T7 h results81
 refine zj<|zs<|zs<|zr ?_
 refine M8 ?_
 obtain ⟨h4,h⟩|⟨h4,h⟩:=zI h
 refine zi<|zk<|zn ?_
 refine Mt ?_
 obtain ⟨h5,h⟩|⟨h5,h⟩:=zI h
 replace h:=h.symm
 refine zw 16 true ?_
 refine M4 ?_
 exact Mg h results81
 refine zw 16 false ?_
 refine zh ?_
 exact Mg h results81
 refine zj<|zr ?_
 refine M8 ?_
 obtain ⟨h6,h⟩|⟨h6,h⟩:=zI h
 refine Mt ?_
 obtain ⟨h7,h⟩|⟨h7,h⟩:=zI h
 replace h:=h.symm
 refine zw 16 true ?_
 refine M4 ?_
 exact Mg h results81
 refine zw 16 false ?_
 refine zh ?_
 exact Mg h results81
 refine T5 ?_
 refine M8 ?_
 obtain ⟨h8,h⟩|⟨h8,h⟩:=zI h
 refine Mt ?_
 obtain ⟨h9,h⟩|⟨h9,h⟩:=zI h
 replace h:=h.symm
 refine zw 26 true ?_
 refine M4 ?_
 exact Mg h results81
 refine zw 26 false ?_
 refine zh ?_
 exact Mg h results81
 refine Tf ?_
 exact M3 h results81
theorem qpb (s1:List (List UInt8)) (f2:(List UInt8)→Option (Bool)) (f2_k:FuncId) (f2_cs:List PV) (f2_h:∀(y3:List UInt8) (r4:Bool),f2 y3=some r4→Con D prog f2_k ((.str y3) :: f2_cs) (.bool r4)) (r5:Int) (h:qcf s1 f2=some r5):Con D prog 230 [(.slc (v2v v67 s1)),.func (.func f2_k) f2_cs] (.int .i64 r5):=by
 refine zP call230 func230 rfl ntmps230 fun X w hT=>?_
 simp only [qcf] at h
 refine Ms ?_
 refine M5 ?_
 obtain ⟨o6,h7,h⟩:=zB h
 refine zO (fun (s:Int)=>⟨[(0,.p (.slc (v2v v67 s1))),(1,.p (.func (.func f2_k) f2_cs)),(7,.p (.int .i64 (s1.length:Int))),(8,.p (.int .i64 s))],[]⟩) (fun (o:(Unit) ⊕ (Int))=>match o with | .inl o8=>tE (cX Tryz.f230 X w D hT) (.exit 0) ⟨[],[]⟩ | .inr o9=>tR prog Tryz.f230 (.int .i64 o9)) h7 ?_ ?_
 clear h h7
 intro t10 x h
 simp only [qay] at h
 refine Ms ?_
 refine T4 ?_
 obtain ⟨h11,h⟩|⟨h11,h⟩:=zI h
 refine M9 ?_
 refine M6 ?_
 obtain ⟨x12,h13,h13a,h13b,h⟩:=zX h
 refine zU ?_
 obtain ⟨r14,h15,h⟩:=zB h
 refine zc (f2_h x12 _ h15) ?_
 refine Tp ?_
 obtain ⟨h16,h⟩|⟨h16,h⟩:=zI h
 refine Ma ?_
 cases h
 exact ⟨rfl,zT results230⟩
 refine Mj ?_
 exact M0 h
 exact M2 h
 rcases o6 with ⟨⟩ | r17
 try simp only at h
 refine Md ?_
 exact M3 h results230
 exact M7 h
theorem qns (s1:List (List UInt8)) (f2:(List UInt8)→Option (Bool)) (f2_k:FuncId) (f2_cs:List PV) (f2_h:∀(y3:List UInt8) (r4:Bool),f2 y3=some r4→Con D prog f2_k ((.str y3) :: f2_cs) (.bool r4)) (r5:Bool) (h:qco s1 f2=some r5):Con D prog 195 [(.slc (v2v v67 s1)),.func (.func f2_k) f2_cs] (.bool r5):=by
 refine zP call195 func195 rfl ntmps195 fun X w hT=>?_
 simp only [qco] at h
 refine Ms ?_
 refine M6 ?_
 refine zU ?_
 obtain ⟨r6,h7,h⟩:=zB h
 refine zc (qpb s1 f2 f2_k f2_cs f2_h _ h7) ?_
 exact M3 h results195
theorem qt3 (s1:List UInt8) (r2:Bool) (h:qde s1=some r2):Con D prog 196 [(.str s1)] (.bool r2):=by
 refine zP call196 func196 rfl ntmps196 fun X w hT=>?_
 simp only [qde] at h
 refine Ms ?_
 refine M6 ?_
 exact M3 h results196
theorem ql5 (l1:List (List UInt8)) (r2:Bool) (h:qdn l1=some r2):Con D prog 135 [(.slc (v2v v67 l1))] (.bool r2):=by
 refine zP call135 func135 rfl ntmps135 fun X w hT=>?_
 simp only [qdn] at h
 refine Ms ?_
 refine M6 ?_
 refine zU ?_
 obtain ⟨r3,h4,h⟩:=zB h
 refine zc (qns l1 (fun (y5:List UInt8)=>qde y5) 196 [] (fun y5 r h=>qt3 y5 r h) _ h4) ?_
 exact M3 h results135
theorem qrr (a1:List UInt8) (b2:List UInt8) (r3:List (List Int)) (h:qfv a1 b2=some r3):Con D prog 194 [(.str a1),(.str b2)] (.slc (v2v (qap (v65 .i64)) r3)):=by
 refine zP call194 func194 rfl ntmps194 fun X w hT=>?_
 simp only [qfv] at h
 refine Ms ?_
 refine M6 ?_
 obtain ⟨h4,h⟩:=qab h
 obtain ⟨h5,h⟩:=qab h
 refine zW 4 ?_
 refine zM ⟨[(0,.p (.str a1)),(1,.p (.str b2)),(12,.own 12 1 0 ((v01 (v4a.wrap ((a1.length:Int)+1)).toNat ([]:List Int))).length)],((12,.arr 23 1 1 (qkd 12 3 1 1 (v65 .i64) (v01 (v4a.wrap ((a1.length:Int)+1)).toNat ([]:List Int)))) :: qlc 12 3 1 1 (v65 .i64) (v01 (v4a.wrap ((a1.length:Int)+1)).toNat ([]:List Int)) [])⟩ ?_
 refine M5 ?_
 obtain ⟨d6,h7,h⟩:=zB h
 refine zO (fun (s:List (List Int)×Int)=>⟨[(0,.p (.str a1)),(1,.p (.str b2)),(5,.own 12 1 0 s.1.length),(14,.p (.int .i64 ((((v01 (v4a.wrap ((a1.length:Int)+1)).toNat ([]:List Int))).length:Nat):Int))),(15,.p (.int .i64 s.2))],((12,.arr 23 1 1 (qkd 12 3 1 1 (v65 .i64) s.1)) :: qlc 12 3 1 1 (v65 .i64) s.1 [])⟩) (fun (o8:List (List Int))=>tE (cX Tryz.f194 X w D hT) (.exit 0) ⟨[(0,.p (.str a1)),(1,.p (.str b2)),(5,.own 12 1 0 o8.length)],((12,.arr 23 1 1 (qkd 12 3 1 1 (v65 .i64) o8)) :: qlc 12 3 1 1 (v65 .i64) o8 [])⟩) h7 ?_ ?_
 clear h h4 h5 h7
 intro s x h
 obtain ⟨d9,t10⟩:=s
 simp only [qcg] at h
 refine Mb ?_
 obtain ⟨h11,h⟩|⟨h11,h⟩:=zI h
 refine M9 ?_
 refine Mx ?_
 obtain ⟨h12,h⟩:=qab h
 obtain ⟨h13,h⟩:=qab h
 obtain ⟨x14,h15,h15a,h15b,h⟩:=zX h
 refine zW 8 ?_
 refine zSw 23 (fx 12 t10.toNat) ?_
 refine zM ⟨[(0,.p (.str a1)),(1,.p (.str b2)),(5,.own 12 1 0 ((d9.set t10.toNat (v01 (v4a.wrap ((b2.length:Int)+1)).toNat 0))).length),(14,.p (.int .i64 ((((v01 (v4a.wrap ((a1.length:Int)+1)).toNat ([]:List Int))).length:Nat):Int))),(15,.p (.int .i64 t10))],((12,.arr 23 1 1 (qkd 12 3 1 1 (v65 .i64) (d9.set t10.toNat (v01 (v4a.wrap ((b2.length:Int)+1)).toNat 0)))) :: qlc 12 3 1 1 (v65 .i64) (d9.set t10.toNat (v01 (v4a.wrap ((b2.length:Int)+1)).toNat 0)) [])⟩ ?_
 refine T0 ?_
 exact M0 h
 exact M2 h
 try simp only at h
 refine T9 ?_
 refine Mq ?_
 obtain ⟨d16,h17,h⟩:=zB h
 refine zO (fun (s:List (List Int)×Int)=>⟨[(0,.p (.str a1)),(1,.p (.str b2)),(5,.own 12 1 0 s.1.length),(7,.p (.int .i64 s.2))],((12,.arr 23 1 1 (qkd 12 3 1 1 (v65 .i64) s.1)) :: qlc 12 3 1 1 (v65 .i64) s.1 [])⟩) (fun (o18:List (List Int))=>tE (cX Tryz.f194 X w D hT) (.exit 2) ⟨[(5,.own 12 1 0 o18.length)],((12,.arr 23 1 1 (qkd 12 3 1 1 (v65 .i64) o18)) :: qlc 12 3 1 1 (v65 .i64) o18 [])⟩) h17 ?_ ?_
 clear h h4 h5 h7 h17
 intro s x h
 obtain ⟨d19,i20⟩:=s
 simp only [qdo] at h
 refine Mi ?_
 refine M8 ?_
 obtain ⟨h21,h⟩|⟨h21,h⟩:=zI h
 refine M9 ?_
 refine Mq ?_
 obtain ⟨d22,h23,h⟩:=zB h
 refine zO (fun (s:List (List Int)×Int)=>⟨[(0,.p (.str a1)),(1,.p (.str b2)),(5,.own 12 1 0 s.1.length),(7,.p (.int .i64 i20)),(8,.p (.int .i64 s.2))],((12,.arr 23 1 1 (qkd 12 3 1 1 (v65 .i64) s.1)) :: qlc 12 3 1 1 (v65 .i64) s.1 [])⟩) (fun (o24:List (List Int))=>tE (cX Tryz.f194 X w D hT) (.exit 4) ⟨[(0,.p (.str a1)),(1,.p (.str b2)),(5,.own 12 1 0 o24.length),(7,.p (.int .i64 i20))],((12,.arr 23 1 1 (qkd 12 3 1 1 (v65 .i64) o24)) :: qlc 12 3 1 1 (v65 .i64) o24 [])⟩) h23 ?_ ?_
 clear h h21 h23
 intro s x h
 obtain ⟨d25,j26⟩:=s
 simp only [qbh] at h
 refine Mi ?_
 refine M8 ?_
 obtain ⟨h27,h⟩|⟨h27,h⟩:=zI h
 refine zi<|zk<|zn<|zs<|zb<|zb<|zs<|zr ?_
 refine M8 ?_
 obtain ⟨h28,h⟩|⟨h28,h⟩:=zI h
 refine Tc ?_
 obtain ⟨x29,h30,h30a,h30b,h⟩:=zX h
 obtain ⟨x31,h32,h32a,h32b,h⟩:=zX h
 refine zW 11 ?_
 refine zM ⟨[(0,.p (.str a1)),(1,.p (.str b2)),(5,.own 12 1 0 ((d25.set i20.toNat (x29.set j26.toNat (v4a.wrap ((b2.length:Int) - j26))))).length),(7,.p (.int .i64 i20)),(8,.p (.int .i64 j26))],((12,.arr 23 1 1 (qkd 12 3 1 1 (v65 .i64) (d25.set i20.toNat (x29.set j26.toNat (v4a.wrap ((b2.length:Int) - j26)))))) :: qlc 12 3 1 1 (v65 .i64) (d25.set i20.toNat (x29.set j26.toNat (v4a.wrap ((b2.length:Int) - j26)))) [])⟩ ?_
 refine zl<|yn<|yn<|zn<|zr ?_
 exact M0 h
 refine T5 ?_
 refine M8 ?_
 obtain ⟨h33,h⟩|⟨h33,h⟩:=zI h
 refine Tc ?_
 obtain ⟨x34,h35,h35a,h35b,h⟩:=zX h
 obtain ⟨x36,h37,h37a,h37b,h⟩:=zX h
 refine zW 11 ?_
 refine zM ⟨[(0,.p (.str a1)),(1,.p (.str b2)),(5,.own 12 1 0 ((d25.set i20.toNat (x34.set j26.toNat (v4a.wrap ((a1.length:Int) - i20))))).length),(7,.p (.int .i64 i20)),(8,.p (.int .i64 j26))],((12,.arr 23 1 1 (qkd 12 3 1 1 (v65 .i64) (d25.set i20.toNat (x34.set j26.toNat (v4a.wrap ((a1.length:Int) - i20)))))) :: qlc 12 3 1 1 (v65 .i64) (d25.set i20.toNat (x34.set j26.toNat (v4a.wrap ((a1.length:Int) - i20)))) [])⟩ ?_
 refine zl<|yn<|yn<|zn<|zr ?_
 exact M0 h
 refine zj<|zs<|zd ?_
 obtain ⟨c38,h39,h39a,h39b,h⟩:=zX h
 obtain ⟨c40,h41,h41a,h41b,h⟩:=zX h
 refine yU ?_
 refine ydS ?_
 refine zn ?_
 obtain ⟨h42,h⟩|⟨h42,h⟩:=zI h
 refine zi ?_
 refine zdl 14 ?_
 obtain ⟨x43,h44,h44a,h44b,h⟩:=zX h
 obtain ⟨x45,h46,h46a,h46b,h⟩:=zX h
 obtain ⟨x47,h48,h48a,h48b,h⟩:=zX h
 refine yU ?_
 refine ydlS ?_
 obtain ⟨x49,h50,h50a,h50b,h⟩:=zX h
 refine zW 2 ?_
 refine zM ⟨[(0,.p (.str a1)),(1,.p (.str b2)),(5,.own 12 1 0 ((d25.set i20.toNat (x43.set j26.toNat x47))).length),(7,.p (.int .i64 i20)),(8,.p (.int .i64 j26))],((12,.arr 23 1 1 (qkd 12 3 1 1 (v65 .i64) (d25.set i20.toNat (x43.set j26.toNat x47)))) :: qlc 12 3 1 1 (v65 .i64) (d25.set i20.toNat (x43.set j26.toNat x47)) [])⟩ ?_
 refine zl<|yn<|yn<|zn<|zr ?_
 exact M0 h
 refine zj ?_
 refine zdl 32 ?_
 obtain ⟨x51,h52,h52a,h52b,h⟩:=zX h
 obtain ⟨x53,h54,h54a,h54b,h⟩:=zX h
 obtain ⟨x55,h56,h56a,h56b,h⟩:=zX h
 obtain ⟨x57,h58,h58a,h58b,h⟩:=zX h
 obtain ⟨x59,h60,h60a,h60b,h⟩:=zX h
 refine yU ?_
 refine ydlS ?_
 obtain ⟨x61,h62,h62a,h62b,h⟩:=zX h
 refine zW 2 ?_
 refine zM ⟨[(0,.p (.str a1)),(1,.p (.str b2)),(5,.own 12 1 0 ((d25.set i20.toNat (x51.set j26.toNat (v4a.wrap (1+(if x59 < (if x57 < x55 then x57 else x55) then x59 else (if x57 < x55 then x57 else x55))))))).length),(7,.p (.int .i64 i20)),(8,.p (.int .i64 j26))],((12,.arr 23 1 1 (qkd 12 3 1 1 (v65 .i64) (d25.set i20.toNat (x51.set j26.toNat (v4a.wrap (1+(if x59 < (if x57 < x55 then x57 else x55) then x59 else (if x57 < x55 then x57 else x55)))))))) :: qlc 12 3 1 1 (v65 .i64) (d25.set i20.toNat (x51.set j26.toNat (v4a.wrap (1+(if x59 < (if x57 < x55 then x57 else x55) then x59 else (if x57 < x55 then x57 else x55)))))) [])⟩ ?_
 refine zl<|yn<|yn<|zn<|zr ?_
 exact M0 h
 exact M2 h
 try simp only at h
 refine T1 ?_
 exact M0 h
 exact M2 h
 try simp only at h
 refine Md ?_
 exact M3 h results194
theorem qso (a1:List UInt8) (b2:List UInt8) (r3:Int×Int) (h:qgn a1 b2=some r3):Con D prog 134 [(.str a1),(.str b2)] (.tup [(.int .i64 r3.1),(.int .i64 r3.2)]):=by
 refine zP call134 func134 rfl ntmps134 fun X w hT=>?_
 simp only [qgn] at h
 refine Mc ?_
 refine zU ?_
 obtain ⟨r4,h5,h⟩:=zB h
 refine zc (ql5 [a1,b2] _ h5) ?_
 refine Tp ?_
 obtain ⟨h6,h⟩|⟨h6,h⟩:=zI h
 exact M1 h results134
 refine Mf ?_
 refine zU ?_
 obtain ⟨r7,h8,h⟩:=zB h
 refine zc (qrr a1 b2 _ h8) ?_
 obtain ⟨x9,h10,h10l,h10L,h⟩:=zY 0 h
 obtain ⟨x11,h12,h12l,h12L,h⟩:=zY 0 h
 exact M3 h results134
theorem qt4 (a1:List UInt8) (b2:List UInt8) (m3:Int) (r4:Bool×Int) (h:qk3 a1 b2 m3=some r4):Con D prog 82 [(.str a1),(.str b2),(.int .i64 m3)] (.tup [(.bool r4.1),(.int .i64 r4.2)]):=by
 refine zP call82 func82 rfl ntmps82 fun X w hT=>?_
 simp only [qk3] at h
 refine Ms ?_
 refine M6 ?_
 refine zU ?_
 obtain ⟨r5,h6,h⟩:=zB h
 refine zc (qso a1 b2 _ h6) ?_
 refine M6 ?_
 refine zU ?_
 obtain ⟨h7,h⟩|⟨h7,h⟩:=zI h
 replace h:=h.symm
 refine zw 18 true ?_
 refine M4 ?_
 exact M3 h results82
 refine zw 18 false ?_
 refine zh ?_
 exact M3 h results82
theorem qyd (n1:Int) (r2:Int) (h:qra n1=some r2):Con D prog 106 [(.int .i64 n1)] (.int .u64 r2):=by
 refine zP call106 func106 rfl ntmps106 fun X w hT=>?_
 simp only [qra] at h
 refine Mc ?_
 refine M8 ?_
 obtain ⟨h3,h⟩|⟨h3,h⟩:=zI h
 exact M1 h results106
 refine Mf ?_
 exact M3 h results106
theorem q79 (a1:Int) (b2:Int) (r3:Int) (h:qtn a1 b2=some r3):Con D prog 107 [(.int .u64 a1),(.int .u64 b2)] (.int .u64 r3):=by
 refine zP call107 func107 rfl ntmps107 fun X w hT=>?_
 simp only [qtn] at h
 refine Ms ?_
 refine zU<|zl<|zn<|zs<|zb ?_
 obtain ⟨a4,h5,h⟩:=zB h
 refine zO (fun (s:Int×Int)=>⟨[(0,.p (.int .u64 s.1)),(1,.p (.int .u64 s.2))],[]⟩) (fun (o6:Int)=>tE (cX Tryz.f107 X w D hT) (.exit 0) ⟨[(0,.p (.int .u64 o6))],[]⟩) h5 ?_ ?_
 clear h h5
 intro s x h
 obtain ⟨a7,b8⟩:=s
 simp only [qnl] at h
 refine Mi ?_
 refine M8 ?_
 obtain ⟨h9,h⟩|⟨h9,h⟩:=zI h
 refine zi<|zk<|zn<|zb<|zd ?_
 obtain ⟨h10,h⟩:=qpy h
 refine yU ?_
 refine yd<|yn ?_
 exact Mv h
 exact M2 h
 try simp only at h
 refine Md ?_
 exact M3 h results107
theorem vbe (n1:Bool) (n2:Int) (d3:Int) (r4:Ratio×Int) (h:q0j n1 n2 d3=some r4):Con D prog 108 [(.bool n1),(.int .u64 n2),(.int .u64 d3)] (.tup [(qjl r4.1),(.int .i64 r4.2)]):=by
 refine zP call108 func108 rfl ntmps108 fun X w hT=>?_
 simp only [q0j] at h
 refine Mc ?_
 refine zU ?_
 obtain ⟨h5,h⟩|⟨h5,h⟩:=zI h
 refine zw 11 true ?_
 refine zh ?_
 refine M8 ?_
 exact M1 h results108
 refine zw 11 false ?_
 refine Mr ?_
 refine M8 ?_
 obtain ⟨h6,h⟩|⟨h6,h⟩:=zI h
 exact M1 h results108
 refine Mf ?_
 refine Mo ?_
 refine M8 ?_
 obtain ⟨h7,h⟩|⟨h7,h⟩:=zI h
 refine Tc ?_
 refine M6 ?_
 exact M3 h results108
 refine Mf ?_
 exact M3 h results108
theorem qvx (n1:Int) (d2:Int) (r3:Ratio×Int) (h:qmc n1 d2=some r3):Con D prog 69 [(.int .i64 n1),(.int .i64 d2)] (.tup [(qjl r3.1),(.int .i64 r3.2)]):=by
 refine zP call69 func69 rfl ntmps69 fun X w hT=>?_
 simp only [qmc] at h
 refine Mc ?_
 refine M8 ?_
 obtain ⟨h4,h⟩|⟨h4,h⟩:=zI h
 exact M1 h results69
 refine Mf ?_
 refine zU ?_
 obtain ⟨r5,h6,h⟩:=zB h
 refine zc (qyd n1 _ h6) ?_
 refine zU ?_
 obtain ⟨r7,h8,h⟩:=zB h
 refine zc (qyd d2 _ h8) ?_
 refine M6 ?_
 refine zU ?_
 obtain ⟨r9,h10,h⟩:=zB h
 refine zc (q79 r5 r7 _ h10) ?_
 refine Mz ?_
 obtain ⟨h11,h⟩:=qpy h
 refine yU ?_
 obtain ⟨r12,h13,h⟩:=zB h
 refine yc (vbe (!((decide (n1 < 0)) == (decide (d2 < 0)))) (IntKind.u64.wrap (Int.tdiv r5 r9)) (IntKind.u64.wrap (Int.tdiv r7 r9)) _ h13) ?_
 exact Mp h results69
end Go.Proofs.YtmlegeeinnkhkaaGreat
namespace Go.Proofs
open Go Go.Ab Go.Shelf Tryz
variable {D:Prop}
def YtmlegeeinnkhkaaGreat.rep197_ren:Go.Shelf.Ren:=⟨fun | 105=>197 | 212=>211 | 99=>231 | 165=>232 | 166=>233 | 170=>234 | 169=>235 | 263=>241 | 264=>242 | 206=>250 | 240=>251 | 241=>252 | 276=>265 | 277=>266 | n=>n,fun | 9=>9 | 3=>3 | 4=>4 | 20=>20 | 0=>0 | 46=>150 | 109=>262 | 5=>5 | 72=>276 | 76=>280 | 51=>207 | 146=>290 | 53=>166 | 148=>292 | 70=>274 | 37=>35 | 75=>279 | 127=>299 | 164=>307 | 80=>283 | n=>n,fun | n=>n⟩
theorem YtmlegeeinnkhkaaGreat.rep197:Go.Proofs.Lays.n105 prog YtmlegeeinnkhkaaGreat.rep197_ren:={
  mixed:=by kernel_rfl
  f99:=func231.trans (congrArg some (by kernel_rfl))
  f105:=func197.trans (congrArg some (by kernel_rfl))
  f165:=func232.trans (congrArg some (by kernel_rfl))
  f166:=func233.trans (congrArg some (by kernel_rfl))
  f169:=func235.trans (congrArg some (by kernel_rfl))
  f170:=func234.trans (congrArg some (by kernel_rfl))
  f206:=func250.trans (congrArg some (by kernel_rfl))
  f212:=func211.trans (congrArg some (by kernel_rfl))
  f240:=func251.trans (congrArg some (by kernel_rfl))
  f241:=func252.trans (congrArg some (by kernel_rfl))
  f263:=func241.trans (congrArg some (by kernel_rfl))
  f264:=func242.trans (congrArg some (by kernel_rfl))
  f276:=func265.trans (congrArg some (by kernel_rfl))
  f277:=func266.trans (congrArg some (by kernel_rfl))
  t0:=underlying0
  a0:=isAgg0
  z0:=sizeOf0
  v0:=zeroValue0
  t3:=underlying3
  a3:=isAgg3
  z3:=sizeOf3
  v3:=zeroValue3
  t4:=underlying4
  a4:=isAgg4
  z4:=sizeOf4
  v4:=zeroValue4
  t5:=underlying5
  a5:=isAgg5
  z5:=sizeOf5
  v5:=zeroValue5
  t9:=underlying9
  a9:=isAgg9
  z9:=sizeOf9
  v9:=zeroValue9
  t20:=underlying20
  a20:=isAgg20
  z20:=sizeOf20
  v20:=zeroValue20
  t37:=underlying35
  a37:=isAgg35
  z37:=sizeOf35
  v37:=zeroValue35
  t46:=underlying150
  a46:=isAgg150
  z46:=sizeOf150
  v46:=zeroValue150
  t51:=underlying207
  a51:=isAgg207
  z51:=sizeOf207
  v51:=zeroValue207
  t53:=underlying166
  a53:=isAgg166
  z53:=sizeOf166
  v53:=zeroValue166
  t70:=underlying274
  a70:=isAgg274
  z70:=sizeOf274
  v70:=zeroValue274
  t72:=underlying276
  a72:=isAgg276
  z72:=sizeOf276
  v72:=zeroValue276
  t75:=underlying279
  a75:=isAgg279
  z75:=sizeOf279
  v75:=zeroValue279
  t76:=underlying280
  a76:=isAgg280
  z76:=sizeOf280
  v76:=zeroValue280
  t109:=underlying262
  a109:=isAgg262
  z109:=sizeOf262
  v109:=zeroValue262
  t127:=underlying299
  a127:=isAgg299
  z127:=sizeOf299
  v127:=zeroValue299
  t146:=underlying290
  a146:=isAgg290
  z146:=sizeOf290
  v146:=zeroValue290
  t148:=underlying292
  a148:=isAgg292
  z148:=sizeOf292
  v148:=zeroValue292
  t164:=underlying307
  a164:=isAgg307
  z164:=sizeOf307
  v164:=zeroValue307 }
theorem YtmlegeeinnkhkaaGreat.repX:Builder.Extra prog YtmlegeeinnkhkaaGreat.rep197_ren where
  sizeBuilder:=by kernel_rfl
  liesBuilder:=by kernel_rfl
  t5:=YtmlegeeinnkhkaaGreat.rep197.t5
  a5:=YtmlegeeinnkhkaaGreat.rep197.a5
  z5:=YtmlegeeinnkhkaaGreat.rep197.z5
  v5:=YtmlegeeinnkhkaaGreat.rep197.v5
  infoByte:=by kernel_rfl
  cellsByte:=by kernel_rfl
  sizeByte:=by kernel_rfl
  neB5:=by decide
theorem YtmlegeeinnkhkaaGreat.repeat197 (s:ByteArray) (c:Nat) (w:World) (hc:c≤9223372036854775807) (hl:s.size * c≤140737488355328):Calls prog 197 #[.string s,.int .i64 c] w fun e w'=>e=.returned (.string ⟨(Lib.repeatL s.data.toList c).toArray⟩)∧RowKit.Below w.heap.size w w' :=
  Any.strings_Repeat YtmlegeeinnkhkaaGreat.rep197 YtmlegeeinnkhkaaGreat.repX s c w hc hl
end Go.Proofs
namespace Go.Proofs.YtmlegeeinnkhkaaGreat
open Go Go.Ab Tryz
variable {D:Prop}
theorem qye (x:List UInt8) (n:Int) (r:List UInt8) (h:strings_Repeat x n=some r):Con False prog 197 [(.str x),(.int .i64 n)] (.str r):=vf9 call197 repeat197 x n r h
theorem qn7 (s1:List UInt8) (q2:Int) (r3:List (List UInt8)×Int) (h:qd3 s1 q2=some r3):Con False prog 136 [(.str s1),(.int .i64 q2)] (.tup [(.slc (v2v v67 r3.1)),(.int .i64 r3.2)]):=by
 refine zP call136 func136 rfl ntmps136 fun X w hT=>?_
 simp only [qd3] at h
 refine Mc ?_
 refine zU ?_
 obtain ⟨r4,h5,h⟩:=zB h
 refine zc (ql5 [s1] _ h5) ?_
 refine Tp ?_
 obtain ⟨h6,h⟩|⟨h6,h⟩:=zI h
 exact M1 h results136
 refine Mm ?_
 refine zU ?_
 obtain ⟨h7,h⟩|⟨h7,h⟩:=zI h
 refine zw 15 true ?_
 refine zh ?_
 refine M8 ?_
 exact M1 h results136
 refine zw 15 false ?_
 refine Mr ?_
 refine M8 ?_
 obtain ⟨h8,h⟩|⟨h8,h⟩:=zI h
 exact M1 h results136
 refine Mf ?_
 refine zU ?_
 obtain ⟨r9,h10,h⟩:=zB h
 refine zc (qye [1] (v4a.wrap (q2 - 1)) _ h10) ?_
 refine M6 ?_
 obtain ⟨h11,h⟩:=qab h
 obtain ⟨w12,h13,h⟩:=zB h
 replace h13:=v3q h13
 obtain ⟨h14,h⟩:=qab h
 obtain ⟨w15,h16,h⟩:=zB h
 replace h16:=v3q h16
 refine M6 ?_
 refine M5 ?_
 obtain ⟨o17,h18,h⟩:=zB h
 refine zO (fun (s:List (List UInt8)×Int)=>⟨[(1,.p (.int .i64 q2)),(7,.p (.str w15)),(8,.own 43 1 0 s.1.length),(31,.p (.int .i64 (v4a.wrap ((v4a.wrap ((s1.length:Int)+q2)) - 1)))),(32,.p (.int .i64 s.2))],[(43,.arr 9 1 1 (v2v AV.p (v2v v67 s.1)))]⟩) (fun (o19:List (List UInt8))=>tE (cX Tryz.f136 X w False hT) (.exit 0) ⟨[(8,.own 43 1 0 o19.length)],[(43,.arr 9 1 1 (v2v AV.p (v2v v67 o19)))]⟩) h18 ?_ ?_
 clear h h5 h6 h7 h8 h10 h11 h13 h14 h16 h18
 intro s x h
 obtain ⟨o20,t21⟩:=s
 simp only [qgo] at h
 refine Mb ?_
 obtain ⟨h22,h⟩|⟨h22,h⟩:=zI h
 refine M9 ?_
 refine Mx ?_
 obtain ⟨h23,h⟩:=qab h
 obtain ⟨h24,h⟩:=qab h
 obtain ⟨h25,h⟩:=qab h
 obtain ⟨h26,h⟩:=qab h
 refine Mh ?_
 exact M0 h
 exact M2 h
 try simp only at h
 refine Md ?_
 refine zU ?_
 refine zM ⟨[(8,.own 43 1 0 o17.length),(45,.own 43 1 0 o17.length)],[(43,.arr 9 1 1 (v2v AV.p (v2v v67 o17)))]⟩ ?_
 obtain ⟨l27,h28,h⟩:=zB h
 refine zSS srt198 h28 ?_
 have h29:=vi8 h28
 refine zM ⟨[(8,.own 43 1 0 l27.length),(46,.p (.tup []))],[(43,.arr 9 1 1 (v2v AV.p (v2v v67 l27)))]⟩ ?_
 clear h29
 refine zl<|zn<|zs<|zr ?_
 exact M3 h results136
theorem vy8 (a b:List UInt8) (w:World):(callFunc 262 #[.string ⟨a.toArray⟩,.string ⟨b.toArray⟩]).run prog w=.ok (.value (.int .i64 (Lib.compareBytes a b))) w:=by
  rw [run_callFunc_extern func262 (by kernel_rfl) (by kernel_rfl) (by kernel_rfl) (e:=Extern.BytealgCompare.compare) (by kernel_rfl),Lib.run_compareString];rfl
theorem vqi (x y c:Nat) (hc:c≤1) (w:World):(callFunc 248 #[.int .u64 x,.int .u64 y,.int .u64 c]).run prog w=.ok (.value (.tuple #[.int .u64 (((x+y+c) % 18446744073709551616:Nat):Int),.int .u64 (((x+y+c) / 18446744073709551616:Nat):Int)])) w:=by
  rw [run_callFunc_extern func248 (by kernel_rfl) (by kernel_rfl) (by kernel_rfl) (e:=add64Entry) (by kernel_rfl),run_add64 x y c (by omega) (by omega) (by omega) (by omega)];simp only [Result.andThen];congr 5 <;> omega
theorem vqj (x y b:Nat) (hb:b≤1) (w:World):(callFunc 249 #[.int .u64 x,.int .u64 y,.int .u64 b]).run prog w=.ok (.value (.tuple #[.int .u64 (((x+18446744073709551616 - y - b) % 18446744073709551616:Nat):Int),.int .u64 ((if x < y+b then 1 else 0:Nat):Int)])) w:=by
  rw [run_callFunc_extern func249 (by kernel_rfl) (by kernel_rfl) (by kernel_rfl) (e:=sub64Entry) (by kernel_rfl),run_sub64 x y b hb];rfl
theorem qqs (a1:List UInt8) (b2:List UInt8) (r3:Int) (h:qhu a1 b2=some r3):Con D prog 237 [(.str a1),(.str b2)] (.int .i64 r3):=by
 refine zP call237 func237 rfl ntmps237 fun X w hT=>?_
 simp only [qhu] at h
 refine Ms ?_
 refine M6 ?_
 refine zU ?_
 refine vru (vy8 a1 b2) (by simp only [go_sem,seval];all_goals ((repeat' refine v62 ?_ ?_) <;> first | rfl | (simp;done) | (simp;rfl) | (simp [*];done) | (simp [*];rfl))) (by simp only [go_sem,seval];all_goals ((repeat' refine v62 ?_ ?_) <;> first | rfl | (simp;done) | (simp;rfl) | (simp [*];done) | (simp [*];rfl))) rfl ?_
 exact M3 h results237
theorem qpc (a1:List UInt8) (b2:List UInt8) (r3:Int) (h:qim a1 b2=some r3):Con D prog 199 [(.str a1),(.str b2)] (.int .i64 r3):=by
 refine zP call199 func199 rfl ntmps199 fun X w hT=>?_
 simp only [qim] at h
 refine Ms ?_
 refine M6 ?_
 refine zU ?_
 obtain ⟨r4,h5,h⟩:=zB h
 refine zc (qqs a1 b2 _ h5) ?_
 exact M3 h results199
theorem qt5 (a1:List (List UInt8)) (b2:List (List UInt8)) (r3:Int) (h:qin a1 b2=some r3):Con D prog 137 [(.slc (v2v v67 a1)),(.slc (v2v v67 b2))] (.int .i64 r3):=by
 refine zP call137 func137 rfl ntmps137 fun X w hT=>?_
 simp only [qin] at h
 refine Ms ?_
 refine M6 ?_
 refine zU<|zl<|zn<|zs<|zb ?_
 obtain ⟨n4,h5,h⟩:=zB h
 refine zO (fun (s:List (List UInt8)×List (List UInt8)×Int)=>⟨[(0,.p (.slc (v2v v67 s.1))),(1,.p (.slc (v2v v67 s.2.1))),(5,.p (.int .i64 s.2.2))],[]⟩) (fun (o6:Int)=>tE (cX Tryz.f137 X w D hT) (.exit 0) ⟨[(5,.p (.int .i64 o6))],[]⟩) h5 ?_ ?_
 clear h h5
 intro s x h
 obtain ⟨a7,b8,n9⟩:=s
 simp only [qcq] at h
 refine Mi ?_
 refine zU ?_
 obtain ⟨h10,h⟩|⟨h10,h⟩:=zI h
 refine zw 10 true ?_
 refine M4 ?_
 refine M8 ?_
 obtain ⟨h11,h⟩|⟨h11,h⟩:=zI h
 refine zi<|zk<|zn<|zb<|zs<|zd ?_
 obtain ⟨x12,h13,h13l,h13L,h⟩:=zY 0 h
 obtain ⟨x14,h15,h15l,h15L,h⟩:=zY 0 h
 refine yU ?_
 obtain ⟨r16,h17,h⟩:=zB h
 refine yc (qpc x12 x14 _ h17) ?_
 refine yU ?_
 refine yd<|zn<|zb<|zs<|zr ?_
 refine M8 ?_
 obtain ⟨h18,h⟩|⟨h18,h⟩:=zI h
 refine Tc ?_
 obtain ⟨h19,h⟩:=qab h
 refine zU<|zl<|yn<|yn ?_
 exact Mv h
 refine T5 ?_
 refine M8 ?_
 obtain ⟨h20,h⟩|⟨h20,h⟩:=zI h
 refine Tc ?_
 obtain ⟨h21,h⟩:=qab h
 refine zU<|zl<|yn<|yn ?_
 exact Mv h
 refine zj<|zs<|zd ?_
 obtain ⟨h22,h⟩:=qab h
 obtain ⟨h23,h⟩:=qab h
 refine yU ?_
 refine yd<|zn<|zr ?_
 refine zU<|zl<|yn<|yn ?_
 exact Mv h
 exact M2 h
 refine zw 10 false ?_
 refine zh ?_
 refine M8 ?_
 exact M2 h
 try simp only at h
 refine Md ?_
 exact M3 h results137
theorem qt6 (a1:List UInt8) (b2:List UInt8) (q3:Int) (r4:Ratio×Int) (h:qio a1 b2 q3=some r4):Con False prog 83 [(.str a1),(.str b2),(.int .i64 q3)] (.tup [(qjl r4.1),(.int .i64 r4.2)]):=by
 refine zP call83 func83 rfl ntmps83 fun X w hT=>?_
 simp only [qio] at h
 refine Mc ?_
 refine zU ?_
 obtain ⟨r5,h6,h⟩:=zB h
 refine zc (ql5 [a1,b2] _ h6) ?_
 refine Tp ?_
 obtain ⟨h7,h⟩|⟨h7,h⟩:=zI h
 exact M1 h results83
 refine Mf ?_
 refine zU ?_
 obtain ⟨r8,h9,h⟩:=zB h
 refine zc (qn7 a1 q3 _ h9) ?_
 refine M6 ?_
 refine zU ?_
 obtain ⟨r10,h11,h⟩:=zB h
 refine zc (qn7 b2 q3 _ h11) ?_
 refine Mo ?_
 refine M8 ?_
 obtain ⟨h12,h⟩|⟨h12,h⟩:=zI h
 exact M1 h results83
 refine Mm ?_
 refine M8 ?_
 obtain ⟨h13,h⟩|⟨h13,h⟩:=zI h
 exact M1 h results83
 refine Mf ?_
 refine zU ?_
 obtain ⟨r14,h15,h⟩:=zB h
 refine zc (qt5 r8.1 r10.1 _ h15) ?_
 refine zU ?_
 obtain ⟨r16,h17,h⟩:=zB h
 refine zc (qvx (v4a.wrap (2 * r14)) (v4a.wrap ((r8.1.length:Int)+(r10.1.length:Int))) _ h17) ?_
 exact M3 h results83
theorem qn8 (x1:Row) (y2:Row) (c3:Similar) (r4:Bool×Int) (h:qcd x1 y2 c3=some r4):Con False prog 41 [(qao x1),(qao y2),(qaq c3)] (.tup [(.bool r4.1),(.int .i64 r4.2)]):=by
 refine zP call41 func41 rfl ntmps41 fun X w hT=>?_
 simp only [qcd] at h
 refine Mc ?_
 refine zU ?_
 obtain ⟨h5,h⟩|⟨h5,h⟩:=zI h
 refine zw 18 true ?_
 refine Mn ?_
 refine M8 ?_
 exact M1 h results41
 refine zw 18 false ?_
 refine M4 ?_
 refine M4 ?_
 refine zU ?_
 obtain ⟨h6,h⟩|⟨h6,h⟩:=zI h
 refine zw 26 true ?_
 refine zh ?_
 refine M8 ?_
 exact M1 h results41
 refine zw 26 false ?_
 refine M4 ?_
 refine M4 ?_
 refine M8 ?_
 obtain ⟨h7,h⟩|⟨h7,h⟩:=zI h
 exact M1 h results41
 refine zj<|zk<|zn<|zs<|zd ?_
 obtain ⟨x8,h9,h9a,h9b,h⟩:=zX h
 obtain ⟨x10,h11,h11a,h11b,h⟩:=zX h
 refine Ta ?_
 refine zU ?_
 obtain ⟨r12,h13,h⟩:=zB h
 refine zc (qm0 x8 _ h13) ?_
 refine zU ?_
 obtain ⟨h14,h⟩|⟨h14,h⟩:=zI h
 refine zw 49 false ?_
 refine zg ?_
 obtain ⟨r15,h16,h⟩:=zB h
 refine zc (qm0 x10 _ h16) ?_
 refine zg ?_
 refine zU ?_
 obtain ⟨h17,h⟩|⟨h17,h⟩:=zI h
 refine zw 54 false ?_
 refine zg ?_
 obtain ⟨r18,h19,h⟩:=zB h
 refine zc (qu5 c3 _ h19) ?_
 refine zg ?_
 refine M8 ?_
 obtain ⟨h20,h⟩|⟨h20,h⟩:=zI h
 refine zj<|zk<|zn<|zs ?_
 obtain ⟨t21,h22,h⟩:=zB h
 refine zJ (fun (o23:Bool)=>tE (cX Tryz.f41 X w False hT) .normal ⟨[(5,.loc 5 1 0 0),(8,.loc 8 1 0 0),(9,.loc 9 1 0 0),(66,.p (.bool o23))],[(5,.arr 95 3 1 [.p (qaq c3)]),(8,.arr 142 3 1 [.p (qaj x8)]),(9,.arr 142 3 1 [.p (qaj x10)])]⟩) t21 ?_ ?_
 replace h:=h22
 clear h22
 refine T6 ?_
 obtain ⟨h24,h⟩|⟨h24,h⟩:=zI h
 refine zw 62 true ?_
 refine zh ?_
 exact M0 h
 replace h:=h.symm
 refine zw 62 false ?_
 refine M4 ?_
 exact M0 h
 try simp only at h
 refine zA<|zn ?_
 obtain ⟨h25,h⟩|⟨h25,h⟩:=zI h
 exact M1 h results41
 refine zj<|zk<|zn<|zs<|zd ?_
 refine Ta ?_
 refine Te ?_
 refine M8 ?_
 obtain ⟨h26,h⟩|⟨h26,h⟩:=zI h
 refine Mt ?_
 obtain ⟨r27,h28,h⟩:=zB h
 refine zc (qt4 x8.Str x10.Str c3.Limit _ h28) ?_
 exact Mg h results41
 refine T5 ?_
 refine M8 ?_
 obtain ⟨h29,h⟩|⟨h29,h⟩:=zI h
 refine Mt ?_
 obtain ⟨r30,h31,h⟩:=zB h
 refine zc (qt6 x8.Str x10.Str 2 _ h31) ?_
 refine M6 ?_
 refine zU ?_
 obtain ⟨h32,h⟩|⟨h32,h⟩:=zI h
 replace h:=h.symm
 refine zw 95 true ?_
 iterate 3 refine M4 ?_
 exact Mg h results41
 refine zw 95 false ?_
 refine zh ?_
 exact Mg h results41
 refine T5 ?_
 refine M8 ?_
 obtain ⟨h33,h⟩|⟨h33,h⟩:=zI h
 refine Tl ?_
 refine Mz ?_
 obtain ⟨h34,h⟩:=qab h
 obtain ⟨h35,h⟩:=qab h
 obtain ⟨h36,h⟩:=qab h
 obtain ⟨h37,h⟩:=qab h
 refine To ?_
 exact T7 h results41
 refine Tf ?_
 exact M3 h results41
 exact M1 h results41
 refine zw 54 true ?_
 refine zh ?_
 refine M8 ?_
 exact M1 h results41
 refine zw 49 true ?_
 refine Mn ?_
 refine M8 ?_
 exact M1 h results41
theorem qrs (s1:List Int) (f2:Int→Option (Bool)) (f2_k:FuncId) (f2_cs:List PV) (f2_h:∀(y3:Int) (r4:Bool),f2 y3=some r4→Con D prog f2_k ((.int .i64 y3) :: f2_cs) (.bool r4)) (r5:Int) (h:qcr s1 f2=some r5):Con D prog 84 [(.slc (v2v (v65 .i64) s1)),.func (.func f2_k) f2_cs] (.int .i64 r5):=by
 refine zP call84 func84 rfl ntmps84 fun X w hT=>?_
 simp only [qcr] at h
 refine Ms ?_
 refine M5 ?_
 obtain ⟨o6,h7,h⟩:=zB h
 refine zO (fun (s:Int)=>⟨[(0,.p (.slc (v2v (v65 .i64) s1))),(1,.p (.func (.func f2_k) f2_cs)),(7,.p (.int .i64 (s1.length:Int))),(8,.p (.int .i64 s))],[]⟩) (fun (o:(Unit) ⊕ (Int))=>match o with | .inl o8=>tE (cX Tryz.f84 X w D hT) (.exit 0) ⟨[],[]⟩ | .inr o9=>tR prog Tryz.f84 (.int .i64 o9)) h7 ?_ ?_
 clear h h7
 intro t10 x h
 simp only [qa6] at h
 refine Ms ?_
 refine T4 ?_
 obtain ⟨h11,h⟩|⟨h11,h⟩:=zI h
 refine M9 ?_
 refine M6 ?_
 obtain ⟨x12,h13,h13a,h13b,h⟩:=zX h
 refine zU ?_
 obtain ⟨r14,h15,h⟩:=zB h
 refine zc (f2_h x12 _ h15) ?_
 refine Tp ?_
 obtain ⟨h16,h⟩|⟨h16,h⟩:=zI h
 refine Ma ?_
 cases h
 exact ⟨rfl,zT results84⟩
 refine Mj ?_
 exact M0 h
 exact M2 h
 rcases o6 with ⟨⟩ | r17
 try simp only at h
 refine Md ?_
 exact M3 h results84
 exact M7 h
theorem qcc (s1:List Int) (f2:Int→Option (Bool)) (f2_k:FuncId) (f2_cs:List PV) (f2_h:∀(y3:Int) (r4:Bool),f2 y3=some r4→Con D prog f2_k ((.int .i64 y3) :: f2_cs) (.bool r4)) (r5:Bool) (h:qar s1 f2=some r5):Con D prog 42 [(.slc (v2v (v65 .i64) s1)),.func (.func f2_k) f2_cs] (.bool r5):=by
 refine zP call42 func42 rfl ntmps42 fun X w hT=>?_
 simp only [qar] at h
 refine Ms ?_
 refine M6 ?_
 refine zU ?_
 obtain ⟨r6,h7,h⟩:=zB h
 refine zc (qrs s1 f2 f2_k f2_cs f2_h _ h7) ?_
 exact M3 h results42
theorem qwm (a1:Int) (c2:Int) (r3:Bool) (h:qip a1 c2=some r3):Con D prog 43 [(.int .i64 a1),.imm [.int .i64 c2]] (.bool r3):=by
 refine zP call43 func43 rfl ntmps43 fun X w hT=>?_
 simp only [qip] at h
 refine Ms ?_
 refine M6 ?_
 refine zU ?_
 obtain ⟨h4,h⟩|⟨h4,h⟩:=zI h
 refine zw 6 true ?_
 refine zh ?_
 exact M3 h results43
 replace h:=h.symm
 refine zw 6 false ?_
 refine M4 ?_
 exact M3 h results43
theorem qwn (s1:Int) (r2:Bool) (h:qiq s1=some r2):Con D prog 47 [(.int .i64 s1)] (.bool r2):=by
 refine zP call47 func47 rfl ntmps47 fun X w hT=>?_
 simp only [qiq] at h
 refine Ms ?_
 refine M6 ?_
 refine zU ?_
 obtain ⟨h3,h⟩|⟨h3,h⟩:=zI h
 refine zw 5 true ?_
 refine zh ?_
 exact M3 h results47
 replace h:=h.symm
 refine zw 5 false ?_
 refine Mr ?_
 exact M3 h results47
theorem qze (n1:Int) (l2:Linkage) (r3:Int) (h:qhv n1 l2=some r3):Con False prog 14 [(.int .i64 n1),(qak l2)] (.int .i64 r3):=by
 refine zP call14 func14 rfl ntmps14 fun X w hT=>?_
 simp only [qhv] at h
 refine Mc ?_
 refine zU ?_
 obtain ⟨h4,h⟩|⟨h4,h⟩:=zI h
 have h4T:=eq_true h4
 refine zw 15 true ?_
 refine zh ?_
 refine M8 ?_
 exact M1 h results14
 have h4T:=eq_false h4
 refine zw 15 false ?_
 refine Mr ?_
 refine M8 ?_
 obtain ⟨h5,h⟩|⟨h5,h⟩:=zI h
 have h5T:=eq_true h5
 exact M1 h results14
 have h5T:=eq_false h5
 refine Mm ?_
 refine M8 ?_
 obtain ⟨h6,h⟩|⟨h6,h⟩:=zI h
 have h6T:=eq_true h6
 exact M1 h results14
 have h6T:=eq_false h6
 refine Mf ?_
 obtain ⟨h7,h⟩:=qab h
 obtain ⟨h8,h⟩:=qab h
 refine zU<|zl<|zn<|zs<|zs ?_
 obtain ⟨l9,h10,h⟩:=zB h
 replace h10:=v3q h10
 refine qq6 (st':=⟨[(2,.loc 2 1 0 0),(3,.loc 3 1 0 0),(5,.loc 5 1 0 0)],[(2,.arr 3 1 1 [.p (.int .i64 n1)]),(3,.arr 25 3 1 [.p (qak l2)]),(5,.arr 66 2 1 [.agg [.p (.int .i64 0),.own 24 1 0 l9.length]]),(24,.arr 142 3 1 (v2v AV.p (v2v qaj l9)))]⟩) (by simp only [go_sem,seval,h4T,h5T,h6T,←h10];all_goals ((repeat' refine v62 ?_ ?_) <;> first | rfl | (simp;done) | (simp;rfl) | (simp [*];done) | (simp [*];rfl))) ?_
 clear h10
 refine zr ?_
 refine Mq ?_
 obtain ⟨o11,h12,h⟩:=zB h
 refine zO (fun (s:Int)=>⟨[(2,.loc 2 1 0 0),(3,.loc 3 1 0 0),(5,.loc 5 1 0 0),(27,.p (.slc (v2v (qap qaq) l2.Rules))),(28,.p (.int .i64 (l2.Rules.length:Int))),(29,.p (.int .i64 s))],[(2,.arr 3 1 1 [.p (.int .i64 n1)]),(3,.arr 25 3 1 [.p (qak l2)]),(5,.arr 66 2 1 [.agg [.p (.int .i64 0),.own 24 1 0 l9.length]]),(24,.arr 142 3 1 (v2v AV.p (v2v qaj l9)))]⟩) (fun (o:(Unit) ⊕ (Int))=>match o with | .inl o13=>tE (cX Tryz.f14 X w False hT) (.exit 0) ⟨[(2,.loc 2 1 0 0),(3,.loc 3 1 0 0)],[(2,.arr 3 1 1 [.p (.int .i64 n1)]),(3,.arr 25 3 1 [.p (qak l2)])]⟩ | .inr o14=>tR prog Tryz.f14 (.int .i64 o14)) h12 ?_ ?_
 clear h h4 h4T h5 h5T h6 h6T h7 h8 h12
 intro t15 x h
 simp only [qd4] at h
 refine Ms ?_
 refine T4 ?_
 obtain ⟨h16,h⟩|⟨h16,h⟩:=zI h
 refine M9 ?_
 obtain ⟨x17,h18,h18a,h18b,h⟩:=zX h
 refine Mo ?_
 refine zU ?_
 obtain ⟨h19,h⟩|⟨h19,h⟩:=zI h
 refine zw 36 true ?_
 refine zh ?_
 refine M8 ?_
 refine Me ?_
 cases h
 exact ⟨rfl,zT results14⟩
 refine zw 36 false ?_
 refine M4 ?_
 refine M8 ?_
 obtain ⟨h20,h⟩|⟨h20,h⟩:=zI h
 refine Me ?_
 cases h
 exact ⟨rfl,zT results14⟩
 refine Mf ?_
 refine Mq ?_
 obtain ⟨o21,h22,h⟩:=zB h
 refine zO (fun (s:Int)=>⟨[(2,.loc 2 1 0 0),(3,.loc 3 1 0 0),(5,.loc 5 1 0 0),(27,.p (.slc (v2v (qap qaq) l2.Rules))),(28,.p (.int .i64 (l2.Rules.length:Int))),(29,.p (.int .i64 t15)),(41,.p (.slc (v2v qaq x17))),(42,.p (.int .i64 (x17.length:Int))),(43,.p (.int .i64 s))],[(2,.arr 3 1 1 [.p (.int .i64 n1)]),(3,.arr 25 3 1 [.p (qak l2)]),(5,.arr 66 2 1 [.agg [.p (.int .i64 0),.own 24 1 0 l9.length]]),(24,.arr 142 3 1 (v2v AV.p (v2v qaj l9)))]⟩) (fun (o:(Unit) ⊕ (Int))=>match o with | .inl o23=>tE (cX Tryz.f14 X w False hT) (.exit 2) ⟨[(2,.loc 2 1 0 0),(3,.loc 3 1 0 0),(5,.loc 5 1 0 0),(27,.p (.slc (v2v (qap qaq) l2.Rules))),(28,.p (.int .i64 (l2.Rules.length:Int))),(29,.p (.int .i64 t15))],[(2,.arr 3 1 1 [.p (.int .i64 n1)]),(3,.arr 25 3 1 [.p (qak l2)]),(5,.arr 66 2 1 [.agg [.p (.int .i64 0),.own 24 1 0 l9.length]]),(24,.arr 142 3 1 (v2v AV.p (v2v qaj l9)))]⟩ | .inr o24=>tR prog Tryz.f14 (.int .i64 o24)) h22 ?_ ?_
 clear h h16 h18 h18a h18b h19 h20 h22
 intro t25 x h
 simp only [qhd] at h
 refine Ms ?_
 refine T4 ?_
 obtain ⟨h26,h⟩|⟨h26,h⟩:=zI h
 refine M9 ?_
 obtain ⟨x27,h28,h28a,h28b,h⟩:=zX h
 refine M6 ?_
 refine zU ?_
 obtain ⟨r29,h30,h⟩:=zB h
 refine zc (qn8 (Row.mk 0 l9) (Row.mk 0 l9) x27 _ h30) ?_
 refine M6 ?_
 refine M8 ?_
 obtain ⟨h31,h⟩|⟨h31,h⟩:=zI h
 refine Ma ?_
 cases h
 exact ⟨rfl,zT results14⟩
 refine Mj ?_
 exact M0 h
 exact M2 h
 rcases o21 with ⟨⟩ | r32
 try simp only at h
 refine T1 ?_
 exact M0 h
 try simp only at h
 refine zZ fun s hq=>?_
 refine yr<|yr<|zt ?_
 cases h
 refine ⟨rfl,?_⟩
 exact hq
 exact M2 h
 rcases o11 with ⟨⟩ | r33
 try simp only at h
 refine T9 ?_
 refine zU ?_
 obtain ⟨r34,h35,h⟩:=zB h
 refine zc (qcc l2.Block (fun (y36:Int)=>qip y36 n1) 43 [.imm [.int .i64 n1]] (fun y36 r h=>qwm y36 n1 r h) _ h35) ?_
 refine Tp ?_
 obtain ⟨h37,h⟩|⟨h37,h⟩:=zI h
 exact M1 h results14
 have h37F:=v18.2 h37
 refine Mf ?_
 refine zU ?_
 obtain ⟨h38,h⟩:=qab h
 refine zM ⟨[(2,.loc 2 1 0 0),(3,.loc 3 1 0 0),(64,.p (.slc (v2v (v65 .i64) l2.Block)))],[(2,.arr 3 1 1 [.p (.int .i64 n1)]),(3,.arr 25 3 1 [.p (qak l2)])]⟩ ?_
 refine qjq (avs:=[.p (.slc (v2v (v65 .i64) l2.Block))]) 83 rfl (qbf rfl) rfl func44 rfl call44 ntmps44 (by simp) (by simp only [go_sem,seval,h4T,h5T,h6T,h37F,h38];all_goals rfl) ?_
 intro i39 w40 h41
 refine q0i (T:=fun e s'=>(e=.normal∨e=.ret)∧Le ⟨prog,8,83,X,[(2,.arr 3 1 1 [.p (.int .i64 n1)]),(3,.arr 25 3 1 [.p (qak l2)])],i39,w40,False,h41⟩ s' ⟨[(2,.own 88 1 0 (l2.Block).length)],[(2,.arr 3 1 1 [.p (.int .i64 n1)]),(3,.arr 25 3 1 [.p (qak l2)]),(88,.arr 3 1 1 (v2v AV.p (v2v (v65 .i64) l2.Block)))]⟩) ?_ ?_
 show AWp _ _ _ ⟨[(0,.p (.slc (v2v (v65 .i64) l2.Block)))],[(2,.arr 3 1 1 [.p (.int .i64 n1)]),(3,.arr 25 3 1 [.p (qak l2)])]⟩
 refine Mc ?_
 refine zW 1 ?_
 refine qxi (by simp only [go_sem,seval,h4T,h5T,h6T,h37F,h38];exact rfl) (by simp only [go_sem,seval,h4T,h5T,h6T,h37F,h38]) underlying23 rfl ?_
 intro b hb
 refine Tp ?_
 cases b
 refine Mf ?_
 refine zU<|zl<|zn<|zq ?_
 refine ⟨.inr rfl,?_⟩
 exact zV
 refine zi ?_
 have h42:l2.Block=[]:=by
   rcases hz:l2.Block with _ | ⟨x,z⟩
   · rfl
   · rw [hz] at hb;exact absurd (hb (by simp)) (by simp)
 refine Ms ?_
 refine T3 ?_
 refine ⟨.inr rfl,?_⟩
 exact zV
 intro e s' hT
 obtain ⟨he,hle⟩:=hT
 refine Wk.to hle ?_
 refine vdu he (by simp only [results44];simp only [go_sem,seval,h4T,h5T,h6T,h37F,h38];exact rfl) ?_
 clear hle he
 refine M6 ?_
 refine zU ?_
 refine zM ⟨[(2,.loc 2 1 0 0),(3,.loc 3 1 0 0),(12,.own 88 1 0 (l2.Block).length),(66,.own 88 1 0 (l2.Block).length)],[(2,.arr 3 1 1 [.p (.int .i64 n1)]),(3,.arr 25 3 1 [.p (qak l2)]),(88,.arr 3 1 1 (v2v AV.p (v2v (v65 .i64) l2.Block)))]⟩ ?_
 obtain ⟨l43,h44,h⟩:=zB h
 refine zSI srt45 h44 ?_
 have h45:=q1l h44
 refine zM ⟨[(2,.loc 2 1 0 0),(3,.loc 3 1 0 0),(12,.own 88 1 0 l43.length),(67,.p (.tup []))],[(2,.arr 3 1 1 [.p (.int .i64 n1)]),(3,.arr 25 3 1 [.p (qak l2)]),(88,.arr 3 1 1 (v2v AV.p (v2v (v65 .i64) l43)))]⟩ ?_
 clear h45
 refine zl<|zn<|zs<|zs ?_
 refine zL ⟨[(2,.loc 2 1 0 0),(3,.loc 3 1 0 0),(12,.own 88 1 0 l43.length)],[(2,.arr 3 1 1 [.p (.int .i64 n1)]),(3,.arr 25 3 1 [.p (qak l2)]),(88,.arr 3 1 1 (v2v AV.p (v2v (v65 .i64) l43)))]⟩ ?_
 refine zH [3] mixed (fun i46 w47 h48 r49 h50 h51=>?_)
 refine zHm 0 ?_
 refine zHf 3 ?_
 refine zHl 4 3 h50 ?_
 refine zHb 5 rfl ?_
 obtain ⟨l52,h53,h⟩:=zB h
 refine zHc cpt46 1 h51 h53 ?_
 have h54:=q6u h53
 refine zHb 2 rfl ?_
 refine zHq 6 ?_
 refine zHe ?_
 refine zn ?_
 obtain ⟨h55,h⟩|⟨h55,h⟩:=zI h
 exact M1 h results14
 refine Mm ?_
 refine M8 ?_
 obtain ⟨h56,h⟩|⟨h56,h⟩:=zI h
 exact M1 h results14
 refine Mm ?_
 refine zU ?_
 obtain ⟨r57,h58,h⟩:=zB h
 refine zc (qcc l2.Survive (fun (y59:Int)=>qiq y59) 47 [] (fun y59 r h=>qwn y59 r h) _ h58) ?_
 refine Tp ?_
 obtain ⟨h60,h⟩|⟨h60,h⟩:=zI h
 exact M1 h results14
 refine Mf ?_
 exact M3 h results14
 exact M7 h
theorem qsz (s1:List UInt8) (r2:Bool) (h:qmd s1=some r2):Con D prog 152 [(.str s1)] (.bool r2):=by
 refine zP call152 func152 rfl ntmps152 fun X w hT=>?_
 simp only [qmd] at h
 refine Mc ?_
 refine zU ?_
 obtain ⟨h3,h⟩|⟨h3,h⟩:=zI h
 refine zw 8 true ?_
 refine Mn ?_
 refine M8 ?_
 exact M1 h results152
 refine zw 8 false ?_
 refine M4 ?_
 refine zU ?_
 obtain ⟨h4,h⟩|⟨h4,h⟩:=zI h
 refine zw 13 true ?_
 refine zh ?_
 refine M8 ?_
 exact M1 h results152
 refine zw 13 false ?_
 refine Mr ?_
 refine M8 ?_
 obtain ⟨h5,h⟩|⟨h5,h⟩:=zI h
 exact M1 h results152
 refine Mm ?_
 refine Mq ?_
 obtain ⟨o6,h7,h⟩:=zB h
 refine zO (fun (s:Int)=>⟨[(0,.p (.str s1)),(18,.p (.int .i64 (s1.length:Int))),(19,.p (.int .i64 s))],[]⟩) (fun (o:(Unit) ⊕ (Bool))=>match o with | .inl o8=>tE (cX Tryz.f152 X w D hT) (.exit 0) ⟨[],[]⟩ | .inr o9=>tR prog Tryz.f152 (.bool o9)) h7 ?_ ?_
 clear h h3 h4 h5 h7
 intro t10 x h
 simp only [qir] at h
 refine Ms ?_
 refine T4 ?_
 obtain ⟨h11,h⟩|⟨h11,h⟩:=zI h
 refine M9 ?_
 refine M6 ?_
 obtain ⟨c12,h13,h13a,h13b,h⟩:=zX h
 refine M8 ?_
 obtain ⟨l14,h15,h⟩:=zB h
 refine zJ (fun (o16:Bool)=>tE (cX Tryz.f152 X w D hT) .normal ⟨[(0,.p (.str s1)),(3,.p (.int .i64 t10)),(4,.p (.int .u8 ((c12.toNat:Nat):Int))),(5,.p (.bool o16)),(18,.p (.int .i64 (s1.length:Int))),(19,.p (.int .i64 t10))],[]⟩) l14 ?_ ?_
 replace h:=h15
 clear h15
 refine T6 ?_
 obtain ⟨h17,h⟩|⟨h17,h⟩:=zI h
 refine zw 27 true ?_
 refine Mr ?_
 refine zU ?_
 obtain ⟨h18,h⟩|⟨h18,h⟩:=zI h
 refine zw 31 true ?_
 refine Mn ?_
 exact M0 h
 refine zw 31 false ?_
 refine M4 ?_
 obtain ⟨h19,h⟩|⟨h19,h⟩:=zI h
 refine zw 34 true ?_
 refine M4 ?_
 refine zU ?_
 obtain ⟨h20,h⟩|⟨h20,h⟩:=zI h
 refine zw 39 true ?_
 refine zh ?_
 exact M0 h
 replace h:=h.symm
 refine zw 39 false ?_
 refine Mr ?_
 exact M0 h
 replace h:=h.symm
 refine zw 34 false ?_
 refine Tb ?_
 refine zU ?_
 refine Mr ?_
 exact M0 h
 refine zw 27 false ?_
 refine zh ?_
 refine zU ?_
 refine M4 ?_
 obtain ⟨h21,h⟩|⟨h21,h⟩:=zI h
 refine zw 34 true ?_
 refine M4 ?_
 refine zU ?_
 obtain ⟨h22,h⟩|⟨h22,h⟩:=zI h
 refine zw 39 true ?_
 refine zh ?_
 exact M0 h
 replace h:=h.symm
 refine zw 39 false ?_
 refine Mr ?_
 exact M0 h
 replace h:=h.symm
 refine zw 34 false ?_
 refine Tb ?_
 refine zU ?_
 refine Mr ?_
 exact M0 h
 try simp only at h
 refine zA<|zn<|zs<|zr ?_
 refine zU ?_
 obtain ⟨h23,h⟩|⟨h23,h⟩:=zI h
 refine zw 45 false ?_
 refine zh ?_
 refine M8 ?_
 refine Mj ?_
 exact M0 h
 refine zw 45 true ?_
 refine M4 ?_
 obtain ⟨h24,h⟩|⟨h24,h⟩:=zI h
 replace h:=h.symm
 refine zw 48 true ?_
 refine zh ?_
 refine Mr ?_
 refine Tb ?_
 refine M8 ?_
 refine Ma ?_
 cases h
 exact ⟨rfl,zT results152⟩
 refine zw 48 false ?_
 refine M4 ?_
 refine zg ?_
 obtain ⟨h25,h⟩|⟨h25,h⟩:=zI h
 replace h:=h.symm
 refine zw 52 true ?_
 refine Tb ?_
 refine M8 ?_
 refine Ma ?_
 cases h
 exact ⟨rfl,zT results152⟩
 refine zw 52 false ?_
 refine M4 ?_
 refine M8 ?_
 obtain ⟨h26,h⟩|⟨h26,h⟩:=zI h
 refine Ma ?_
 cases h
 exact ⟨rfl,zT results152⟩
 refine Mj ?_
 exact M0 h
 exact M2 h
 rcases o6 with ⟨⟩ | r27
 try simp only at h
 refine Md ?_
 exact M3 h results152
 exact M7 h
theorem qsp (s1:List (List UInt8)) (v2:List UInt8) (r3:Int) (h:qgp s1 v2=some r3):Con D prog 206 [(.slc (v2v v67 s1)),(.str v2)] (.int .i64 r3):=by
 refine zP call206 func206 rfl ntmps206 fun X w hT=>?_
 simp only [qgp] at h
 refine Ms ?_
 refine M5 ?_
 obtain ⟨o4,h5,h⟩:=zB h
 refine zO (fun (s:Int)=>⟨[(0,.p (.slc (v2v v67 s1))),(1,.p (.str v2)),(7,.p (.int .i64 (s1.length:Int))),(8,.p (.int .i64 s))],[]⟩) (fun (o:(Unit) ⊕ (Int))=>match o with | .inl o6=>tE (cX Tryz.f206 X w D hT) (.exit 0) ⟨[],[]⟩ | .inr o7=>tR prog Tryz.f206 (.int .i64 o7)) h5 ?_ ?_
 clear h h5
 intro t8 x h
 simp only [qc1] at h
 refine Ms ?_
 refine T4 ?_
 obtain ⟨h9,h⟩|⟨h9,h⟩:=zI h
 refine M9 ?_
 refine M6 ?_
 obtain ⟨x10,h11,h11a,h11b,h⟩:=zX h
 refine M8 ?_
 obtain ⟨h12,h⟩|⟨h12,h⟩:=zI h
 refine Ma ?_
 cases h
 exact ⟨rfl,zT results206⟩
 refine Mj ?_
 exact M0 h
 exact M2 h
 rcases o4 with ⟨⟩ | r13
 try simp only at h
 refine Md ?_
 exact M3 h results206
 exact M7 h
theorem qpp (s1:List (List UInt8)) (v2:List UInt8) (r3:Bool) (h:qeb s1 v2=some r3):Con D prog 153 [(.slc (v2v v67 s1)),(.str v2)] (.bool r3):=by
 refine zP call153 func153 rfl ntmps153 fun X w hT=>?_
 simp only [qeb] at h
 refine Ms ?_
 refine M6 ?_
 refine zU ?_
 obtain ⟨r4,h5,h⟩:=zB h
 refine zc (qsp s1 v2 _ h5) ?_
 exact M3 h results153
theorem qpq (s1:List Value) (f2:Value→Option (Bool)) (f2_k:FuncId) (f2_cs:List PV) (f2_h:∀(y3:Value) (r4:Bool),f2 y3=some r4→Con D prog f2_k ((qaj y3) :: f2_cs) (.bool r4)) (r5:Int) (h:qec s1 f2=some r5):Con D prog 239 [(.slc (v2v qaj s1)),.func (.func f2_k) f2_cs] (.int .i64 r5):=by
 refine zP call239 func239 rfl ntmps239 fun X w hT=>?_
 simp only [qec] at h
 refine Ms ?_
 refine M5 ?_
 obtain ⟨o6,h7,h⟩:=zB h
 refine zO (fun (s:Int)=>⟨[(0,.p (.slc (v2v qaj s1))),(1,.p (.func (.func f2_k) f2_cs)),(7,.p (.int .i64 (s1.length:Int))),(8,.p (.int .i64 s))],[]⟩) (fun (o:(Unit) ⊕ (Int))=>match o with | .inl o8=>tE (cX Tryz.f239 X w D hT) (.exit 0) ⟨[],[]⟩ | .inr o9=>tR prog Tryz.f239 (.int .i64 o9)) h7 ?_ ?_
 clear h h7
 intro t10 x h
 simp only [qbz] at h
 refine Ms ?_
 refine T4 ?_
 obtain ⟨h11,h⟩|⟨h11,h⟩:=zI h
 refine M9 ?_
 refine M6 ?_
 obtain ⟨x12,h13,h13a,h13b,h⟩:=zX h
 refine zU ?_
 obtain ⟨r14,h15,h⟩:=zB h
 refine zc (f2_h x12 _ h15) ?_
 refine Tp ?_
 obtain ⟨h16,h⟩|⟨h16,h⟩:=zI h
 refine Ma ?_
 cases h
 exact ⟨rfl,zT results239⟩
 refine Mj ?_
 exact M0 h
 exact M2 h
 rcases o6 with ⟨⟩ | r17
 try simp only at h
 refine Md ?_
 exact M3 h results239
 exact M7 h
theorem qj4 (s1:List Value) (f2:Value→Option (Bool)) (f2_k:FuncId) (f2_cs:List PV) (f2_h:∀(y3:Value) (r4:Bool),f2 y3=some r4→Con D prog f2_k ((qaj y3) :: f2_cs) (.bool r4)) (r5:Bool) (h:qbk s1 f2=some r5):Con D prog 207 [(.slc (v2v qaj s1)),.func (.func f2_k) f2_cs] (.bool r5):=by
 refine zP call207 func207 rfl ntmps207 fun X w hT=>?_
 simp only [qbk] at h
 refine Ms ?_
 refine M6 ?_
 refine zU ?_
 obtain ⟨r6,h7,h⟩:=zB h
 refine zc (qpq s1 f2 f2_k f2_cs f2_h _ h7) ?_
 exact M3 h results207
theorem qsq (v1:Value) (r2:Bool) (h:qeh v1=some r2):Con D prog 208 [(qaj v1)] (.bool r2):=by
 refine zP call208 func208 rfl ntmps208 fun X w hT=>?_
 simp only [qeh] at h
 refine Ms ?_
 refine M6 ?_
 refine zU ?_
 obtain ⟨r3,h4,h⟩:=zB h
 refine zc (qm0 v1 _ h4) ?_
 exact M3 h results208
theorem qt7 (l1:List Value) (r2:Bool) (h:qis l1=some r2):Con D prog 154 [(.slc (v2v qaj l1))] (.bool r2):=by
 refine zP call154 func154 rfl ntmps154 fun X w hT=>?_
 simp only [qis] at h
 refine Ms ?_
 refine M6 ?_
 refine zU ?_
 obtain ⟨r3,h4,h⟩:=zB h
 refine zc (qj4 l1 (fun (y5:Value)=>qeh y5) 208 [] (fun y5 r h=>qsq y5 r h) _ h4) ?_
 exact M3 h results154
theorem qt8 (t1:Table) (r2:Int) (h:qm8 t1=some r2):Con D prog 89 [(qaf t1)] (.int .i64 r2):=by
 refine zP call89 func89 rfl ntmps89 fun X w hT=>?_
 simp only [qm8] at h
 refine Mc ?_
 refine zU ?_
 obtain ⟨r3,h4,h⟩:=zB h
 refine zc (qsz t1.Name _ h4) ?_
 refine M8 ?_
 obtain ⟨h5,h⟩|⟨h5,h⟩:=zI h
 refine Mm ?_
 refine zU ?_
 obtain ⟨h6,h⟩|⟨h6,h⟩:=zI h
 refine zw 16 true ?_
 refine zh ?_
 refine M8 ?_
 exact M1 h results89
 refine zw 16 false ?_
 refine M4 ?_
 refine zg ?_
 refine M8 ?_
 obtain ⟨h7,h⟩|⟨h7,h⟩:=zI h
 exact M1 h results89
 refine Mm ?_
 refine Mq ?_
 obtain ⟨o8,h9,h⟩:=zB h
 refine zO (fun (s:Int)=>⟨[(1,.loc 1 1 0 0),(23,.p (.slc (v2v v67 t1.Attrs))),(24,.p (.int .i64 (t1.Attrs.length:Int))),(25,.p (.int .i64 s))],[(1,.arr 41 3 1 [.p (qaf t1)])]⟩) (fun (o:(Unit) ⊕ (Int))=>match o with | .inl o10=>tE (cX Tryz.f89 X w D hT) (.exit 0) ⟨[(1,.loc 1 1 0 0)],[(1,.arr 41 3 1 [.p (qaf t1)])]⟩ | .inr o11=>tR prog Tryz.f89 (.int .i64 o11)) h9 ?_ ?_
 clear h h4 h5 h6 h7 h9
 intro t12 x h
 simp only [qj5] at h
 refine Ms ?_
 refine T4 ?_
 obtain ⟨h13,h⟩|⟨h13,h⟩:=zI h
 refine M9 ?_
 obtain ⟨x14,h15,h15a,h15b,h⟩:=zX h
 refine M6 ?_
 refine zU ?_
 obtain ⟨r16,h17,h⟩:=zB h
 refine zc (qsz x14 _ h17) ?_
 refine zU ?_
 obtain ⟨h18,h⟩|⟨h18,h⟩:=zI h
 refine zw 33 false ?_
 refine M4 ?_
 obtain ⟨h19,h⟩:=qab h
 obtain ⟨h20,h⟩:=qab h
 refine Mr ?_
 obtain ⟨r21,h22,h⟩:=zB h
 refine zc (qpp (t1.Attrs.take (t12.toNat)) x14 _ h22) ?_
 refine M8 ?_
 obtain ⟨h23,h⟩|⟨h23,h⟩:=zI h
 refine Ma ?_
 cases h
 exact ⟨rfl,zT results89⟩
 refine Mj ?_
 exact M0 h
 refine zw 33 true ?_
 refine zh ?_
 refine M8 ?_
 refine Ma ?_
 cases h
 exact ⟨rfl,zT results89⟩
 exact M2 h
 rcases o8 with ⟨⟩ | r24
 try simp only at h
 refine Md ?_
 refine M5 ?_
 obtain ⟨o25,h26,h⟩:=zB h
 refine zO (fun (s:Int×Int)=>⟨[(1,.loc 1 1 0 0),(5,.p (.int .i64 s.1)),(43,.p (.slc (v2v qao t1.Rows))),(44,.p (.int .i64 (t1.Rows.length:Int))),(45,.p (.int .i64 s.2))],[(1,.arr 41 3 1 [.p (qaf t1)])]⟩) (fun (o:(Unit) ⊕ (Int))=>match o with | .inl o27=>tE (cX Tryz.f89 X w D hT) (.exit 2) ⟨[],[]⟩ | .inr o28=>tR prog Tryz.f89 (.int .i64 o28)) h26 ?_ ?_
 clear h h4 h5 h6 h7 h9 h26
 intro s x h
 obtain ⟨l29,t30⟩:=s
 simp only [qlj] at h
 refine Mb ?_
 obtain ⟨h31,h⟩|⟨h31,h⟩:=zI h
 refine M9 ?_
 obtain ⟨x32,h33,h33a,h33b,h⟩:=zX h
 refine zU<|zl<|zn<|zs<|zb<|zs<|zr ?_
 refine M8 ?_
 obtain ⟨h34,h⟩|⟨h34,h⟩:=zI h
 refine Tl ?_
 refine zU<|zl<|zn<|zq<|yr<|zt<|yr<|zt ?_
 cases h
 exact ⟨rfl,zT results89⟩
 refine T5 ?_
 refine M8 ?_
 obtain ⟨h35,h⟩|⟨h35,h⟩:=zI h
 refine Tl ?_
 refine zU<|zl<|zn<|zq<|yr<|zt<|yr<|zt ?_
 cases h
 exact ⟨rfl,zT results89⟩
 refine T5 ?_
 refine zU ?_
 obtain ⟨r36,h37,h⟩:=zB h
 refine zc (qt7 x32.Values _ h37) ?_
 refine M8 ?_
 obtain ⟨h38,h⟩|⟨h38,h⟩:=zI h
 refine Mj ?_
 refine Mh ?_
 exact M0 h
 refine Tl ?_
 refine zU<|zl<|zn<|zq<|yr<|zt<|yr<|zt ?_
 cases h
 exact ⟨rfl,zT results89⟩
 exact M2 h
 rcases o25 with ⟨⟩ | r39
 try simp only at h
 refine Md ?_
 exact M3 h results89
 exact M7 h
 exact M7 h
 exact M1 h results89
theorem qqg (t1:Table) (l2:Linkage) (r3:Int) (h:qj6 t1 l2=some r3):Con False prog 51 [(qaf t1),(qak l2)] (.int .i64 r3):=by
 refine zP call51 func51 rfl ntmps51 fun X w hT=>?_
 simp only [qj6] at h
 refine Mc ?_
 refine zU ?_
 obtain ⟨r4,h5,h⟩:=zB h
 refine zc (qt8 t1 _ h5) ?_
 refine M6 ?_
 refine M8 ?_
 obtain ⟨h6,h⟩|⟨h6,h⟩:=zI h
 exact M1 h results51
 refine Mm ?_
 refine zU ?_
 obtain ⟨r7,h8,h⟩:=zB h
 refine zc (qze (t1.Attrs.length:Int) l2 _ h8) ?_
 refine M6 ?_
 refine M8 ?_
 obtain ⟨h9,h⟩|⟨h9,h⟩:=zI h
 exact M1 h results51
 refine Mm ?_
 refine M8 ?_
 obtain ⟨h10,h⟩|⟨h10,h⟩:=zI h
 exact M1 h results51
 refine Mf ?_
 exact M3 h results51
theorem qop (s1:List (List Similar)) (f2:(List Similar)→Option (Bool)) (f2_k:FuncId) (f2_cs:List PV) (f2_h:∀(y3:List Similar) (r4:Bool),f2 y3=some r4→Con D prog f2_k ((.slc (v2v qaq y3)) :: f2_cs) (.bool r4)) (r5:Int) (h:qdf s1 f2=some r5):Con D prog 111 [(.slc (v2v (qap qaq) s1)),.func (.func f2_k) f2_cs] (.int .i64 r5):=by
 refine zP call111 func111 rfl ntmps111 fun X w hT=>?_
 simp only [qdf] at h
 refine Ms ?_
 refine M5 ?_
 obtain ⟨o6,h7,h⟩:=zB h
 refine zO (fun (s:Int)=>⟨[(0,.p (.slc (v2v (qap qaq) s1))),(1,.p (.func (.func f2_k) f2_cs)),(7,.p (.int .i64 (s1.length:Int))),(8,.p (.int .i64 s))],[]⟩) (fun (o:(Unit) ⊕ (Int))=>match o with | .inl o8=>tE (cX Tryz.f111 X w D hT) (.exit 0) ⟨[],[]⟩ | .inr o9=>tR prog Tryz.f111 (.int .i64 o9)) h7 ?_ ?_
 clear h h7
 intro t10 x h
 simp only [qbn] at h
 refine Ms ?_
 refine T4 ?_
 obtain ⟨h11,h⟩|⟨h11,h⟩:=zI h
 refine M9 ?_
 refine M6 ?_
 obtain ⟨x12,h13,h13a,h13b,h⟩:=zX h
 refine zU ?_
 obtain ⟨r14,h15,h⟩:=zB h
 refine zc (f2_h x12 _ h15) ?_
 refine Tp ?_
 obtain ⟨h16,h⟩|⟨h16,h⟩:=zI h
 refine Ma ?_
 cases h
 exact ⟨rfl,zT results111⟩
 refine Mj ?_
 exact M0 h
 exact M2 h
 rcases o6 with ⟨⟩ | r17
 try simp only at h
 refine Md ?_
 exact M3 h results111
 exact M7 h
theorem qnt (s1:List Similar) (f2:Similar→Option (Bool)) (f2_k:FuncId) (f2_cs:List PV) (f2_h:∀(y3:Similar) (r4:Bool),f2 y3=some r4→Con D prog f2_k ((qaq y3) :: f2_cs) (.bool r4)) (r5:Int) (h:qcp s1 f2=some r5):Con D prog 173 [(.slc (v2v qaq s1)),.func (.func f2_k) f2_cs] (.int .i64 r5):=by
 refine zP call173 func173 rfl ntmps173 fun X w hT=>?_
 simp only [qcp] at h
 refine Ms ?_
 refine M5 ?_
 obtain ⟨o6,h7,h⟩:=zB h
 refine zO (fun (s:Int)=>⟨[(0,.p (.slc (v2v qaq s1))),(1,.p (.func (.func f2_k) f2_cs)),(7,.p (.int .i64 (s1.length:Int))),(8,.p (.int .i64 s))],[]⟩) (fun (o:(Unit) ⊕ (Int))=>match o with | .inl o8=>tE (cX Tryz.f173 X w D hT) (.exit 0) ⟨[],[]⟩ | .inr o9=>tR prog Tryz.f173 (.int .i64 o9)) h7 ?_ ?_
 clear h h7
 intro t10 x h
 simp only [qbg] at h
 refine Ms ?_
 refine T4 ?_
 obtain ⟨h11,h⟩|⟨h11,h⟩:=zI h
 refine M9 ?_
 refine M6 ?_
 obtain ⟨x12,h13,h13a,h13b,h⟩:=zX h
 refine zU ?_
 obtain ⟨r14,h15,h⟩:=zB h
 refine zc (f2_h x12 _ h15) ?_
 refine Tp ?_
 obtain ⟨h16,h⟩|⟨h16,h⟩:=zI h
 refine Ma ?_
 cases h
 exact ⟨rfl,zT results173⟩
 refine Mj ?_
 exact M0 h
 exact M2 h
 rcases o6 with ⟨⟩ | r17
 try simp only at h
 refine Md ?_
 exact M3 h results173
 exact M7 h
theorem qnf (s1:List Similar) (f2:Similar→Option (Bool)) (f2_k:FuncId) (f2_cs:List PV) (f2_h:∀(y3:Similar) (r4:Bool),f2 y3=some r4→Con D prog f2_k ((qaq y3) :: f2_cs) (.bool r4)) (r5:Bool) (h:qbo s1 f2=some r5):Con D prog 113 [(.slc (v2v qaq s1)),.func (.func f2_k) f2_cs] (.bool r5):=by
 refine zP call113 func113 rfl ntmps113 fun X w hT=>?_
 simp only [qbo] at h
 refine Ms ?_
 refine M6 ?_
 refine zU ?_
 obtain ⟨r6,h7,h⟩:=zB h
 refine zc (qnt s1 f2 f2_k f2_cs f2_h _ h7) ?_
 exact M3 h results113
theorem qt9 (c1:Similar) (c2:Row) (c3:Row) (r4:Bool) (h:qf7 c1 c2 c3=some r4):Con False prog 114 [(qaq c1),.imm [.int .i64 c2.ID,.slc (v2v qaj c2.Values)],.imm [.int .i64 c3.ID,.slc (v2v qaj c3.Values)]] (.bool r4):=by
 refine zP call114 func114 rfl ntmps114 fun X w hT=>?_
 simp only [qf7] at h
 refine Ms ?_
 refine M6 ?_
 refine zU ?_
 obtain ⟨r5,h6,h⟩:=zB h
 refine zc (qn8 c2 c3 c1 _ h6) ?_
 refine M6 ?_
 exact M3 h results114
theorem qwo (r1:List Similar) (c2:Row) (c3:Row) (r4:Bool) (h:qgq r1 c2 c3=some r4):Con False prog 112 [(.slc (v2v qaq r1)),.imm [.int .i64 c2.ID,.slc (v2v qaj c2.Values)],.imm [.int .i64 c3.ID,.slc (v2v qaj c3.Values)]] (.bool r4):=by
 refine zP call112 func112 rfl ntmps112 fun X w hT=>?_
 simp only [qgq] at h
 refine Ms ?_
 refine M6 ?_
 refine zU ?_
 obtain ⟨r5,h6,h⟩:=zB h
 refine zc (qnf r1 (fun (y7:Similar)=>qf7 y7 c2 c3) 114 [.imm [.int .i64 c2.ID,.slc (v2v qaj c2.Values)],.imm [.int .i64 c3.ID,.slc (v2v qaj c3.Values)]] (fun y7 r h=>qt9 y7 c2 c3 r h) _ h6) ?_
 exact M3 h results112
theorem qzf (l1:Linkage) (a2:Row) (b3:Row) (r4:Int) (h:qml l1 a2 b3=some r4):Con False prog 73 [(qak l1),(qao a2),(qao b3)] (.int .i64 r4):=by
 refine zP call73 func73 rfl ntmps73 fun X w hT=>?_
 simp only [qml] at h
 refine Ms ?_
 refine M6 ?_
 refine zU ?_
 obtain ⟨r5,h6,h⟩:=zB h
 refine zc (qop l1.Rules (fun (y7:List Similar)=>qgq y7 a2 b3) 112 [.imm [.int .i64 a2.ID,.slc (v2v qaj a2.Values)],.imm [.int .i64 b3.ID,.slc (v2v qaj b3.Values)]] (fun y7 r h=>qwo y7 a2 b3 r h) _ h6) ?_
 exact M3 h results73
theorem qs0 (k1:Int) (c2:Row) (c3:Row) (r4:Bool) (h:qhw k1 c2 c3=some r4):Con D prog 155 [(.int .i64 k1),.imm [.int .i64 c2.ID,.slc (v2v qaj c2.Values)],.imm [.int .i64 c3.ID,.slc (v2v qaj c3.Values)]] (.bool r4):=by
 refine zP call155 func155 rfl ntmps155 fun X w hT=>?_
 simp only [qhw] at h
 refine Ms ?_
 refine Mz ?_
 obtain ⟨x5,h6,h6a,h6b,h⟩:=zX h
 obtain ⟨x7,h8,h8a,h8b,h⟩:=zX h
 exact Mp h results155
theorem qu6 (l1:Linkage) (a2:Row) (b3:Row) (r4:Bool) (h:qhe l1 a2 b3=some r4):Con D prog 90 [(qak l1),(qao a2),(qao b3)] (.bool r4):=by
 refine zP call90 func90 rfl ntmps90 fun X w hT=>?_
 simp only [qhe] at h
 refine Ms ?_
 refine M6 ?_
 refine zU ?_
 obtain ⟨h5,h⟩|⟨h5,h⟩:=zI h
 refine zw 11 true ?_
 refine zh ?_
 exact M3 h results90
 refine zw 11 false ?_
 refine M4 ?_
 obtain ⟨r6,h7,h⟩:=zB h
 refine zc (qcc l1.Block (fun (y8:Int)=>qhw y8 a2 b3) 155 [.imm [.int .i64 a2.ID,.slc (v2v qaj a2.Values)],.imm [.int .i64 b3.ID,.slc (v2v qaj b3.Values)]] (fun y8 r h=>qs0 y8 a2 b3 r h) _ h7) ?_
 exact M3 h results90
theorem qpd (t1:Table) (l2:Linkage) (r3:List Arr2_int) (h:qgr t1 l2=some r3):Con False prog 52 [(qaf t1),(qak l2)] (.slc (v2v qag r3)):=by
 refine zP call52 func52 rfl ntmps52 fun X w hT=>?_
 simp only [qgr] at h
 refine Ms ?_
 refine M6 ?_
 refine M5 ?_
 obtain ⟨o4,h5,h⟩:=zB h
 refine zO (fun (s:List Arr2_int×Int)=>⟨[(2,.loc 2 1 0 0),(3,.loc 3 1 0 0),(5,.own 48 1 0 s.1.length),(11,.p (.slc (v2v qao t1.Rows))),(12,.p (.int .i64 (t1.Rows.length:Int))),(13,.p (.int .i64 s.2))],[(2,.arr 41 3 1 [.p (qaf t1)]),(3,.arr 25 3 1 [.p (qak l2)]),(48,.arr 108 2 1 (v2v AV.p (v2v qag s.1)))]⟩) (fun (o6:List Arr2_int)=>tE (cX Tryz.f52 X w False hT) (.exit 0) ⟨[(5,.own 48 1 0 o6.length)],[(48,.arr 108 2 1 (v2v AV.p (v2v qag o6)))]⟩) h5 ?_ ?_
 clear h h5
 intro s x h
 obtain ⟨o7,t8⟩:=s
 simp only [qhx] at h
 refine Mb ?_
 obtain ⟨h9,h⟩|⟨h9,h⟩:=zI h
 refine M9 ?_
 obtain ⟨x10,h11,h11a,h11b,h⟩:=zX h
 refine M6 ?_
 refine Mq ?_
 obtain ⟨o12,h13,h⟩:=zB h
 refine zO (fun (s:List Arr2_int×Int)=>⟨[(2,.loc 2 1 0 0),(3,.loc 3 1 0 0),(5,.own 48 1 0 s.1.length),(6,.p (.int .i64 t8)),(7,.loc 7 1 0 0),(8,.p (.int .i64 s.2)),(11,.p (.slc (v2v qao t1.Rows))),(12,.p (.int .i64 (t1.Rows.length:Int))),(13,.p (.int .i64 t8))],[(2,.arr 41 3 1 [.p (qaf t1)]),(3,.arr 25 3 1 [.p (qak l2)]),(7,.arr 66 2 1 [.p (qao x10)]),(48,.arr 108 2 1 (v2v AV.p (v2v qag s.1)))]⟩) (fun (o14:List Arr2_int)=>tE (cX Tryz.f52 X w False hT) (.exit 2) ⟨[(2,.loc 2 1 0 0),(3,.loc 3 1 0 0),(5,.own 48 1 0 o14.length),(11,.p (.slc (v2v qao t1.Rows))),(12,.p (.int .i64 (t1.Rows.length:Int))),(13,.p (.int .i64 t8))],[(2,.arr 41 3 1 [.p (qaf t1)]),(3,.arr 25 3 1 [.p (qak l2)]),(48,.arr 108 2 1 (v2v AV.p (v2v qag o14)))]⟩) h13 ?_ ?_
 clear h h9 h11 h11a h11b h13
 intro s x h
 obtain ⟨o15,k16⟩:=s
 simp only [qdp] at h
 refine Mi ?_
 refine M8 ?_
 obtain ⟨h17,h⟩|⟨h17,h⟩:=zI h
 refine M9 ?_
 obtain ⟨x18,h19,h19a,h19b,h⟩:=zX h
 refine M8 ?_
 obtain ⟨t20,h21,h⟩:=zB h
 refine zJ (fun (o22:Bool)=>tE (cX Tryz.f52 X w False hT) .normal ⟨[(2,.loc 2 1 0 0),(3,.loc 3 1 0 0),(5,.own 48 1 0 o15.length),(6,.p (.int .i64 t8)),(7,.loc 7 1 0 0),(8,.p (.int .i64 k16)),(11,.p (.slc (v2v qao t1.Rows))),(12,.p (.int .i64 (t1.Rows.length:Int))),(13,.p (.int .i64 t8)),(42,.p (.bool o22))],[(2,.arr 41 3 1 [.p (qaf t1)]),(3,.arr 25 3 1 [.p (qak l2)]),(7,.arr 66 2 1 [.p (qao x10)]),(48,.arr 108 2 1 (v2v AV.p (v2v qag o15)))]⟩) t20 ?_ ?_
 replace h:=h21
 clear h21
 refine T6 ?_
 obtain ⟨r23,h24,h⟩:=zB h
 refine zc (qu6 l2 x10 x18 _ h24) ?_
 refine zU ?_
 obtain ⟨h25,h⟩|⟨h25,h⟩:=zI h
 refine zw 36 true ?_
 refine M4 ?_
 obtain ⟨r26,h27,h⟩:=zB h
 replace h:=h.symm
 refine zc (qzf l2 x10 x18 _ h27) ?_
 refine zg ?_
 exact M0 h
 refine zw 36 false ?_
 refine zh ?_
 exact M0 h
 try simp only at h
 refine zA<|zn ?_
 obtain ⟨h28,h⟩|⟨h28,h⟩:=zI h
 refine Tc ?_
 obtain ⟨h29,h⟩:=qab h
 refine Mh ?_
 exact M0 h
 refine Mj ?_
 exact M0 h
 exact M2 h
 try simp only at h
 refine T1 ?_
 exact M0 h
 exact M2 h
 try simp only at h
 refine Md ?_
 exact M3 h results52
theorem qwp (t1:Table) (l2:Linkage) (r3:List Arr2_int64×Int) (h:qkk t1 l2=some r3):Con False prog 17 [(qaf t1),(qak l2)] (.tup [(.slc (v2v qas r3.1)),(.int .i64 r3.2)]):=by
 refine zP call17 func17 rfl ntmps17 fun X w hT=>?_
 simp only [qkk] at h
 refine Mc ?_
 refine zU ?_
 obtain ⟨r4,h5,h⟩:=zB h
 refine zc (qqg t1 l2 _ h5) ?_
 refine M6 ?_
 refine M8 ?_
 obtain ⟨h6,h⟩|⟨h6,h⟩:=zI h
 exact M1 h results17
 refine Mf ?_
 refine Mo ?_
 refine zU ?_
 obtain ⟨r7,h8,h⟩:=zB h
 refine zc (qpd t1 l2 _ h8) ?_
 refine Mq ?_
 obtain ⟨o9,h10,h⟩:=zB h
 refine zO (fun (s:List Arr2_int64×Int)=>⟨[(2,.loc 2 1 0 0),(7,.own 41 1 0 s.1.length),(18,.p (.slc (v2v qag r7))),(19,.p (.int .i64 (r7.length:Int))),(20,.p (.int .i64 s.2))],[(2,.arr 41 3 1 [.p (qaf t1)]),(41,.arr 58 2 1 (v2v AV.p (v2v qas s.1)))]⟩) (fun (o11:List Arr2_int64)=>tE (cX Tryz.f17 X w False hT) (.exit 0) ⟨[(7,.own 41 1 0 o11.length)],[(41,.arr 58 2 1 (v2v AV.p (v2v qas o11)))]⟩) h10 ?_ ?_
 clear h h5 h6 h8 h10
 intro s x h
 obtain ⟨o12,t13⟩:=s
 simp only [qhy] at h
 refine Mb ?_
 obtain ⟨h14,h⟩|⟨h14,h⟩:=zI h
 refine M9 ?_
 obtain ⟨x15,h16,h16a,h16b,h⟩:=zX h
 refine Th ?_
 obtain ⟨x17,h18,h18a,h18b,h⟩:=zX h
 obtain ⟨x19,h20,h20a,h20b,h⟩:=zX h
 obtain ⟨h21,h⟩:=qab h
 refine My ?_
 exact M0 h
 exact M2 h
 try simp only at h
 refine Md ?_
 exact M3 h results17
theorem qrt (a1:List Arr2_int64) (b2:List Arr2_int64) (r3:Bool) (h:qdw a1 b2=some r3):Con D prog 18 [(.slc (v2v qas a1)),(.slc (v2v qas b2))] (.bool r3):=by
 refine zP call18 func18 rfl ntmps18 fun X w hT=>?_
 simp only [qdw] at h
 refine Mc ?_
 refine M8 ?_
 obtain ⟨h4,h⟩|⟨h4,h⟩:=zI h
 exact M1 h results18
 refine Mm ?_
 refine Mq ?_
 obtain ⟨o5,h6,h⟩:=zB h
 refine zO (fun (s:Int)=>⟨[(0,.p (.slc (v2v qas a1))),(1,.p (.slc (v2v qas b2))),(5,.p (.int .i64 s))],[]⟩) (fun (o:(Unit) ⊕ (Bool))=>match o with | .inl o7=>tE (cX Tryz.f18 X w D hT) (.exit 0) ⟨[],[]⟩ | .inr o8=>tR prog Tryz.f18 (.bool o8)) h6 ?_ ?_
 clear h h4 h6
 intro i9 x h
 simp only [qf1] at h
 refine T8 ?_
 refine M8 ?_
 obtain ⟨h10,h⟩|⟨h10,h⟩:=zI h
 refine Mw ?_
 obtain ⟨x11,h12,h12a,h12b,h⟩:=zX h
 obtain ⟨x13,h14,h14a,h14b,h⟩:=zX h
 refine Mu ?_
 obtain ⟨h15,h⟩|⟨h15,h⟩:=zI h
 refine Mj ?_
 exact M0 h
 refine Ma ?_
 cases h
 exact ⟨rfl,zT results18⟩
 exact M2 h
 rcases o5 with ⟨⟩ | r16
 try simp only at h
 refine Md ?_
 exact M3 h results18
 exact M7 h
theorem q2z (n1:Int) (e2:List Arr2_int) (r3:Int) (h:qo3 n1 e2=some r3):Con D prog 92 [(.int .i64 n1),(.slc (v2v qag e2))] (.int .i64 r3):=by
 refine zP call92 func92 rfl ntmps92 fun X w hT=>?_
 simp only [qo3] at h
 refine Ms ?_
 refine zU<|zl<|zn<|zs<|zb ?_
 obtain ⟨t4,h5,h⟩:=zB h
 refine zJ (fun (o6:Bool)=>tE (cX Tryz.f92 X w D hT) .normal ⟨[(0,.p (.int .i64 n1)),(1,.p (.slc (v2v qag e2))),(7,.p (.bool o6))],[]⟩) t4 ?_ ?_
 replace h:=h5
 clear h5
 refine T6 ?_
 obtain ⟨h7,h⟩|⟨h7,h⟩:=zI h
 refine zw 10 true ?_
 refine zh ?_
 exact M0 h
 replace h:=h.symm
 refine zw 10 false ?_
 refine M4 ?_
 exact M0 h
 try simp only at h
 refine zA<|zn ?_
 obtain ⟨h8,h⟩|⟨h8,h⟩:=zI h
 refine Ma ?_
 exact T7 h results92
 refine T5 ?_
 refine M8 ?_
 obtain ⟨h9,h⟩|⟨h9,h⟩:=zI h
 refine Ma ?_
 exact T7 h results92
 refine zj<|zk<|yn<|zn<|zs<|zs<|zr ?_
 refine Mq ?_
 obtain ⟨o10,h11,h⟩:=zB h
 refine zO (fun (s:Int)=>⟨[(0,.p (.int .i64 n1)),(18,.p (.slc (v2v qag e2))),(19,.p (.int .i64 (e2.length:Int))),(20,.p (.int .i64 s))],[]⟩) (fun (o:(Unit) ⊕ (Int))=>match o with | .inl o12=>tE (cX Tryz.f92 X w D hT) (.exit 1) ⟨[],[]⟩ | .inr o13=>tR prog Tryz.f92 (.int .i64 o13)) h11 ?_ ?_
 clear h h8 h9 h11
 intro t14 x h
 simp only [qlk] at h
 refine Ms ?_
 refine T4 ?_
 obtain ⟨h15,h⟩|⟨h15,h⟩:=zI h
 refine M9 ?_
 obtain ⟨x16,h17,h17a,h17b,h⟩:=zX h
 refine M6 ?_
 refine zU ?_
 obtain ⟨h18,h⟩|⟨h18,h⟩:=zI h
 refine zw 30 true ?_
 refine zh ?_
 refine M8 ?_
 refine Ma ?_
 cases h
 exact ⟨rfl,zT results92⟩
 refine zw 30 false ?_
 refine M4 ?_
 refine M4 ?_
 refine zg ?_
 refine M8 ?_
 obtain ⟨h19,h⟩|⟨h19,h⟩:=zI h
 refine Ma ?_
 cases h
 exact ⟨rfl,zT results92⟩
 refine Mj ?_
 exact M0 h
 exact M2 h
 rcases o10 with ⟨⟩ | r20
 try simp only at h
 refine Md ?_
 exact M3 h results92
 exact M7 h
theorem qu7 (n1:Int) (e2:List Arr2_int) (r3:List (List Int)) (h:qjs n1 e2=some r3):Con D prog 93 [(.int .i64 n1),(.slc (v2v qag e2))] (.slc (v2v (qap (v65 .i64)) r3)):=by
 refine zP call93 func93 rfl ntmps93 fun X w hT=>?_
 simp only [qjs] at h
 refine Ms ?_
 refine M6 ?_
 obtain ⟨h4,h⟩:=qab h
 obtain ⟨h5,h⟩:=qab h
 refine zW 2 ?_
 refine zM ⟨[(1,.p (.slc (v2v qag e2))),(10,.own 10 1 0 ((v01 (n1).toNat ([]:List Int))).length)],((10,.arr 23 1 1 (qkd 10 3 1 1 (v65 .i64) (v01 (n1).toNat ([]:List Int)))) :: qlc 10 3 1 1 (v65 .i64) (v01 (n1).toNat ([]:List Int)) [])⟩ ?_
 refine M5 ?_
 obtain ⟨o6,h7,h⟩:=zB h
 refine zO (fun (s:List (List Int)×Int)=>⟨[(5,.own 10 1 0 s.1.length),(11,.p (.slc (v2v qag e2))),(12,.p (.int .i64 (e2.length:Int))),(13,.p (.int .i64 s.2))],((10,.arr 23 1 1 (qkd 10 3 1 1 (v65 .i64) s.1)) :: qlc 10 3 1 1 (v65 .i64) s.1 [])⟩) (fun (o8:List (List Int))=>tE (cX Tryz.f93 X w D hT) (.exit 0) ⟨[(5,.own 10 1 0 o8.length)],((10,.arr 23 1 1 (qkd 10 3 1 1 (v65 .i64) o8)) :: qlc 10 3 1 1 (v65 .i64) o8 [])⟩) h7 ?_ ?_
 clear h h4 h5 h7
 intro s x h
 obtain ⟨o9,t10⟩:=s
 simp only [qgs] at h
 refine Mb ?_
 obtain ⟨h11,h⟩|⟨h11,h⟩:=zI h
 refine M9 ?_
 obtain ⟨x12,h13,h13a,h13b,h⟩:=zX h
 refine Th ?_
 obtain ⟨x14,h15,h15a,h15b,h⟩:=zX h
 obtain ⟨h16,h⟩:=qab h
 refine yU ?_
 refine ydS ?_
 refine yn<|zn ?_
 refine zL ⟨[(5,.own 10 1 0 ((o9.set x12.x0.toNat (x14++[x12.x1]))).length),(11,.p (.slc (v2v qag e2))),(12,.p (.int .i64 (e2.length:Int))),(13,.p (.int .i64 t10))],((10,.arr 23 1 1 (qkd 10 3 1 1 (v65 .i64) (o9.set x12.x0.toNat (x14++[x12.x1])))) :: qlc 10 3 1 1 (v65 .i64) (o9.set x12.x0.toNat (x14++[x12.x1])) [])⟩ ?_
 refine zr ?_
 exact M0 h
 exact M2 h
 try simp only at h
 refine T9 ?_
 refine Mq ?_
 obtain ⟨o17,h18,h⟩:=zB h
 refine zO (fun (s:List (List Int)×Int)=>⟨[(5,.own 10 1 0 s.1.length),(32,.p (.int .i64 ((o6.length:Nat):Int))),(33,.p (.int .i64 s.2))],((10,.arr 23 1 1 (qkd 10 3 1 1 (v65 .i64) s.1)) :: qlc 10 3 1 1 (v65 .i64) s.1 [])⟩) (fun (o19:List (List Int))=>tE (cX Tryz.f93 X w D hT) (.exit 2) ⟨[(5,.own 10 1 0 o19.length)],((10,.arr 23 1 1 (qkd 10 3 1 1 (v65 .i64) o19)) :: qlc 10 3 1 1 (v65 .i64) o19 [])⟩) h18 ?_ ?_
 clear h h4 h5 h7 h18
 intro s x h
 obtain ⟨o20,t21⟩:=s
 simp only [qgt] at h
 refine Mb ?_
 obtain ⟨h22,h⟩|⟨h22,h⟩:=zI h
 refine M9 ?_
 refine M6 ?_
 obtain ⟨x23,h24,h24a,h24b,h⟩:=zX h
 refine zU ?_
 obtain ⟨l25,h26,h⟩:=zB h
 refine zSI srt45 h26 ?_
 have h27:=q1l h26
 refine zM ⟨[(5,.own 10 1 0 ((o20.set t21.toNat l25)).length),(8,.p (.int .i64 t21)),(32,.p (.int .i64 ((o6.length:Nat):Int))),(33,.p (.int .i64 t21)),(40,.p (.tup []))],((10,.arr 23 1 1 (qkd 10 3 1 1 (v65 .i64) (o20.set t21.toNat l25))) :: qlc 10 3 1 1 (v65 .i64) (o20.set t21.toNat l25) [])⟩ ?_
 clear h27
 refine zl<|zn<|zr ?_
 obtain ⟨x28,h29,h29a,h29b,h⟩:=zX h
 have h29B:=eq_true (by simpa only [v0m] using h29b)
 refine zU ?_
 obtain ⟨l30,h31,h⟩:=zB h
 refine zCI cpt46 h31 ?_
 have h32:=q6u h31
 refine zW 2 ?_
 refine zM ⟨[(5,.own 10 1 0 (((o20.set t21.toNat l25).set t21.toNat l30)).length),(32,.p (.int .i64 ((o6.length:Nat):Int))),(33,.p (.int .i64 t21))],((10,.arr 23 1 1 (qkd 10 3 1 1 (v65 .i64) ((o20.set t21.toNat l25).set t21.toNat l30))) :: qlc 10 3 1 1 (v65 .i64) ((o20.set t21.toNat l25).set t21.toNat l30) [])⟩ ?_
 refine T0 ?_
 exact M0 h
 exact M2 h
 try simp only at h
 refine Md ?_
 exact M3 h results93
end Go.Proofs.YtmlegeeinnkhkaaGreat
namespace Go.Proofs
open Go Go.Ab Go.Shelf Tryz
variable {D:Prop}
def YtmlegeeinnkhkaaGreat.grow157_ren:Go.Shelf.Ren:=⟨fun | 4=>157 | n=>n,fun | 22=>106 | 25=>108 | 3=>3 | 4=>4 | 9=>9 | 20=>20 | 0=>0 | n=>n,fun | n=>n⟩
theorem YtmlegeeinnkhkaaGreat.grow157:Go.Proofs.Lays8.n4 prog YtmlegeeinnkhkaaGreat.grow157_ren:={
  mixed:=by kernel_rfl
  f4:=⟨f157.name,by decide,func157.trans (congrArg some (by kernel_rfl))⟩
  t0:=underlying0
  a0:=isAgg0
  z0:=sizeOf0
  v0:=zeroValue0
  t3:=underlying3
  a3:=isAgg3
  z3:=sizeOf3
  v3:=zeroValue3
  t4:=underlying4
  a4:=isAgg4
  z4:=sizeOf4
  v4:=zeroValue4
  t9:=underlying9
  a9:=isAgg9
  z9:=sizeOf9
  v9:=zeroValue9
  t20:=underlying20
  a20:=isAgg20
  z20:=sizeOf20
  v20:=zeroValue20
  t22:=underlying106
  a22:=isAgg106
  z22:=sizeOf106
  v22:=zeroValue106 }
theorem YtmlegeeinnkhkaaGreat.grw157:Grw prog 157 108 2:=⟨call157,fun n w h0 hn=>by
  obtain ⟨m,rfl⟩:=Int.eq_ofNat_of_zero_le h0;have hi:prog.info? 108=some Tryz.t108:=by kernel_rfl
  obtain ⟨z,hz,hzs⟩:∃z,Tryz.t108.zero=some z∧z.cells.size=2:=⟨_,rfl,rfl⟩;cases m with
  | zero =>
    refine (Any8.slices_Grow_room YtmlegeeinnkhkaaGreat.grow157 none 0 0 0 w (v1f _) (by omega) (by omega) (v1f _)).mono fun e' w' h=>?_
    obtain ⟨rfl,rfl⟩:=h;exact ⟨_,rfl,World.ownsRow_nil _ _ _ _,RowKit.Below.refl _ _,v1f _⟩
  | succ m =>
    have hby:Tryz.t108.bytes=16:=rfl;refine (Any8.slices_Grow_grow YtmlegeeinnkhkaaGreat.grow157 Tryz.t108 z hi hz (by decide) none 0 0 (m+1) [] w (v1f _) (by omega) (by rw [hby];omega) (by omega) (by simp) (fun _=>rfl) (fun a h=>by cases h)).mono fun e' w' h=>?_
    obtain ⟨rfl,rfl⟩:=h;have hge:=grownCap_ge w (0+(m+1)) 0 108;refine ⟨_,rfl,World.ownsRow_made w.drew _ _ (v1f _) (grownCap_le_maxLen w (0+(m+1)) 0 108 (by unfold maxLen;omega)) ?_,(RowKit.Below.refl _ w).drew.alloc (v1f _) _,Nat.le_succ _⟩;simp only [Array.size_append,size_zeroCells,hzs,List.size_toArray,v0k];generalize hG:grownCap w (0+(m+1)) 0 108=G at hge;show 0+(0+(m+1) - 0) * 2+(grownCap w (0+(m+1)) 0 108 - (0+(m+1))) * 2=grownCap w (0+(m+1)) 0 108 * 2;rw [hG];omega⟩
end Go.Proofs
namespace Go.Proofs.YtmlegeeinnkhkaaGreat
open Go Go.Ab Tryz
variable {D:Prop}
theorem qru (s1:List (List Arr2_int)) (r2:List Arr2_int) (h:qfw s1=some r2):Con D prog 94 [(.slc (v2v (qap qag) s1))] (.slc (v2v qag r2)):=by
 refine zP call94 func94 rfl ntmps94 fun X w hT=>?_
 simp only [qfw] at h
 refine Ms ?_
 refine M6 ?_
 refine M5 ?_
 obtain ⟨s3,h4,h⟩:=zB h
 refine zO (fun (s:Int×Int)=>⟨[(0,.p (.slc (v2v (qap qag) s1))),(3,.p (.int .i64 s.1)),(9,.p (.slc (v2v (qap qag) s1))),(10,.p (.int .i64 (s1.length:Int))),(11,.p (.int .i64 s.2))],[]⟩) (fun (o5:Int)=>tE (cX Tryz.f94 X w D hT) (.exit 0) ⟨[(0,.p (.slc (v2v (qap qag) s1))),(3,.p (.int .i64 o5))],[]⟩) h4 ?_ ?_
 clear h h4
 intro s x h
 obtain ⟨s6,t7⟩:=s
 simp only [qch] at h
 refine Mb ?_
 obtain ⟨h8,h⟩|⟨h8,h⟩:=zI h
 refine M9 ?_
 obtain ⟨x9,h10,h10a,h10b,h⟩:=zX h
 refine M6 ?_
 refine M6 ?_
 refine M8 ?_
 obtain ⟨h11,h⟩|⟨h11,h⟩:=zI h
 cases h
 refine Mj ?_
 exact M0 h
 exact M2 h
 try simp only at h
 refine Md ?_
 refine zU ?_
 obtain ⟨h12,h⟩:=qab h
 obtain ⟨h13,h⟩:=qab h
 refine zN grw157 24 h12 h13 ?_
 refine M5 ?_
 obtain ⟨n14,h15,h⟩:=zB h
 refine zO (fun (s:List Arr2_int×Int)=>⟨[(6,.own 24 1 0 s.1.length),(25,.p (.slc (v2v (qap qag) s1))),(26,.p (.int .i64 (s1.length:Int))),(27,.p (.int .i64 s.2))],[(24,.arr 108 2 1 (v2v AV.p (v2v qag s.1)))]⟩) (fun (o16:List Arr2_int)=>tE (cX Tryz.f94 X w D hT) (.exit 2) ⟨[(6,.own 24 1 0 o16.length)],[(24,.arr 108 2 1 (v2v AV.p (v2v qag o16)))]⟩) h15 ?_ ?_
 clear h h4 h12 h13 h15
 intro s x h
 obtain ⟨n17,t18⟩:=s
 simp only [qci] at h
 refine Mb ?_
 obtain ⟨h19,h⟩|⟨h19,h⟩:=zI h
 refine M9 ?_
 obtain ⟨x20,h21,h21a,h21b,h⟩:=zX h
 refine Mx ?_
 obtain ⟨h22,h⟩:=qab h
 refine Mh ?_
 exact M0 h
 exact M2 h
 try simp only at h
 refine Md ?_
 exact M3 h results94
theorem qyf (e1:List Arr2_int) (r2:List Arr2_int) (h:qll e1=some r2):Con D prog 95 [(.slc (v2v qag e1))] (.slc (v2v qag r2)):=by
 refine zP call95 func95 rfl ntmps95 fun X w hT=>?_
 simp only [qll] at h
 refine Ms ?_
 refine M6 ?_
 obtain ⟨h3,h⟩:=qab h
 obtain ⟨h4,h⟩:=qab h
 refine M5 ?_
 obtain ⟨o5,h6,h⟩:=zB h
 refine zO (fun (s:List Arr2_int×Int)=>⟨[(3,.own 8 1 0 s.1.length),(9,.p (.slc (v2v qag e1))),(10,.p (.int .i64 (e1.length:Int))),(11,.p (.int .i64 s.2))],[(8,.arr 108 2 1 (v2v AV.p (v2v qag s.1)))]⟩) (fun (o7:List Arr2_int)=>tE (cX Tryz.f95 X w D hT) (.exit 0) ⟨[(3,.own 8 1 0 o7.length)],[(8,.arr 108 2 1 (v2v AV.p (v2v qag o7)))]⟩) h6 ?_ ?_
 clear h h3 h4 h6
 intro s x h
 obtain ⟨o8,t9⟩:=s
 simp only [qit] at h
 refine Mb ?_
 obtain ⟨h10,h⟩|⟨h10,h⟩:=zI h
 refine M9 ?_
 obtain ⟨x11,h12,h12a,h12b,h⟩:=zX h
 refine Mx ?_
 obtain ⟨x13,h14,h14a,h14b,h⟩:=zX h
 refine Mh ?_
 exact M0 h
 exact M2 h
 try simp only at h
 refine Md ?_
 exact M3 h results95
theorem q20 (n1:List (List Int)) (f2:Int) (r3:List Int) (h:qo4 n1 f2=some r3):Con D prog 96 [(.slc (v2v (qap (v65 .i64)) n1)),(.int .i64 f2)] (.slc (v2v (v65 .i64) r3)):=by
 refine zP call96 func96 rfl ntmps96 fun X w hT=>?_
 simp only [qo4] at h
 refine Ms ?_
 refine M6 ?_
 obtain ⟨h4,h⟩:=qab h
 obtain ⟨h5,h⟩:=qab h
 refine T4 ?_
 obtain ⟨l6,h7,h⟩:=zB h
 replace h7:=v3q h7
 refine qq6 (st':=⟨[(0,.p (.slc (v2v (qap (v65 .i64)) n1))),(1,.p (.int .i64 f2)),(5,.own 12 1 0 l6.length)],[(12,.arr 4 1 1 (v2v AV.p (v2v PV.bool l6)))]⟩) (by simp only [go_sem,seval,←h7];all_goals ((repeat' refine v62 ?_ ?_) <;> first | rfl | (simp;done) | (simp;rfl) | (simp [*];done) | (simp [*];rfl))) ?_
 clear h7
 refine zr ?_
 obtain ⟨x8,h9,h9a,h9b,h⟩:=zX h
 refine M6 ?_
 refine M5 ?_
 obtain ⟨o10,h11,h⟩:=zB h
 refine zO (fun (s:List Bool×List Int×Int)=>⟨[(0,.p (.slc (v2v (qap (v65 .i64)) n1))),(5,.own 12 1 0 s.1.length),(6,.own 17 1 0 s.2.1.length),(7,.p (.int .i64 s.2.2))],[(12,.arr 4 1 1 (v2v AV.p (v2v PV.bool s.1))),(17,.arr 3 1 1 (v2v AV.p (v2v (v65 .i64) s.2.1)))]⟩) (fun (o12:List Int)=>tE (cX Tryz.f96 X w D hT) (.exit 0) ⟨[(6,.own 17 1 0 o12.length)],[(17,.arr 3 1 1 (v2v AV.p (v2v (v65 .i64) o12)))]⟩) h11 ?_ ?_
 clear h h4 h5 h9 h9a h9b h11
 intro s x h
 obtain ⟨s13,o14,i15⟩:=s
 simp only [qj8] at h
 refine Mi ?_
 refine M8 ?_
 obtain ⟨h16,h⟩|⟨h16,h⟩:=zI h
 refine M9 ?_
 obtain ⟨x17,h18,h18a,h18b,h⟩:=zX h
 obtain ⟨x19,h20,h20a,h20b,h⟩:=zX h
 refine Mq ?_
 obtain ⟨o21,h22,h⟩:=zB h
 refine zO (fun (s:List Bool×List Int×Int)=>⟨[(0,.p (.slc (v2v (qap (v65 .i64)) n1))),(5,.own 12 1 0 s.1.length),(6,.own 17 1 0 s.2.1.length),(7,.p (.int .i64 i15)),(30,.p (.slc (v2v (v65 .i64) x19))),(31,.p (.int .i64 (x19.length:Int))),(32,.p (.int .i64 s.2.2))],[(12,.arr 4 1 1 (v2v AV.p (v2v PV.bool s.1))),(17,.arr 3 1 1 (v2v AV.p (v2v (v65 .i64) s.2.1)))]⟩) (fun (o23:List Bool×List Int)=>tE (cX Tryz.f96 X w D hT) (.exit 2) ⟨[(0,.p (.slc (v2v (qap (v65 .i64)) n1))),(5,.own 12 1 0 o23.1.length),(6,.own 17 1 0 o23.2.length),(7,.p (.int .i64 i15))],[(12,.arr 4 1 1 (v2v AV.p (v2v PV.bool o23.1))),(17,.arr 3 1 1 (v2v AV.p (v2v (v65 .i64) o23.2)))]⟩) h22 ?_ ?_
 clear h h16 h18 h18a h18b h20 h20a h20b h22
 intro s x h
 obtain ⟨s24,o25,t26⟩:=s
 simp only [qj7] at h
 refine Mb ?_
 obtain ⟨h27,h⟩|⟨h27,h⟩:=zI h
 refine M9 ?_
 obtain ⟨x28,h29,h29a,h29b,h⟩:=zX h
 refine M6 ?_
 obtain ⟨x30,h31,h31a,h31b,h⟩:=zX h
 refine M8 ?_
 obtain ⟨h32,h⟩|⟨h32,h⟩:=zI h
 refine Mj ?_
 exact M0 h
 refine Tl ?_
 refine Mx ?_
 obtain ⟨h33,h⟩:=qab h
 refine Mh ?_
 exact M0 h
 exact M2 h
 obtain ⟨s34,o35⟩:=o21
 try simp only at h
 refine T1 ?_
 exact M0 h
 exact M2 h
 try simp only at h
 refine Md ?_
 refine zU ?_
 refine zM ⟨[(6,.own 17 1 0 o10.length),(49,.own 17 1 0 o10.length)],[(17,.arr 3 1 1 (v2v AV.p (v2v (v65 .i64) o10)))]⟩ ?_
 obtain ⟨l36,h37,h⟩:=zB h
 refine zSI srt45 h37 ?_
 have h38:=q1l h37
 refine zM ⟨[(6,.own 17 1 0 l36.length),(50,.p (.tup []))],[(17,.arr 3 1 1 (v2v AV.p (v2v (v65 .i64) l36)))]⟩ ?_
 clear h38
 refine zl<|zn<|zs<|zr ?_
 exact M3 h results96
theorem qu8 (n1:Int) (e2:List Arr2_int) (r3:List (List Int)×Int) (h:qhf n1 e2=some r3):Con D prog 54 [(.int .i64 n1),(.slc (v2v qag e2))] (.tup [(.slc (v2v (qap (v65 .i64)) r3.1)),(.int .i64 r3.2)]):=by
 refine zP call54 func54 rfl ntmps54 fun X w hT=>?_
 simp only [qhf] at h
 refine Mc ?_
 refine zU ?_
 obtain ⟨r4,h5,h⟩:=zB h
 refine zc (q2z n1 e2 _ h5) ?_
 refine M6 ?_
 refine M8 ?_
 obtain ⟨h6,h⟩|⟨h6,h⟩:=zI h
 exact M1 h results54
 refine Mf ?_
 refine zU ?_
 obtain ⟨r7,h8,h⟩:=zB h
 refine zc (qyf e2 _ h8) ?_
 refine zU ?_
 refine zM ⟨[(0,.p (.int .i64 n1)),(20,.p (.int .i64 n1)),(24,.p (.slc (v2v (qap qag) [e2,r7])))],[]⟩ ?_
 obtain ⟨r9,h10,h⟩:=zB h
 refine zc (qru [e2,r7] _ h10) ?_
 obtain ⟨r11,h12,h⟩:=zB h
 refine zc (qu7 n1 r9 _ h12) ?_
 refine M6 ?_
 obtain ⟨h13,h⟩:=qab h
 obtain ⟨h14,h⟩:=qab h
 refine M6 ?_
 refine M5 ?_
 obtain ⟨o15,h16,h⟩:=zB h
 refine zO (fun (s:List Bool×List (List Int)×Int)=>⟨[(7,.p (.slc (v2v (qap (v65 .i64)) r11))),(8,.own 28 1 0 s.1.length),(9,.own 53 1 0 s.2.1.length),(29,.p (.int .i64 n1)),(30,.p (.int .i64 s.2.2))],[(28,.arr 4 1 1 (v2v AV.p (v2v PV.bool s.1))),(53,.arr 23 1 1 (v2v AV.p (v2v (qap (v65 .i64)) s.2.1)))]⟩) (fun (o17:List (List Int))=>tE (cX Tryz.f54 X w D hT) (.exit 0) ⟨[(9,.own 53 1 0 o17.length)],[(53,.arr 23 1 1 (v2v AV.p (v2v (qap (v65 .i64)) o17)))]⟩) h16 ?_ ?_
 clear h h5 h6 h8 h10 h12 h13 h14 h16
 intro s x h
 obtain ⟨d18,o19,t20⟩:=s
 simp only [qej] at h
 refine Mb ?_
 obtain ⟨h21,h⟩|⟨h21,h⟩:=zI h
 refine M9 ?_
 refine Mo ?_
 obtain ⟨x22,h23,h23a,h23b,h⟩:=zX h
 refine M8 ?_
 obtain ⟨h24,h⟩|⟨h24,h⟩:=zI h
 refine zi<|zx<|ze<|yh<|zn<|zr ?_
 exact M0 h
 refine Mf ?_
 refine zU ?_
 obtain ⟨r25,h26,h⟩:=zB h
 refine zc (q20 r11 t20 _ h26) ?_
 refine M5 ?_
 obtain ⟨d27,h28,h⟩:=zB h
 refine zO (fun (s:List Bool×Int)=>⟨[(7,.p (.slc (v2v (qap (v65 .i64)) r11))),(8,.own 28 1 0 s.1.length),(9,.own 53 1 0 o19.length),(11,.p (.slc (v2v (v65 .i64) r25))),(29,.p (.int .i64 n1)),(30,.p (.int .i64 t20)),(40,.p (.slc (v2v (v65 .i64) r25))),(41,.p (.int .i64 (r25.length:Int))),(42,.p (.int .i64 s.2))],[(28,.arr 4 1 1 (v2v AV.p (v2v PV.bool s.1))),(53,.arr 23 1 1 (v2v AV.p (v2v (qap (v65 .i64)) o19)))]⟩) (fun (o29:List Bool)=>tE (cX Tryz.f54 X w D hT) (.exit 2) ⟨[(7,.p (.slc (v2v (qap (v65 .i64)) r11))),(8,.own 28 1 0 o29.length),(9,.own 53 1 0 o19.length),(11,.p (.slc (v2v (v65 .i64) r25))),(29,.p (.int .i64 n1)),(30,.p (.int .i64 t20))],[(28,.arr 4 1 1 (v2v AV.p (v2v PV.bool o29))),(53,.arr 23 1 1 (v2v AV.p (v2v (qap (v65 .i64)) o19)))]⟩) h28 ?_ ?_
 clear h h21 h23 h23a h23b h24 h26 h28
 intro s x h
 obtain ⟨d30,t31⟩:=s
 simp only [qei] at h
 refine Mb ?_
 obtain ⟨h32,h⟩|⟨h32,h⟩:=zI h
 refine M9 ?_
 obtain ⟨x33,h34,h34a,h34b,h⟩:=zX h
 refine Mx ?_
 obtain ⟨x35,h36,h36a,h36b,h⟩:=zX h
 refine Mh ?_
 exact M0 h
 exact M2 h
 try simp only at h
 refine Tn ?_
 obtain ⟨h37,h⟩:=qab h
 refine Mh ?_
 exact M0 h
 exact M2 h
 try simp only at h
 refine Md ?_
 exact M3 h results54
end Go.Proofs.YtmlegeeinnkhkaaGreat
namespace Go.Proofs
open Go Go.Ab Go.Shelf Tryz
variable {D:Prop}
def YtmlegeeinnkhkaaGreat.clone44_ren:Go.Shelf.Ren:=⟨fun | 41=>44 | n=>n,fun | 22=>23 | 23=>3 | 4=>4 | n=>n,fun | n=>n⟩
theorem YtmlegeeinnkhkaaGreat.clone44:Go.Proofs.SlLaysE0.n41 prog YtmlegeeinnkhkaaGreat.clone44_ren:={
  mixed:=by kernel_rfl
  f41:=⟨f44.name,by decide,func44.trans (congrArg some (by kernel_rfl))⟩
  t4:=underlying4
  a4:=isAgg4
  z4:=sizeOf4
  v4:=zeroValue4
  t22:=underlying23
  a22:=isAgg23
  z22:=sizeOf23
  v22:=zeroValue23 }
def YtmlegeeinnkhkaaGreat.clone124_ren:Go.Shelf.Ren:=⟨fun | 41=>124 | n=>n,fun | 22=>63 | 23=>2 | 4=>4 | n=>n,fun | n=>n⟩
theorem YtmlegeeinnkhkaaGreat.clone124:Go.Proofs.SlLaysE0.n41 prog YtmlegeeinnkhkaaGreat.clone124_ren:={
  mixed:=by kernel_rfl
  f41:=⟨f124.name,by decide,func124.trans (congrArg some (by kernel_rfl))⟩
  t4:=underlying4
  a4:=isAgg4
  z4:=sizeOf4
  v4:=zeroValue4
  t22:=underlying63
  a22:=isAgg63
  z22:=sizeOf63
  v22:=zeroValue63 }
def YtmlegeeinnkhkaaGreat.clone246_ren:Go.Shelf.Ren:=⟨fun | 41=>246 | n=>n,fun | 22=>64 | 23=>142 | 4=>4 | n=>n,fun | n=>n⟩
theorem YtmlegeeinnkhkaaGreat.clone246:Go.Proofs.SlLaysE0.n41 prog YtmlegeeinnkhkaaGreat.clone246_ren:={
  mixed:=by kernel_rfl
  f41:=⟨f246.name,by decide,func246.trans (congrArg some (by kernel_rfl))⟩
  t4:=underlying4
  a4:=isAgg4
  z4:=sizeOf4
  v4:=zeroValue4
  t22:=underlying64
  a22:=isAgg64
  z22:=sizeOf64
  v22:=zeroValue64 }
theorem YtmlegeeinnkhkaaGreat.cln44:Cln prog 44 3 1 8:=AbE.cln YtmlegeeinnkhkaaGreat.clone44 call44 Tryz.t3 _ _ _ (by kernel_rfl) rfl rfl rfl rfl (by decide)
theorem YtmlegeeinnkhkaaGreat.cln124:Cln prog 124 2 1 8:=AbE.cln YtmlegeeinnkhkaaGreat.clone124 call124 Tryz.t2 _ _ _ (by kernel_rfl) rfl rfl rfl rfl (by decide)
theorem YtmlegeeinnkhkaaGreat.cln246:Cln prog 246 142 3 32:=AbE.cln YtmlegeeinnkhkaaGreat.clone246 call246 Tryz.t142 _ _ _ (by kernel_rfl) rfl rfl rfl rfl (by decide)
end Go.Proofs
namespace Go.Proofs.YtmlegeeinnkhkaaGreat
open Go Go.Ab Tryz
variable {D:Prop}
theorem qrv (n1:Int) (l2:List Pair) (r3:Int) (h:qk4 n1 l2=some r3):Con D prog 158 [(.int .i64 n1),(.slc (v2v qa8 l2))] (.int .i64 r3):=by
 refine zP call158 func158 rfl ntmps158 fun X w hT=>?_
 simp only [qk4] at h
 refine Ms ?_
 refine zU<|zl<|zn<|zs<|zb ?_
 obtain ⟨t4,h5,h⟩:=zB h
 refine zJ (fun (o6:Bool)=>tE (cX Tryz.f158 X w D hT) .normal ⟨[(0,.p (.int .i64 n1)),(1,.p (.slc (v2v qa8 l2))),(9,.p (.bool o6))],[]⟩) t4 ?_ ?_
 replace h:=h5
 clear h5
 refine T6 ?_
 obtain ⟨h7,h⟩|⟨h7,h⟩:=zI h
 refine zw 12 true ?_
 refine zh ?_
 exact M0 h
 replace h:=h.symm
 refine zw 12 false ?_
 refine Mr ?_
 exact M0 h
 try simp only at h
 refine zA<|zn ?_
 obtain ⟨h8,h⟩|⟨h8,h⟩:=zI h
 refine Ma ?_
 exact T7 h results158
 refine T5 ?_
 refine M8 ?_
 obtain ⟨h9,h⟩|⟨h9,h⟩:=zI h
 refine Ma ?_
 exact T7 h results158
 refine Tf ?_
 refine M5 ?_
 obtain ⟨o10,h11,h⟩:=zB h
 refine zO (fun (s:(List (Arr2_int×Bool))×Int)=>⟨[(0,.p (.int .i64 n1)),(5,.mapo 20 1),(21,.p (.slc (v2v qa8 l2))),(22,.p (.int .i64 (l2.length:Int))),(23,.p (.int .i64 s.2))],[(20,.map 1 (v2v AV.p (qnk qag s.1)) (v2v AV.p (qn2 PV.bool s.1)))]⟩) (fun (o:(Unit) ⊕ (Int))=>match o with | .inl o12=>tE (cX Tryz.f158 X w D hT) (.exit 1) ⟨[],[]⟩ | .inr o13=>tR prog Tryz.f158 (.int .i64 o13)) h11 ?_ ?_
 clear h h8 h9 h11
 intro s x h
 obtain ⟨s14,t15⟩:=s
 simp only [qjt] at h
 refine Mb ?_
 obtain ⟨h16,h⟩|⟨h16,h⟩:=zI h
 refine M9 ?_
 obtain ⟨x17,h18,h18a,h18b,h⟩:=zX h
 refine M6 ?_
 refine Mo ?_
 refine zU ?_
 obtain ⟨h19,h⟩|⟨h19,h⟩:=zI h
 refine zw 35 true ?_
 refine Mn ?_
 refine zU ?_
 refine Mn ?_
 refine Tg ?_
 refine M8 ?_
 refine Me ?_
 cases h
 exact ⟨rfl,zT results158⟩
 refine zw 35 false ?_
 refine M4 ?_
 refine Mr ?_
 refine zU ?_
 obtain ⟨h20,h⟩|⟨h20,h⟩:=zI h
 refine zw 42 true ?_
 refine Mn ?_
 refine zU ?_
 refine Mn ?_
 refine M8 ?_
 refine Me ?_
 cases h
 exact ⟨rfl,zT results158⟩
 refine zw 42 false ?_
 refine M4 ?_
 refine zg ?_
 refine zU ?_
 obtain ⟨h21,h⟩|⟨h21,h⟩:=zI h
 refine zw 48 true ?_
 refine Mn ?_
 refine Tg ?_
 refine M8 ?_
 refine Me ?_
 cases h
 exact ⟨rfl,zT results158⟩
 refine zw 48 false ?_
 refine M4 ?_
 refine zU ?_
 obtain ⟨h22,h⟩|⟨h22,h⟩:=zI h
 refine zw 53 true ?_
 refine Mn ?_
 refine M8 ?_
 refine Me ?_
 cases h
 exact ⟨rfl,zT results158⟩
 refine zw 53 false ?_
 refine M4 ?_
 refine zU ?_
 obtain ⟨h23,h⟩|⟨h23,h⟩:=zI h
 refine zw 58 true ?_
 refine zh ?_
 refine M8 ?_
 refine Me ?_
 cases h
 exact ⟨rfl,zT results158⟩
 refine zw 58 false ?_
 refine M4 ?_
 refine M8 ?_
 obtain ⟨h24,h⟩|⟨h24,h⟩:=zI h
 refine Me ?_
 cases h
 exact ⟨rfl,zT results158⟩
 refine Td ?_
 refine Mh ?_
 exact M0 h
 exact M2 h
 rcases o10 with ⟨⟩ | r25
 try simp only at h
 refine Md ?_
 exact M3 h results158
 exact M7 h
theorem qyg (n1:Int) (l2:List Pair) (r3:List (List Int)) (h:qlm n1 l2=some r3):Con D prog 159 [(.int .i64 n1),(.slc (v2v qa8 l2))] (.slc (v2v (qap (v65 .i64)) r3)):=by
 refine zP call159 func159 rfl ntmps159 fun X w hT=>?_
 simp only [qlm] at h
 refine Ms ?_
 refine M6 ?_
 obtain ⟨h4,h⟩:=qab h
 obtain ⟨h5,h⟩:=qab h
 refine zW 2 ?_
 refine zM ⟨[(0,.p (.int .i64 n1)),(1,.p (.slc (v2v qa8 l2))),(10,.own 10 1 0 ((v01 (n1).toNat ([]:List Int))).length)],((10,.arr 63 1 1 (qkd 10 2 1 1 (v65 .i64) (v01 (n1).toNat ([]:List Int)))) :: qlc 10 2 1 1 (v65 .i64) (v01 (n1).toNat ([]:List Int)) [])⟩ ?_
 refine M5 ?_
 obtain ⟨w6,h7,h⟩:=zB h
 refine zO (fun (s:List (List Int)×Int)=>⟨[(0,.p (.int .i64 n1)),(1,.p (.slc (v2v qa8 l2))),(5,.own 10 1 0 s.1.length),(12,.p (.int .i64 ((((v01 (n1).toNat ([]:List Int))).length:Nat):Int))),(13,.p (.int .i64 s.2))],((10,.arr 63 1 1 (qkd 10 2 1 1 (v65 .i64) s.1)) :: qlc 10 2 1 1 (v65 .i64) s.1 [])⟩) (fun (o8:List (List Int))=>tE (cX Tryz.f159 X w D hT) (.exit 0) ⟨[(1,.p (.slc (v2v qa8 l2))),(5,.own 10 1 0 o8.length)],((10,.arr 63 1 1 (qkd 10 2 1 1 (v65 .i64) o8)) :: qlc 10 2 1 1 (v65 .i64) o8 [])⟩) h7 ?_ ?_
 clear h h4 h5 h7
 intro s x h
 obtain ⟨w9,t10⟩:=s
 simp only [qiu] at h
 refine Mb ?_
 obtain ⟨h11,h⟩|⟨h11,h⟩:=zI h
 refine M9 ?_
 refine Mx ?_
 obtain ⟨h12,h⟩:=qab h
 obtain ⟨h13,h⟩:=qab h
 obtain ⟨x14,h15,h15a,h15b,h⟩:=zX h
 refine zW 6 ?_
 refine zSw 19 (fx 10 t10.toNat) ?_
 refine zM ⟨[(0,.p (.int .i64 n1)),(1,.p (.slc (v2v qa8 l2))),(5,.own 10 1 0 ((w9.set t10.toNat (v01 (n1).toNat 0))).length),(12,.p (.int .i64 ((((v01 (n1).toNat ([]:List Int))).length:Nat):Int))),(13,.p (.int .i64 t10))],((10,.arr 63 1 1 (qkd 10 2 1 1 (v65 .i64) (w9.set t10.toNat (v01 (n1).toNat 0)))) :: qlc 10 2 1 1 (v65 .i64) (w9.set t10.toNat (v01 (n1).toNat 0)) [])⟩ ?_
 refine T0 ?_
 exact M0 h
 exact M2 h
 try simp only at h
 refine T9 ?_
 refine Mq ?_
 obtain ⟨w16,h17,h⟩:=zB h
 refine zO (fun (s:List (List Int)×Int)=>⟨[(5,.own 10 1 0 s.1.length),(22,.p (.slc (v2v qa8 l2))),(23,.p (.int .i64 (l2.length:Int))),(24,.p (.int .i64 s.2))],((10,.arr 63 1 1 (qkd 10 2 1 1 (v65 .i64) s.1)) :: qlc 10 2 1 1 (v65 .i64) s.1 [])⟩) (fun (o18:List (List Int))=>tE (cX Tryz.f159 X w D hT) (.exit 2) ⟨[(5,.own 10 1 0 o18.length)],((10,.arr 63 1 1 (qkd 10 2 1 1 (v65 .i64) o18)) :: qlc 10 2 1 1 (v65 .i64) o18 [])⟩) h17 ?_ ?_
 clear h h4 h5 h7 h17
 intro s x h
 obtain ⟨w19,t20⟩:=s
 simp only [qiv] at h
 refine Mb ?_
 obtain ⟨h21,h⟩|⟨h21,h⟩:=zI h
 refine M9 ?_
 obtain ⟨x22,h23,h23a,h23b,h⟩:=zX h
 refine M8 ?_
 refine zdl 20 ?_
 obtain ⟨x24,h25,h25a,h25b,h⟩:=zX h
 obtain ⟨x26,h27,h27a,h27b,h⟩:=zX h
 obtain ⟨x28,h29,h29a,h29b,h⟩:=zX h
 refine yU ?_
 refine ydlS ?_
 refine zM ⟨[(5,.own 10 1 0 ((w19.set x22.I.toNat (x24.set x22.K.toNat x22.Weight))).length),(22,.p (.slc (v2v qa8 l2))),(23,.p (.int .i64 (l2.length:Int))),(24,.p (.int .i64 t20)),(39,.own (fx 10 x22.K.toNat) 1 0 x26.length),(41,.p (.int .i64 x22.I)),(45,.p (.int .i64 x22.Weight))],((10,.arr 63 1 1 (qkd 10 2 1 1 (v65 .i64) (w19.set x22.I.toNat (x24.set x22.K.toNat x22.Weight)))) :: qlc 10 2 1 1 (v65 .i64) (w19.set x22.I.toNat (x24.set x22.K.toNat x22.Weight)) [])⟩ ?_
 obtain ⟨x30,h31,h31a,h31b,h⟩:=zX h
 have h31B:=eq_true (by simpa only [v0m] using h31b)
 obtain ⟨x32,h33,h33a,h33b,h⟩:=zX h
 obtain ⟨h34,h⟩:=qab h
 refine zW 2 ?_
 refine zM ⟨[(5,.own 10 1 0 (((w19.set x22.I.toNat (x24.set x22.K.toNat x22.Weight)).set x22.K.toNat (x30.set x22.I.toNat x22.Weight))).length),(22,.p (.slc (v2v qa8 l2))),(23,.p (.int .i64 (l2.length:Int))),(24,.p (.int .i64 t20))],((10,.arr 63 1 1 (qkd 10 2 1 1 (v65 .i64) ((w19.set x22.I.toNat (x24.set x22.K.toNat x22.Weight)).set x22.K.toNat (x30.set x22.I.toNat x22.Weight)))) :: qlc 10 2 1 1 (v65 .i64) ((w19.set x22.I.toNat (x24.set x22.K.toNat x22.Weight)).set x22.K.toNat (x30.set x22.I.toNat x22.Weight)) [])⟩ ?_
 refine T0 ?_
 exact M0 h
 exact M2 h
 try simp only at h
 refine Md ?_
 exact M3 h results159
theorem qje (w1:Int) (t2:Bool) (r3:Int) (h:qey w1 t2=some r3):Con D prog 210 [(.int .i64 w1),(.bool t2)] (.int .i64 r3):=by
 refine zP call210 func210 rfl ntmps210 fun X w hT=>?_
 simp only [qey] at h
 refine Mc ?_
 refine M8 ?_
 obtain ⟨h4,h⟩|⟨h4,h⟩:=zI h
 exact M1 h results210
 refine Mf ?_
 exact M3 h results210
theorem qwq (n1:Int) (l2:List Pair) (r3:List Int×Int×Int) (h:qiw n1 l2=some r3):Con False prog 97 [(.int .i64 n1),(.slc (v2v qa8 l2))] (.tup [(.slc (v2v (v65 .i64) r3.1)),(.int .i64 r3.2.1),(.int .i64 r3.2.2)]):=by
 refine zP call97 func97 rfl ntmps97 fun X w hT=>?_
 simp only [qiw] at h
 refine Mc ?_
 refine zU ?_
 obtain ⟨r4,h5,h⟩:=zB h
 refine zc (qrv n1 l2 _ h5) ?_
 refine M6 ?_
 refine M8 ?_
 obtain ⟨h6,h⟩|⟨h6,h⟩:=zI h
 exact M1 h results97
 have h6F:=v18.2 h6
 refine Mm ?_
 refine M8 ?_
 obtain ⟨h7,h⟩|⟨h7,h⟩:=zI h
 have h7T:=eq_true h7
 exact M1 h results97
 have h7T:=eq_false h7
 refine zj<|zk<|zn<|zs<|zd ?_
 refine yU ?_
 obtain ⟨r8,h9,h⟩:=zB h
 refine yc (qyg n1 l2 _ h9) ?_
 obtain ⟨h10,h⟩:=qab h
 obtain ⟨h11,h⟩:=qab h
 refine Mu ?_
 obtain ⟨o12,h13,h⟩:=zB h
 refine zJ (fun (o14:List Int×Bool×Int×List Int×Int)=>tE (cX Tryz.f97 X w False hT) .normal ⟨[(8,.loc 23 1 0 0)],[(21,.arr 3 1 1 (v2v AV.p (v2v (v65 .i64) o14.1))),(23,.arr 218 4 1 [.agg [.p (.slc (v2v (qap (v65 .i64)) r8)),.own 21 1 0 o14.1.length,(if o14.2.1=true then .p (.slc (v2v (v65 .i64) (o14.2.2.1 :: o14.2.2.2.1))) else .nils),.p (.int .i64 o14.2.2.2.2)]])]⟩) o12 ?_ ?_
 replace h:=h13
 clear h13
 obtain ⟨l15,h16,h⟩:=zB h
 replace h16:=v3q h16
 refine qq6 (st':=⟨[(8,.loc 23 1 0 0)],[(21,.arr 3 1 1 (v2v AV.p (v2v (v65 .i64) l15))),(23,.arr 218 4 1 [.agg [.p (.slc (v2v (qap (v65 .i64)) r8)),.own 21 1 0 l15.length,.nils,.p (.int .i64 0)]])]⟩) (by simp only [go_sem,seval,h6F,h7T,←h16];all_goals ((repeat' refine v62 ?_ ?_) <;> first | rfl | (simp;done) | (simp;rfl) | (simp [*];done) | (simp [*];rfl))) ?_
 clear h16
 refine T6 ?_
 refine zM ⟨[(8,.loc 23 1 0 0),(24,.loc 23 1 0 0)],[(21,.arr 3 1 1 (v2v AV.p (v2v (v65 .i64) l15))),(23,.arr 218 4 1 [.agg [.p (.slc (v2v (qap (v65 .i64)) r8)),.own 21 1 0 l15.length,.nils,.p (.int .i64 0)]])]⟩ ?_
 refine qjq (avs:=[.loc 23 1 0 0,.p (.int .i64 0),.p (.int .i64 0),.p (.int .i64 0)]) 34 rfl (qbf rfl) rfl func160 rfl call160 ntmps160 (by simp) (by simp only [go_sem,seval,h6F,h7T];all_goals rfl) ?_
 intro i17 w18 h19
 show AWp _ _ _ ⟨[(0,.loc 23 1 0 0),(1,.p (.int .i64 0)),(2,.p (.int .i64 0)),(3,.p (.int .i64 0))],[(21,.arr 3 1 1 (v2v AV.p (v2v (v65 .i64) l15))),(23,.arr 218 4 1 [.agg [.p (.slc (v2v (qap (v65 .i64)) r8)),.own 21 1 0 l15.length,.nils,.p (.int .i64 0)]])]⟩
 refine T8 ?_
 refine Tg ?_
 refine M8 ?_
 refine Mm ?_
 refine M8 ?_
 obtain ⟨h20,h⟩|⟨h20,h⟩:=zI h
 refine Mt ?_
 obtain ⟨h21,h⟩:=qab h
 refine zCo cln44 71 (v65 .i64) l15 _ rfl ⟨by unfold maxLen;omega,by omega⟩ ?_
 obtain ⟨x22,h23,h23l,h23L,h⟩:=zY 0 h
 obtain ⟨l24,h25,h⟩:=zB h
 replace h25:=v3q h25
 replace h25:=qwc h25 h23
 refine zM ⟨[(3,.p (.int .i64 0)),(31,.loc 23 1 0 0),(32,.loc 23 1 0 0),(37,.p (.slc (v2v (v65 .i64) (x22 :: l24))))],[(21,.arr 3 1 1 (v2v AV.p (v2v (v65 .i64) l15))),(23,.arr 218 4 1 [.agg [.p (.slc (v2v (qap (v65 .i64)) r8)),.own 21 1 0 l15.length,.nils,.p (.int .i64 0)]])]⟩ ?_
 clear h25
 refine T3 ?_
 refine qih (by simp only [results160];simp only [go_sem,seval,h6F,h7T,h20];exact rfl) ?_
 refine zl ?_
 exact Mv h
 have h20F:=v18.2 h20
 refine Mf ?_
 refine Mq ?_
 obtain ⟨o26,h27,h⟩:=zB h
 refine zO (fun (s:List Int×Bool×Int×List Int×Int×Int)=>⟨[(0,.loc 23 1 0 0),(1,.p (.int .i64 0)),(2,.p (.int .i64 0)),(3,.p (.int .i64 0)),(44,.p (.int .i64 1)),(45,.p (.int .i64 s.2.2.2.2.2))],[(21,.arr 3 1 1 (v2v AV.p (v2v (v65 .i64) s.1))),(23,.arr 218 4 1 [.agg [.p (.slc (v2v (qap (v65 .i64)) r8)),.own 21 1 0 s.1.length,(if s.2.1=true then .p (.slc (v2v (v65 .i64) (s.2.2.1 :: s.2.2.2.1))) else .nils),.p (.int .i64 s.2.2.2.2.1)]])]⟩) (fun (o28:List Int×Bool×Int×List Int×Int)=>tE ⟨prog,94,34,X,[(21,.arr 3 1 1 (v2v AV.p (v2v (v65 .i64) l15))),(23,.arr 218 4 1 [.agg [.p (.slc (v2v (qap (v65 .i64)) r8)),.own 21 1 0 l15.length,.nils,.p (.int .i64 0)]])],i17,w18,False,h19⟩ (.exit 0) ⟨[],[(21,.arr 3 1 1 (v2v AV.p (v2v (v65 .i64) o28.1))),(23,.arr 218 4 1 [.agg [.p (.slc (v2v (qap (v65 .i64)) r8)),.own 21 1 0 o28.1.length,(if o28.2.1=true then .p (.slc (v2v (v65 .i64) (o28.2.2.1 :: o28.2.2.2.1))) else .nils),.p (.int .i64 o28.2.2.2.2)]])]⟩) h27 ?_ ?_
 clear h h5 h6 h6F h7 h7T h9 h10 h11 h20 h20F h27
 intro s x h
 obtain ⟨s29,s30,s31,s32,s33,t34⟩:=s
 simp only [qbs] at h
 refine Mb ?_
 obtain ⟨h35,h⟩|⟨h35,h⟩:=zI h
 have h35T:=eq_true h35
 refine M9 ?_
 refine M6 ?_
 refine M5 ?_
 obtain ⟨o36,h37,h⟩:=zB h
 refine zO (fun (s:Unit)=>⟨[(0,.loc 23 1 0 0),(1,.p (.int .i64 0)),(2,.p (.int .i64 0)),(3,.p (.int .i64 0)),(8,.p (.int .i64 t34)),(9,.p (.int .i64 0)),(44,.p (.int .i64 1)),(45,.p (.int .i64 t34)),(48,.p (.int .i64 0)),(49,.p (.int .i64 0))],[(21,.arr 3 1 1 (v2v AV.p (v2v (v65 .i64) s29))),(23,.arr 218 4 1 [.agg [.p (.slc (v2v (qap (v65 .i64)) r8)),.own 21 1 0 s29.length,(if s30=true then .p (.slc (v2v (v65 .i64) (s31 :: s32))) else .nils),.p (.int .i64 s33)]])]⟩) (fun (o38:Unit)=>tE ⟨prog,94,34,X,[(21,.arr 3 1 1 (v2v AV.p (v2v (v65 .i64) l15))),(23,.arr 218 4 1 [.agg [.p (.slc (v2v (qap (v65 .i64)) r8)),.own 21 1 0 l15.length,.nils,.p (.int .i64 0)]])],i17,w18,False,h19⟩ (.exit 2) ⟨[(0,.loc 23 1 0 0),(1,.p (.int .i64 0)),(2,.p (.int .i64 0)),(3,.p (.int .i64 0)),(8,.p (.int .i64 t34)),(9,.p (.int .i64 0)),(44,.p (.int .i64 1)),(45,.p (.int .i64 t34))],[(21,.arr 3 1 1 (v2v AV.p (v2v (v65 .i64) s29))),(23,.arr 218 4 1 [.agg [.p (.slc (v2v (qap (v65 .i64)) r8)),.own 21 1 0 s29.length,(if s30=true then .p (.slc (v2v (v65 .i64) (s31 :: s32))) else .nils),.p (.int .i64 s33)]])]⟩) h37 ?_ ?_
 clear h h35 h35T h37
 intro s x h
 simp only [qmm] at h
 refine Ms ?_
 refine T4 ?_
 exact M2 h
 cases o36
 try simp only at h
 refine Md ?_
 obtain ⟨x39,h40,h40l,h40L,h⟩:=zY 0 h
 refine Mx ?_
 refine zU ?_
 refine zM ⟨[(0,.loc 23 1 0 0),(1,.p (.int .i64 0)),(2,.p (.int .i64 0)),(3,.p (.int .i64 0)),(44,.p (.int .i64 1)),(45,.p (.int .i64 t34)),(82,.loc 23 1 0 0),(84,.p (.int .i64 1)),(88,.p (.int .i64 (if (v4a.wrap (t34+1)) > 0 then (v4a.wrap (t34+1)) else 0))),(91,.p (.int .i64 0))],[(21,.arr 3 1 1 (v2v AV.p (v2v (v65 .i64) (s29.set 0 t34)))),(23,.arr 218 4 1 [.agg [.p (.slc (v2v (qap (v65 .i64)) r8)),.own 21 1 0 ((s29.set 0 t34)).length,(if s30=true then .p (.slc (v2v (v65 .i64) (s31 :: s32))) else .nils),.p (.int .i64 s33)]])]⟩ ?_
 refine qjq (avs:=[.loc 23 1 0 0,.p (.int .i64 1),.p (.int .i64 (if (v4a.wrap (t34+1)) > 0 then (v4a.wrap (t34+1)) else 0)),.p (.int .i64 0)]) 128 rfl (qbf rfl) rfl func160 rfl call160 ntmps160 (by simp) (by simp only [go_sem,seval,h35T];all_goals rfl) ?_
 intro i41 w42 h43
 obtain ⟨u44,h45,h⟩:=zB h
 replace h45:=v3q h45
 refine qq6 (st':=⟨[(0,.loc 23 1 0 0),(1,.p (.int .i64 1)),(2,.p (.int .i64 u44)),(3,.p (.int .i64 0))],[(21,.arr 3 1 1 (v2v AV.p (v2v (v65 .i64) (s29.set 0 t34)))),(23,.arr 218 4 1 [.agg [.p (.slc (v2v (qap (v65 .i64)) r8)),.own 21 1 0 ((s29.set 0 t34)).length,(if s30=true then .p (.slc (v2v (v65 .i64) (s31 :: s32))) else .nils),.p (.int .i64 s33)]])]⟩) (by simp only [go_sem,seval,h35T,←h45];all_goals ((repeat' refine v62 ?_ ?_) <;> first | rfl | (simp;done) | (simp;rfl) | (simp [*];done) | (simp [*];rfl))) ?_
 clear h45
 obtain ⟨o46,h47,h⟩:=zB h
 refine zJ (fun (o:(Unit) ⊕ (Unit))=>match o with | .inl o48=>tE ⟨prog,94,128,X,[(21,.arr 3 1 1 (v2v AV.p (v2v (v65 .i64) (s29.set 0 t34)))),(23,.arr 218 4 1 [.agg [.p (.slc (v2v (qap (v65 .i64)) r8)),.own 21 1 0 ((s29.set 0 t34)).length,(if s30=true then .p (.slc (v2v (v65 .i64) (s31 :: s32))) else .nils),.p (.int .i64 s33)]])],i41,w42,False,h43⟩ .normal ⟨[(0,.loc 23 1 0 0),(1,.p (.int .i64 1)),(2,.p (.int .i64 u44)),(3,.p (.int .i64 0))],[(21,.arr 3 1 1 (v2v AV.p (v2v (v65 .i64) (s29.set 0 t34)))),(23,.arr 218 4 1 [.agg [.p (.slc (v2v (qap (v65 .i64)) r8)),.own 21 1 0 ((s29.set 0 t34)).length,(if s30=true then .p (.slc (v2v (v65 .i64) (s31 :: s32))) else .nils),.p (.int .i64 s33)]])]⟩ | .inr o49=>tE ⟨prog,94,128,X,[(21,.arr 3 1 1 (v2v AV.p (v2v (v65 .i64) (s29.set 0 t34)))),(23,.arr 218 4 1 [.agg [.p (.slc (v2v (qap (v65 .i64)) r8)),.own 21 1 0 ((s29.set 0 t34)).length,(if s30=true then .p (.slc (v2v (v65 .i64) (s31 :: s32))) else .nils),.p (.int .i64 s33)]])],i41,w42,False,h43⟩ .ret ⟨[],[(21,.arr 3 1 1 (v2v AV.p (v2v (v65 .i64) (s29.set 0 t34)))),(23,.arr 218 4 1 [.agg [.p (.slc (v2v (qap (v65 .i64)) r8)),.own 21 1 0 ((s29.set 0 t34)).length,(if s30=true then .p (.slc (v2v (v65 .i64) (s31 :: s32))) else .nils),.p (.int .i64 s33)]])]⟩) o46 ?_ ?_
 replace h:=h47
 clear h47
 refine Ms ?_
 refine zW 4 ?_
 obtain ⟨h50,h⟩|⟨h50,h⟩:=zI h
 refine zU ?_
 refine M4 ?_
 refine M4 ?_
 refine M8 ?_
 obtain ⟨h51,h⟩|⟨h51,h⟩:=zI h
 refine zi<|zq ?_
 exact Mv h
 refine zj<|zk ?_
 exact Mv h
 refine Tg ?_
 refine M8 ?_
 refine zj<|zk ?_
 exact Mv h
 rcases o46 with ⟨⟩ | ⟨⟩
 try simp only at h
 refine Tq ?_
 refine M8 ?_
 obtain ⟨h52,h⟩|⟨h52,h⟩:=zI h
 refine Mt ?_
 obtain ⟨h53,h⟩:=qab h
 refine zCo cln44 165 (v65 .i64) (s29.set 0 t34) _ rfl ⟨by unfold maxLen;omega,by omega⟩ ?_
 obtain ⟨x54,h55,h55l,h55L,h⟩:=zY 0 h
 obtain ⟨l56,h57,h⟩:=zB h
 replace h57:=v3q h57
 replace h57:=qwc h57 h55
 refine zM ⟨[(3,.p (.int .i64 0)),(31,.loc 23 1 0 0),(32,.loc 23 1 0 0),(37,.p (.slc (v2v (v65 .i64) (x54 :: l56))))],[(21,.arr 3 1 1 (v2v AV.p (v2v (v65 .i64) (s29.set 0 t34)))),(23,.arr 218 4 1 [.agg [.p (.slc (v2v (qap (v65 .i64)) r8)),.own 21 1 0 ((s29.set 0 t34)).length,(if s30=true then .p (.slc (v2v (v65 .i64) (s31 :: s32))) else .nils),.p (.int .i64 s33)]])]⟩ ?_
 clear h57
 refine T3 ?_
 refine qih (by simp only [results160];simp only [go_sem,seval,h35T,h52];exact rfl) ?_
 refine T0 ?_
 exact M0 h
 have h52F:=v18.2 h52
 refine Mf ?_
 refine Mq ?_
 obtain ⟨o58,h59,h⟩:=zB h
 refine zO (fun (s:List Int×Bool×Int×List Int×Int×Int)=>⟨[(0,.loc 23 1 0 0),(1,.p (.int .i64 1)),(2,.p (.int .i64 u44)),(3,.p (.int .i64 0)),(44,.p (.int .i64 (v4a.wrap (u44+1)))),(45,.p (.int .i64 s.2.2.2.2.2))],[(21,.arr 3 1 1 (v2v AV.p (v2v (v65 .i64) s.1))),(23,.arr 218 4 1 [.agg [.p (.slc (v2v (qap (v65 .i64)) r8)),.own 21 1 0 s.1.length,(if s.2.1=true then .p (.slc (v2v (v65 .i64) (s.2.2.1 :: s.2.2.2.1))) else .nils),.p (.int .i64 s.2.2.2.2.1)]])]⟩) (fun (o60:List Int×Bool×Int×List Int×Int)=>tE ⟨prog,94,128,X,[(21,.arr 3 1 1 (v2v AV.p (v2v (v65 .i64) (s29.set 0 t34)))),(23,.arr 218 4 1 [.agg [.p (.slc (v2v (qap (v65 .i64)) r8)),.own 21 1 0 ((s29.set 0 t34)).length,(if s30=true then .p (.slc (v2v (v65 .i64) (s31 :: s32))) else .nils),.p (.int .i64 s33)]])],i41,w42,False,h43⟩ (.exit 0) ⟨[],[(21,.arr 3 1 1 (v2v AV.p (v2v (v65 .i64) o60.1))),(23,.arr 218 4 1 [.agg [.p (.slc (v2v (qap (v65 .i64)) r8)),.own 21 1 0 o60.1.length,(if o60.2.1=true then .p (.slc (v2v (v65 .i64) (o60.2.2.1 :: o60.2.2.2.1))) else .nils),.p (.int .i64 o60.2.2.2.2)]])]⟩) h59 ?_ ?_
 clear h h35 h35T h37 h40 h40l h40L h52 h52F h59
 intro s x h
 obtain ⟨s61,s62,s63,s64,s65,t66⟩:=s
 simp only [qbd] at h
 refine Mb ?_
 obtain ⟨h67,h⟩|⟨h67,h⟩:=zI h
 have h67T:=eq_true h67
 refine M9 ?_
 refine M6 ?_
 refine M5 ?_
 obtain ⟨m68,h69,h⟩:=zB h
 refine zO (fun (s:Int×Int)=>⟨[(0,.loc 23 1 0 0),(1,.p (.int .i64 1)),(2,.p (.int .i64 u44)),(3,.p (.int .i64 0)),(8,.p (.int .i64 t66)),(9,.p (.int .i64 s.1)),(44,.p (.int .i64 (v4a.wrap (u44+1)))),(45,.p (.int .i64 t66)),(48,.p (.int .i64 1)),(49,.p (.int .i64 s.2))],[(21,.arr 3 1 1 (v2v AV.p (v2v (v65 .i64) s61))),(23,.arr 218 4 1 [.agg [.p (.slc (v2v (qap (v65 .i64)) r8)),.own 21 1 0 s61.length,(if s62=true then .p (.slc (v2v (v65 .i64) (s63 :: s64))) else .nils),.p (.int .i64 s65)]])]⟩) (fun (o70:Int)=>tE ⟨prog,94,128,X,[(21,.arr 3 1 1 (v2v AV.p (v2v (v65 .i64) (s29.set 0 t34)))),(23,.arr 218 4 1 [.agg [.p (.slc (v2v (qap (v65 .i64)) r8)),.own 21 1 0 ((s29.set 0 t34)).length,(if s30=true then .p (.slc (v2v (v65 .i64) (s31 :: s32))) else .nils),.p (.int .i64 s33)]])],i41,w42,False,h43⟩ (.exit 2) ⟨[(0,.loc 23 1 0 0),(1,.p (.int .i64 1)),(2,.p (.int .i64 u44)),(3,.p (.int .i64 0)),(8,.p (.int .i64 t66)),(9,.p (.int .i64 o70)),(44,.p (.int .i64 (v4a.wrap (u44+1)))),(45,.p (.int .i64 t66))],[(21,.arr 3 1 1 (v2v AV.p (v2v (v65 .i64) s61))),(23,.arr 218 4 1 [.agg [.p (.slc (v2v (qap (v65 .i64)) r8)),.own 21 1 0 s61.length,(if s62=true then .p (.slc (v2v (v65 .i64) (s63 :: s64))) else .nils),.p (.int .i64 s65)]])]⟩) h69 ?_ ?_
 clear h h67 h67T h69
 intro s x h
 obtain ⟨m71,t72⟩:=s
 simp only [qmn] at h
 refine Mb ?_
 obtain ⟨h73,h⟩|⟨h73,h⟩:=zI h
 refine M9 ?_
 refine Th ?_
 obtain ⟨x74,h75,h75a,h75b,h⟩:=zX h
 obtain ⟨x76,h77,h77l,h77L,h⟩:=zY 1 h
 obtain ⟨x78,h79,h79a,h79b,h⟩:=zX h
 refine yU ?_
 obtain ⟨r80,h81,h⟩:=zB h
 refine yc (qje x76 (x78 == t66) _ h81) ?_
 refine My ?_
 exact M0 h
 exact M2 h
 try simp only at h
 refine Md ?_
 obtain ⟨x82,h83,h83l,h83L,h⟩:=zY 1 h
 refine Mx ?_
 refine zU ?_
 refine zM ⟨[(0,.loc 23 1 0 0),(1,.p (.int .i64 1)),(2,.p (.int .i64 u44)),(3,.p (.int .i64 0)),(44,.p (.int .i64 (v4a.wrap (u44+1)))),(45,.p (.int .i64 t66)),(82,.loc 23 1 0 0),(84,.p (.int .i64 2)),(88,.p (.int .i64 (if (v4a.wrap (t66+1)) > u44 then (v4a.wrap (t66+1)) else u44))),(91,.p (.int .i64 (v4a.wrap (0+m68))))],[(21,.arr 3 1 1 (v2v AV.p (v2v (v65 .i64) (s61.set 1 t66)))),(23,.arr 218 4 1 [.agg [.p (.slc (v2v (qap (v65 .i64)) r8)),.own 21 1 0 ((s61.set 1 t66)).length,(if s62=true then .p (.slc (v2v (v65 .i64) (s63 :: s64))) else .nils),.p (.int .i64 s65)]])]⟩ ?_
 refine qjq (avs:=[.loc 23 1 0 0,.p (.int .i64 2),.p (.int .i64 (if (v4a.wrap (t66+1)) > u44 then (v4a.wrap (t66+1)) else u44)),.p (.int .i64 (v4a.wrap (0+m68)))]) 222 rfl (qbf rfl) rfl func160 rfl call160 ntmps160 (by simp) (by simp only [go_sem,seval,h67T];all_goals rfl) ?_
 intro i84 w85 h86
 obtain ⟨u87,h88,h⟩:=zB h
 replace h88:=v3q h88
 obtain ⟨c89,h90,h⟩:=zB h
 replace h90:=v3q h90
 refine qq6 (st':=⟨[(0,.loc 23 1 0 0),(1,.p (.int .i64 2)),(2,.p (.int .i64 u87)),(3,.p (.int .i64 c89))],[(21,.arr 3 1 1 (v2v AV.p (v2v (v65 .i64) (s61.set 1 t66)))),(23,.arr 218 4 1 [.agg [.p (.slc (v2v (qap (v65 .i64)) r8)),.own 21 1 0 ((s61.set 1 t66)).length,(if s62=true then .p (.slc (v2v (v65 .i64) (s63 :: s64))) else .nils),.p (.int .i64 s65)]])]⟩) (by simp only [go_sem,seval,h67T,←h88,←h90];all_goals ((repeat' refine v62 ?_ ?_) <;> first | rfl | (simp;done) | (simp;rfl) | (simp [*];done) | (simp [*];rfl))) ?_
 clear h88 h90
 obtain ⟨o91,h92,h⟩:=zB h
 refine zJ (fun (o:(Unit) ⊕ (Unit))=>match o with | .inl o93=>tE ⟨prog,94,222,X,[(21,.arr 3 1 1 (v2v AV.p (v2v (v65 .i64) (s61.set 1 t66)))),(23,.arr 218 4 1 [.agg [.p (.slc (v2v (qap (v65 .i64)) r8)),.own 21 1 0 ((s61.set 1 t66)).length,(if s62=true then .p (.slc (v2v (v65 .i64) (s63 :: s64))) else .nils),.p (.int .i64 s65)]])],i84,w85,False,h86⟩ .normal ⟨[(0,.loc 23 1 0 0),(1,.p (.int .i64 2)),(2,.p (.int .i64 u87)),(3,.p (.int .i64 c89))],[(21,.arr 3 1 1 (v2v AV.p (v2v (v65 .i64) (s61.set 1 t66)))),(23,.arr 218 4 1 [.agg [.p (.slc (v2v (qap (v65 .i64)) r8)),.own 21 1 0 ((s61.set 1 t66)).length,(if s62=true then .p (.slc (v2v (v65 .i64) (s63 :: s64))) else .nils),.p (.int .i64 s65)]])]⟩ | .inr o94=>tE ⟨prog,94,222,X,[(21,.arr 3 1 1 (v2v AV.p (v2v (v65 .i64) (s61.set 1 t66)))),(23,.arr 218 4 1 [.agg [.p (.slc (v2v (qap (v65 .i64)) r8)),.own 21 1 0 ((s61.set 1 t66)).length,(if s62=true then .p (.slc (v2v (v65 .i64) (s63 :: s64))) else .nils),.p (.int .i64 s65)]])],i84,w85,False,h86⟩ .ret ⟨[],[(21,.arr 3 1 1 (v2v AV.p (v2v (v65 .i64) (s61.set 1 t66)))),(23,.arr 218 4 1 [.agg [.p (.slc (v2v (qap (v65 .i64)) r8)),.own 21 1 0 ((s61.set 1 t66)).length,(if s62=true then .p (.slc (v2v (v65 .i64) (s63 :: s64))) else .nils),.p (.int .i64 s65)]])]⟩) o91 ?_ ?_
 replace h:=h92
 clear h92
 refine Ms ?_
 refine zW 4 ?_
 obtain ⟨h95,h⟩|⟨h95,h⟩:=zI h
 refine zU ?_
 refine M4 ?_
 refine M4 ?_
 refine M8 ?_
 obtain ⟨h96,h⟩|⟨h96,h⟩:=zI h
 refine zi<|zq ?_
 exact Mv h
 refine zj<|zk ?_
 exact Mv h
 refine Tg ?_
 refine M8 ?_
 refine zj<|zk ?_
 exact Mv h
 rcases o91 with ⟨⟩ | ⟨⟩
 try simp only at h
 refine Tq ?_
 refine M8 ?_
 obtain ⟨h97,h⟩|⟨h97,h⟩:=zI h
 refine Mt ?_
 obtain ⟨h98,h⟩:=qab h
 refine zCo cln44 259 (v65 .i64) (s61.set 1 t66) _ rfl ⟨by unfold maxLen;omega,by omega⟩ ?_
 obtain ⟨x99,h100,h100l,h100L,h⟩:=zY 0 h
 obtain ⟨l101,h102,h⟩:=zB h
 replace h102:=v3q h102
 replace h102:=qwc h102 h100
 refine zM ⟨[(3,.p (.int .i64 c89)),(31,.loc 23 1 0 0),(32,.loc 23 1 0 0),(37,.p (.slc (v2v (v65 .i64) (x99 :: l101))))],[(21,.arr 3 1 1 (v2v AV.p (v2v (v65 .i64) (s61.set 1 t66)))),(23,.arr 218 4 1 [.agg [.p (.slc (v2v (qap (v65 .i64)) r8)),.own 21 1 0 ((s61.set 1 t66)).length,(if s62=true then .p (.slc (v2v (v65 .i64) (s63 :: s64))) else .nils),.p (.int .i64 s65)]])]⟩ ?_
 clear h102
 refine T3 ?_
 refine qih (by simp only [results160];simp only [go_sem,seval,h67T,h97];exact rfl) ?_
 refine T0 ?_
 exact M0 h
 have h97F:=v18.2 h97
 refine Mf ?_
 refine Mq ?_
 obtain ⟨o103,h104,h⟩:=zB h
 refine zO (fun (s:List Int×Bool×Int×List Int×Int×Int)=>⟨[(0,.loc 23 1 0 0),(1,.p (.int .i64 2)),(2,.p (.int .i64 u87)),(3,.p (.int .i64 c89)),(44,.p (.int .i64 (v4a.wrap (u87+1)))),(45,.p (.int .i64 s.2.2.2.2.2))],[(21,.arr 3 1 1 (v2v AV.p (v2v (v65 .i64) s.1))),(23,.arr 218 4 1 [.agg [.p (.slc (v2v (qap (v65 .i64)) r8)),.own 21 1 0 s.1.length,(if s.2.1=true then .p (.slc (v2v (v65 .i64) (s.2.2.1 :: s.2.2.2.1))) else .nils),.p (.int .i64 s.2.2.2.2.1)]])]⟩) (fun (o105:List Int×Bool×Int×List Int×Int)=>tE ⟨prog,94,222,X,[(21,.arr 3 1 1 (v2v AV.p (v2v (v65 .i64) (s61.set 1 t66)))),(23,.arr 218 4 1 [.agg [.p (.slc (v2v (qap (v65 .i64)) r8)),.own 21 1 0 ((s61.set 1 t66)).length,(if s62=true then .p (.slc (v2v (v65 .i64) (s63 :: s64))) else .nils),.p (.int .i64 s65)]])],i84,w85,False,h86⟩ (.exit 0) ⟨[],[(21,.arr 3 1 1 (v2v AV.p (v2v (v65 .i64) o105.1))),(23,.arr 218 4 1 [.agg [.p (.slc (v2v (qap (v65 .i64)) r8)),.own 21 1 0 o105.1.length,(if o105.2.1=true then .p (.slc (v2v (v65 .i64) (o105.2.2.1 :: o105.2.2.2.1))) else .nils),.p (.int .i64 o105.2.2.2.2)]])]⟩) h104 ?_ ?_
 clear h h67 h67T h69 h83 h83l h83L h97 h97F h104
 intro s x h
 obtain ⟨s106,s107,s108,s109,s110,t111⟩:=s
 simp only [qgw] at h
 refine Mb ?_
 obtain ⟨h112,h⟩|⟨h112,h⟩:=zI h
 have h112T:=eq_true h112
 refine M9 ?_
 refine M6 ?_
 refine M5 ?_
 obtain ⟨m113,h114,h⟩:=zB h
 refine zO (fun (s:Int×Int)=>⟨[(0,.loc 23 1 0 0),(1,.p (.int .i64 2)),(2,.p (.int .i64 u87)),(3,.p (.int .i64 c89)),(8,.p (.int .i64 t111)),(9,.p (.int .i64 s.1)),(44,.p (.int .i64 (v4a.wrap (u87+1)))),(45,.p (.int .i64 t111)),(48,.p (.int .i64 2)),(49,.p (.int .i64 s.2))],[(21,.arr 3 1 1 (v2v AV.p (v2v (v65 .i64) s106))),(23,.arr 218 4 1 [.agg [.p (.slc (v2v (qap (v65 .i64)) r8)),.own 21 1 0 s106.length,(if s107=true then .p (.slc (v2v (v65 .i64) (s108 :: s109))) else .nils),.p (.int .i64 s110)]])]⟩) (fun (o115:Int)=>tE ⟨prog,94,222,X,[(21,.arr 3 1 1 (v2v AV.p (v2v (v65 .i64) (s61.set 1 t66)))),(23,.arr 218 4 1 [.agg [.p (.slc (v2v (qap (v65 .i64)) r8)),.own 21 1 0 ((s61.set 1 t66)).length,(if s62=true then .p (.slc (v2v (v65 .i64) (s63 :: s64))) else .nils),.p (.int .i64 s65)]])],i84,w85,False,h86⟩ (.exit 2) ⟨[(0,.loc 23 1 0 0),(1,.p (.int .i64 2)),(2,.p (.int .i64 u87)),(3,.p (.int .i64 c89)),(8,.p (.int .i64 t111)),(9,.p (.int .i64 o115)),(44,.p (.int .i64 (v4a.wrap (u87+1)))),(45,.p (.int .i64 t111))],[(21,.arr 3 1 1 (v2v AV.p (v2v (v65 .i64) s106))),(23,.arr 218 4 1 [.agg [.p (.slc (v2v (qap (v65 .i64)) r8)),.own 21 1 0 s106.length,(if s107=true then .p (.slc (v2v (v65 .i64) (s108 :: s109))) else .nils),.p (.int .i64 s110)]])]⟩) h114 ?_ ?_
 clear h h112 h112T h114
 intro s x h
 obtain ⟨m116,t117⟩:=s
 simp only [qpz] at h
 refine Mb ?_
 obtain ⟨h118,h⟩|⟨h118,h⟩:=zI h
 refine M9 ?_
 refine Th ?_
 obtain ⟨x119,h120,h120a,h120b,h⟩:=zX h
 obtain ⟨x121,h122,h122l,h122L,h⟩:=zY 2 h
 obtain ⟨x123,h124,h124a,h124b,h⟩:=zX h
 refine yU ?_
 obtain ⟨r125,h126,h⟩:=zB h
 refine yc (qje x121 (x123 == t111) _ h126) ?_
 refine My ?_
 exact M0 h
 exact M2 h
 try simp only at h
 refine Md ?_
 obtain ⟨x127,h128,h128l,h128L,h⟩:=zY 2 h
 refine Mx ?_
 refine zU ?_
 refine zM ⟨[(0,.loc 23 1 0 0),(1,.p (.int .i64 2)),(2,.p (.int .i64 u87)),(3,.p (.int .i64 c89)),(44,.p (.int .i64 (v4a.wrap (u87+1)))),(45,.p (.int .i64 t111)),(82,.loc 23 1 0 0),(84,.p (.int .i64 3)),(88,.p (.int .i64 (if (v4a.wrap (t111+1)) > u87 then (v4a.wrap (t111+1)) else u87))),(91,.p (.int .i64 (v4a.wrap (c89+m113))))],[(21,.arr 3 1 1 (v2v AV.p (v2v (v65 .i64) (s106.set 2 t111)))),(23,.arr 218 4 1 [.agg [.p (.slc (v2v (qap (v65 .i64)) r8)),.own 21 1 0 ((s106.set 2 t111)).length,(if s107=true then .p (.slc (v2v (v65 .i64) (s108 :: s109))) else .nils),.p (.int .i64 s110)]])]⟩ ?_
 refine qjq (avs:=[.loc 23 1 0 0,.p (.int .i64 3),.p (.int .i64 (if (v4a.wrap (t111+1)) > u87 then (v4a.wrap (t111+1)) else u87)),.p (.int .i64 (v4a.wrap (c89+m113)))]) 316 rfl (qbf rfl) rfl func160 rfl call160 ntmps160 (by simp) (by simp only [go_sem,seval,h112T];all_goals rfl) ?_
 intro i129 w130 h131
 obtain ⟨u132,h133,h⟩:=zB h
 replace h133:=v3q h133
 obtain ⟨c134,h135,h⟩:=zB h
 replace h135:=v3q h135
 refine qq6 (st':=⟨[(0,.loc 23 1 0 0),(1,.p (.int .i64 3)),(2,.p (.int .i64 u132)),(3,.p (.int .i64 c134))],[(21,.arr 3 1 1 (v2v AV.p (v2v (v65 .i64) (s106.set 2 t111)))),(23,.arr 218 4 1 [.agg [.p (.slc (v2v (qap (v65 .i64)) r8)),.own 21 1 0 ((s106.set 2 t111)).length,(if s107=true then .p (.slc (v2v (v65 .i64) (s108 :: s109))) else .nils),.p (.int .i64 s110)]])]⟩) (by simp only [go_sem,seval,h112T,←h133,←h135];all_goals ((repeat' refine v62 ?_ ?_) <;> first | rfl | (simp;done) | (simp;rfl) | (simp [*];done) | (simp [*];rfl))) ?_
 clear h133 h135
 obtain ⟨o136,h137,h⟩:=zB h
 refine zJ (fun (o:(Unit) ⊕ (Unit))=>match o with | .inl o138=>tE ⟨prog,94,316,X,[(21,.arr 3 1 1 (v2v AV.p (v2v (v65 .i64) (s106.set 2 t111)))),(23,.arr 218 4 1 [.agg [.p (.slc (v2v (qap (v65 .i64)) r8)),.own 21 1 0 ((s106.set 2 t111)).length,(if s107=true then .p (.slc (v2v (v65 .i64) (s108 :: s109))) else .nils),.p (.int .i64 s110)]])],i129,w130,False,h131⟩ .normal ⟨[(0,.loc 23 1 0 0),(1,.p (.int .i64 3)),(2,.p (.int .i64 u132)),(3,.p (.int .i64 c134))],[(21,.arr 3 1 1 (v2v AV.p (v2v (v65 .i64) (s106.set 2 t111)))),(23,.arr 218 4 1 [.agg [.p (.slc (v2v (qap (v65 .i64)) r8)),.own 21 1 0 ((s106.set 2 t111)).length,(if s107=true then .p (.slc (v2v (v65 .i64) (s108 :: s109))) else .nils),.p (.int .i64 s110)]])]⟩ | .inr o139=>tE ⟨prog,94,316,X,[(21,.arr 3 1 1 (v2v AV.p (v2v (v65 .i64) (s106.set 2 t111)))),(23,.arr 218 4 1 [.agg [.p (.slc (v2v (qap (v65 .i64)) r8)),.own 21 1 0 ((s106.set 2 t111)).length,(if s107=true then .p (.slc (v2v (v65 .i64) (s108 :: s109))) else .nils),.p (.int .i64 s110)]])],i129,w130,False,h131⟩ .ret ⟨[],[(21,.arr 3 1 1 (v2v AV.p (v2v (v65 .i64) (s106.set 2 t111)))),(23,.arr 218 4 1 [.agg [.p (.slc (v2v (qap (v65 .i64)) r8)),.own 21 1 0 ((s106.set 2 t111)).length,(if s107=true then .p (.slc (v2v (v65 .i64) (s108 :: s109))) else .nils),.p (.int .i64 s110)]])]⟩) o136 ?_ ?_
 replace h:=h137
 clear h137
 refine Ms ?_
 refine zW 4 ?_
 obtain ⟨h140,h⟩|⟨h140,h⟩:=zI h
 refine zU ?_
 refine M4 ?_
 refine M4 ?_
 refine M8 ?_
 obtain ⟨h141,h⟩|⟨h141,h⟩:=zI h
 refine zi<|zq ?_
 exact Mv h
 refine zj<|zk ?_
 exact Mv h
 refine Tg ?_
 refine M8 ?_
 refine zj<|zk ?_
 exact Mv h
 rcases o136 with ⟨⟩ | ⟨⟩
 try simp only at h
 refine Tq ?_
 refine M8 ?_
 obtain ⟨h142,h⟩|⟨h142,h⟩:=zI h
 refine Mt ?_
 obtain ⟨h143,h⟩:=qab h
 refine zCo cln44 353 (v65 .i64) (s106.set 2 t111) _ rfl ⟨by unfold maxLen;omega,by omega⟩ ?_
 obtain ⟨x144,h145,h145l,h145L,h⟩:=zY 0 h
 obtain ⟨l146,h147,h⟩:=zB h
 replace h147:=v3q h147
 replace h147:=qwc h147 h145
 refine zM ⟨[(3,.p (.int .i64 c134)),(31,.loc 23 1 0 0),(32,.loc 23 1 0 0),(37,.p (.slc (v2v (v65 .i64) (x144 :: l146))))],[(21,.arr 3 1 1 (v2v AV.p (v2v (v65 .i64) (s106.set 2 t111)))),(23,.arr 218 4 1 [.agg [.p (.slc (v2v (qap (v65 .i64)) r8)),.own 21 1 0 ((s106.set 2 t111)).length,(if s107=true then .p (.slc (v2v (v65 .i64) (s108 :: s109))) else .nils),.p (.int .i64 s110)]])]⟩ ?_
 clear h147
 refine T3 ?_
 refine qih (by simp only [results160];simp only [go_sem,seval,h112T,h142];exact rfl) ?_
 refine T0 ?_
 exact M0 h
 have h142F:=v18.2 h142
 refine Mf ?_
 refine Mq ?_
 obtain ⟨o148,h149,h⟩:=zB h
 refine zO (fun (s:List Int×Bool×Int×List Int×Int×Int)=>⟨[(0,.loc 23 1 0 0),(1,.p (.int .i64 3)),(2,.p (.int .i64 u132)),(3,.p (.int .i64 c134)),(44,.p (.int .i64 (v4a.wrap (u132+1)))),(45,.p (.int .i64 s.2.2.2.2.2))],[(21,.arr 3 1 1 (v2v AV.p (v2v (v65 .i64) s.1))),(23,.arr 218 4 1 [.agg [.p (.slc (v2v (qap (v65 .i64)) r8)),.own 21 1 0 s.1.length,(if s.2.1=true then .p (.slc (v2v (v65 .i64) (s.2.2.1 :: s.2.2.2.1))) else .nils),.p (.int .i64 s.2.2.2.2.1)]])]⟩) (fun (o150:List Int×Bool×Int×List Int×Int)=>tE ⟨prog,94,316,X,[(21,.arr 3 1 1 (v2v AV.p (v2v (v65 .i64) (s106.set 2 t111)))),(23,.arr 218 4 1 [.agg [.p (.slc (v2v (qap (v65 .i64)) r8)),.own 21 1 0 ((s106.set 2 t111)).length,(if s107=true then .p (.slc (v2v (v65 .i64) (s108 :: s109))) else .nils),.p (.int .i64 s110)]])],i129,w130,False,h131⟩ (.exit 0) ⟨[],[(21,.arr 3 1 1 (v2v AV.p (v2v (v65 .i64) o150.1))),(23,.arr 218 4 1 [.agg [.p (.slc (v2v (qap (v65 .i64)) r8)),.own 21 1 0 o150.1.length,(if o150.2.1=true then .p (.slc (v2v (v65 .i64) (o150.2.2.1 :: o150.2.2.2.1))) else .nils),.p (.int .i64 o150.2.2.2.2)]])]⟩) h149 ?_ ?_
 clear h h112 h112T h114 h128 h128l h128L h142 h142F h149
 intro s x h
 obtain ⟨s151,s152,s153,s154,s155,t156⟩:=s
 simp only [qgv] at h
 refine Mb ?_
 obtain ⟨h157,h⟩|⟨h157,h⟩:=zI h
 have h157T:=eq_true h157
 refine M9 ?_
 refine M6 ?_
 refine M5 ?_
 obtain ⟨m158,h159,h⟩:=zB h
 refine zO (fun (s:Int×Int)=>⟨[(0,.loc 23 1 0 0),(1,.p (.int .i64 3)),(2,.p (.int .i64 u132)),(3,.p (.int .i64 c134)),(8,.p (.int .i64 t156)),(9,.p (.int .i64 s.1)),(44,.p (.int .i64 (v4a.wrap (u132+1)))),(45,.p (.int .i64 t156)),(48,.p (.int .i64 3)),(49,.p (.int .i64 s.2))],[(21,.arr 3 1 1 (v2v AV.p (v2v (v65 .i64) s151))),(23,.arr 218 4 1 [.agg [.p (.slc (v2v (qap (v65 .i64)) r8)),.own 21 1 0 s151.length,(if s152=true then .p (.slc (v2v (v65 .i64) (s153 :: s154))) else .nils),.p (.int .i64 s155)]])]⟩) (fun (o160:Int)=>tE ⟨prog,94,316,X,[(21,.arr 3 1 1 (v2v AV.p (v2v (v65 .i64) (s106.set 2 t111)))),(23,.arr 218 4 1 [.agg [.p (.slc (v2v (qap (v65 .i64)) r8)),.own 21 1 0 ((s106.set 2 t111)).length,(if s107=true then .p (.slc (v2v (v65 .i64) (s108 :: s109))) else .nils),.p (.int .i64 s110)]])],i129,w130,False,h131⟩ (.exit 2) ⟨[(0,.loc 23 1 0 0),(1,.p (.int .i64 3)),(2,.p (.int .i64 u132)),(3,.p (.int .i64 c134)),(8,.p (.int .i64 t156)),(9,.p (.int .i64 o160)),(44,.p (.int .i64 (v4a.wrap (u132+1)))),(45,.p (.int .i64 t156))],[(21,.arr 3 1 1 (v2v AV.p (v2v (v65 .i64) s151))),(23,.arr 218 4 1 [.agg [.p (.slc (v2v (qap (v65 .i64)) r8)),.own 21 1 0 s151.length,(if s152=true then .p (.slc (v2v (v65 .i64) (s153 :: s154))) else .nils),.p (.int .i64 s155)]])]⟩) h159 ?_ ?_
 clear h h157 h157T h159
 intro s x h
 obtain ⟨m161,t162⟩:=s
 simp only [qp0] at h
 refine Mb ?_
 obtain ⟨h163,h⟩|⟨h163,h⟩:=zI h
 refine M9 ?_
 refine Th ?_
 obtain ⟨x164,h165,h165a,h165b,h⟩:=zX h
 obtain ⟨x166,h167,h167l,h167L,h⟩:=zY 3 h
 obtain ⟨x168,h169,h169a,h169b,h⟩:=zX h
 refine yU ?_
 obtain ⟨r170,h171,h⟩:=zB h
 refine yc (qje x166 (x168 == t156) _ h171) ?_
 refine My ?_
 exact M0 h
 exact M2 h
 try simp only at h
 refine Md ?_
 obtain ⟨x172,h173,h173l,h173L,h⟩:=zY 3 h
 refine Mx ?_
 refine zU ?_
 refine zM ⟨[(0,.loc 23 1 0 0),(1,.p (.int .i64 3)),(2,.p (.int .i64 u132)),(3,.p (.int .i64 c134)),(44,.p (.int .i64 (v4a.wrap (u132+1)))),(45,.p (.int .i64 t156)),(82,.loc 23 1 0 0),(84,.p (.int .i64 4)),(88,.p (.int .i64 (if (v4a.wrap (t156+1)) > u132 then (v4a.wrap (t156+1)) else u132))),(91,.p (.int .i64 (v4a.wrap (c134+m158))))],[(21,.arr 3 1 1 (v2v AV.p (v2v (v65 .i64) (s151.set 3 t156)))),(23,.arr 218 4 1 [.agg [.p (.slc (v2v (qap (v65 .i64)) r8)),.own 21 1 0 ((s151.set 3 t156)).length,(if s152=true then .p (.slc (v2v (v65 .i64) (s153 :: s154))) else .nils),.p (.int .i64 s155)]])]⟩ ?_
 refine qjq (avs:=[.loc 23 1 0 0,.p (.int .i64 4),.p (.int .i64 (if (v4a.wrap (t156+1)) > u132 then (v4a.wrap (t156+1)) else u132)),.p (.int .i64 (v4a.wrap (c134+m158)))]) 410 rfl (qbf rfl) rfl func160 rfl call160 ntmps160 (by simp) (by simp only [go_sem,seval,h157T];all_goals rfl) ?_
 intro i174 w175 h176
 obtain ⟨u177,h178,h⟩:=zB h
 replace h178:=v3q h178
 obtain ⟨c179,h180,h⟩:=zB h
 replace h180:=v3q h180
 refine qq6 (st':=⟨[(0,.loc 23 1 0 0),(1,.p (.int .i64 4)),(2,.p (.int .i64 u177)),(3,.p (.int .i64 c179))],[(21,.arr 3 1 1 (v2v AV.p (v2v (v65 .i64) (s151.set 3 t156)))),(23,.arr 218 4 1 [.agg [.p (.slc (v2v (qap (v65 .i64)) r8)),.own 21 1 0 ((s151.set 3 t156)).length,(if s152=true then .p (.slc (v2v (v65 .i64) (s153 :: s154))) else .nils),.p (.int .i64 s155)]])]⟩) (by simp only [go_sem,seval,h157T,←h178,←h180];all_goals ((repeat' refine v62 ?_ ?_) <;> first | rfl | (simp;done) | (simp;rfl) | (simp [*];done) | (simp [*];rfl))) ?_
 clear h178 h180
 obtain ⟨o181,h182,h⟩:=zB h
 refine zJ (fun (o:(Unit) ⊕ (Unit))=>match o with | .inl o183=>tE ⟨prog,94,410,X,[(21,.arr 3 1 1 (v2v AV.p (v2v (v65 .i64) (s151.set 3 t156)))),(23,.arr 218 4 1 [.agg [.p (.slc (v2v (qap (v65 .i64)) r8)),.own 21 1 0 ((s151.set 3 t156)).length,(if s152=true then .p (.slc (v2v (v65 .i64) (s153 :: s154))) else .nils),.p (.int .i64 s155)]])],i174,w175,False,h176⟩ .normal ⟨[(0,.loc 23 1 0 0),(1,.p (.int .i64 4)),(2,.p (.int .i64 u177)),(3,.p (.int .i64 c179))],[(21,.arr 3 1 1 (v2v AV.p (v2v (v65 .i64) (s151.set 3 t156)))),(23,.arr 218 4 1 [.agg [.p (.slc (v2v (qap (v65 .i64)) r8)),.own 21 1 0 ((s151.set 3 t156)).length,(if s152=true then .p (.slc (v2v (v65 .i64) (s153 :: s154))) else .nils),.p (.int .i64 s155)]])]⟩ | .inr o184=>tE ⟨prog,94,410,X,[(21,.arr 3 1 1 (v2v AV.p (v2v (v65 .i64) (s151.set 3 t156)))),(23,.arr 218 4 1 [.agg [.p (.slc (v2v (qap (v65 .i64)) r8)),.own 21 1 0 ((s151.set 3 t156)).length,(if s152=true then .p (.slc (v2v (v65 .i64) (s153 :: s154))) else .nils),.p (.int .i64 s155)]])],i174,w175,False,h176⟩ .ret ⟨[],[(21,.arr 3 1 1 (v2v AV.p (v2v (v65 .i64) (s151.set 3 t156)))),(23,.arr 218 4 1 [.agg [.p (.slc (v2v (qap (v65 .i64)) r8)),.own 21 1 0 ((s151.set 3 t156)).length,(if s152=true then .p (.slc (v2v (v65 .i64) (s153 :: s154))) else .nils),.p (.int .i64 s155)]])]⟩) o181 ?_ ?_
 replace h:=h182
 clear h182
 refine Ms ?_
 refine zW 4 ?_
 obtain ⟨h185,h⟩|⟨h185,h⟩:=zI h
 refine zU ?_
 refine M4 ?_
 refine M4 ?_
 refine M8 ?_
 obtain ⟨h186,h⟩|⟨h186,h⟩:=zI h
 refine zi<|zq ?_
 exact Mv h
 refine zj<|zk ?_
 exact Mv h
 refine Tg ?_
 refine M8 ?_
 refine zj<|zk ?_
 exact Mv h
 rcases o181 with ⟨⟩ | ⟨⟩
 try simp only at h
 refine Tq ?_
 refine M8 ?_
 obtain ⟨h187,h⟩|⟨h187,h⟩:=zI h
 refine Mt ?_
 obtain ⟨h188,h⟩:=qab h
 refine zCo cln44 447 (v65 .i64) (s151.set 3 t156) _ rfl ⟨by unfold maxLen;omega,by omega⟩ ?_
 obtain ⟨x189,h190,h190l,h190L,h⟩:=zY 0 h
 obtain ⟨l191,h192,h⟩:=zB h
 replace h192:=v3q h192
 replace h192:=qwc h192 h190
 refine zM ⟨[(3,.p (.int .i64 c179)),(31,.loc 23 1 0 0),(32,.loc 23 1 0 0),(37,.p (.slc (v2v (v65 .i64) (x189 :: l191))))],[(21,.arr 3 1 1 (v2v AV.p (v2v (v65 .i64) (s151.set 3 t156)))),(23,.arr 218 4 1 [.agg [.p (.slc (v2v (qap (v65 .i64)) r8)),.own 21 1 0 ((s151.set 3 t156)).length,(if s152=true then .p (.slc (v2v (v65 .i64) (s153 :: s154))) else .nils),.p (.int .i64 s155)]])]⟩ ?_
 clear h192
 refine T3 ?_
 refine qih (by simp only [results160];simp only [go_sem,seval,h157T,h187];exact rfl) ?_
 refine T0 ?_
 exact M0 h
 have h187F:=v18.2 h187
 refine Mf ?_
 refine Mq ?_
 obtain ⟨o193,h194,h⟩:=zB h
 refine zO (fun (s:List Int×Bool×Int×List Int×Int×Int)=>⟨[(0,.loc 23 1 0 0),(1,.p (.int .i64 4)),(2,.p (.int .i64 u177)),(3,.p (.int .i64 c179)),(44,.p (.int .i64 (v4a.wrap (u177+1)))),(45,.p (.int .i64 s.2.2.2.2.2))],[(21,.arr 3 1 1 (v2v AV.p (v2v (v65 .i64) s.1))),(23,.arr 218 4 1 [.agg [.p (.slc (v2v (qap (v65 .i64)) r8)),.own 21 1 0 s.1.length,(if s.2.1=true then .p (.slc (v2v (v65 .i64) (s.2.2.1 :: s.2.2.2.1))) else .nils),.p (.int .i64 s.2.2.2.2.1)]])]⟩) (fun (o195:List Int×Bool×Int×List Int×Int)=>tE ⟨prog,94,410,X,[(21,.arr 3 1 1 (v2v AV.p (v2v (v65 .i64) (s151.set 3 t156)))),(23,.arr 218 4 1 [.agg [.p (.slc (v2v (qap (v65 .i64)) r8)),.own 21 1 0 ((s151.set 3 t156)).length,(if s152=true then .p (.slc (v2v (v65 .i64) (s153 :: s154))) else .nils),.p (.int .i64 s155)]])],i174,w175,False,h176⟩ (.exit 0) ⟨[],[(21,.arr 3 1 1 (v2v AV.p (v2v (v65 .i64) o195.1))),(23,.arr 218 4 1 [.agg [.p (.slc (v2v (qap (v65 .i64)) r8)),.own 21 1 0 o195.1.length,(if o195.2.1=true then .p (.slc (v2v (v65 .i64) (o195.2.2.1 :: o195.2.2.2.1))) else .nils),.p (.int .i64 o195.2.2.2.2)]])]⟩) h194 ?_ ?_
 clear h h157 h157T h159 h173 h173l h173L h187 h187F h194
 intro s x h
 obtain ⟨s196,s197,s198,s199,s200,t201⟩:=s
 simp only [qgu] at h
 refine Mb ?_
 obtain ⟨h202,h⟩|⟨h202,h⟩:=zI h
 have h202T:=eq_true h202
 refine M9 ?_
 refine M6 ?_
 refine M5 ?_
 obtain ⟨m203,h204,h⟩:=zB h
 refine zO (fun (s:Int×Int)=>⟨[(0,.loc 23 1 0 0),(1,.p (.int .i64 4)),(2,.p (.int .i64 u177)),(3,.p (.int .i64 c179)),(8,.p (.int .i64 t201)),(9,.p (.int .i64 s.1)),(44,.p (.int .i64 (v4a.wrap (u177+1)))),(45,.p (.int .i64 t201)),(48,.p (.int .i64 4)),(49,.p (.int .i64 s.2))],[(21,.arr 3 1 1 (v2v AV.p (v2v (v65 .i64) s196))),(23,.arr 218 4 1 [.agg [.p (.slc (v2v (qap (v65 .i64)) r8)),.own 21 1 0 s196.length,(if s197=true then .p (.slc (v2v (v65 .i64) (s198 :: s199))) else .nils),.p (.int .i64 s200)]])]⟩) (fun (o205:Int)=>tE ⟨prog,94,410,X,[(21,.arr 3 1 1 (v2v AV.p (v2v (v65 .i64) (s151.set 3 t156)))),(23,.arr 218 4 1 [.agg [.p (.slc (v2v (qap (v65 .i64)) r8)),.own 21 1 0 ((s151.set 3 t156)).length,(if s152=true then .p (.slc (v2v (v65 .i64) (s153 :: s154))) else .nils),.p (.int .i64 s155)]])],i174,w175,False,h176⟩ (.exit 2) ⟨[(0,.loc 23 1 0 0),(1,.p (.int .i64 4)),(2,.p (.int .i64 u177)),(3,.p (.int .i64 c179)),(8,.p (.int .i64 t201)),(9,.p (.int .i64 o205)),(44,.p (.int .i64 (v4a.wrap (u177+1)))),(45,.p (.int .i64 t201))],[(21,.arr 3 1 1 (v2v AV.p (v2v (v65 .i64) s196))),(23,.arr 218 4 1 [.agg [.p (.slc (v2v (qap (v65 .i64)) r8)),.own 21 1 0 s196.length,(if s197=true then .p (.slc (v2v (v65 .i64) (s198 :: s199))) else .nils),.p (.int .i64 s200)]])]⟩) h204 ?_ ?_
 clear h h202 h202T h204
 intro s x h
 obtain ⟨m206,t207⟩:=s
 simp only [qp1] at h
 refine Mb ?_
 obtain ⟨h208,h⟩|⟨h208,h⟩:=zI h
 refine M9 ?_
 refine Th ?_
 obtain ⟨x209,h210,h210a,h210b,h⟩:=zX h
 obtain ⟨x211,h212,h212l,h212L,h⟩:=zY 4 h
 obtain ⟨x213,h214,h214a,h214b,h⟩:=zX h
 refine yU ?_
 obtain ⟨r215,h216,h⟩:=zB h
 refine yc (qje x211 (x213 == t201) _ h216) ?_
 refine My ?_
 exact M0 h
 exact M2 h
 try simp only at h
 refine Md ?_
 obtain ⟨x217,h218,h218l,h218L,h⟩:=zY 4 h
 refine Mx ?_
 refine zU ?_
 refine zM ⟨[(0,.loc 23 1 0 0),(1,.p (.int .i64 4)),(2,.p (.int .i64 u177)),(3,.p (.int .i64 c179)),(44,.p (.int .i64 (v4a.wrap (u177+1)))),(45,.p (.int .i64 t201)),(82,.loc 23 1 0 0),(84,.p (.int .i64 5)),(88,.p (.int .i64 (if (v4a.wrap (t201+1)) > u177 then (v4a.wrap (t201+1)) else u177))),(91,.p (.int .i64 (v4a.wrap (c179+m203))))],[(21,.arr 3 1 1 (v2v AV.p (v2v (v65 .i64) (s196.set 4 t201)))),(23,.arr 218 4 1 [.agg [.p (.slc (v2v (qap (v65 .i64)) r8)),.own 21 1 0 ((s196.set 4 t201)).length,(if s197=true then .p (.slc (v2v (v65 .i64) (s198 :: s199))) else .nils),.p (.int .i64 s200)]])]⟩ ?_
 refine qjq (avs:=[.loc 23 1 0 0,.p (.int .i64 5),.p (.int .i64 (if (v4a.wrap (t201+1)) > u177 then (v4a.wrap (t201+1)) else u177)),.p (.int .i64 (v4a.wrap (c179+m203)))]) 504 rfl (qbf rfl) rfl func160 rfl call160 ntmps160 (by simp) (by simp only [go_sem,seval,h202T];all_goals rfl) ?_
 intro i219 w220 h221
 obtain ⟨u222,h223,h⟩:=zB h
 replace h223:=v3q h223
 obtain ⟨c224,h225,h⟩:=zB h
 replace h225:=v3q h225
 refine qq6 (st':=⟨[(0,.loc 23 1 0 0),(1,.p (.int .i64 5)),(2,.p (.int .i64 u222)),(3,.p (.int .i64 c224))],[(21,.arr 3 1 1 (v2v AV.p (v2v (v65 .i64) (s196.set 4 t201)))),(23,.arr 218 4 1 [.agg [.p (.slc (v2v (qap (v65 .i64)) r8)),.own 21 1 0 ((s196.set 4 t201)).length,(if s197=true then .p (.slc (v2v (v65 .i64) (s198 :: s199))) else .nils),.p (.int .i64 s200)]])]⟩) (by simp only [go_sem,seval,h202T,←h223,←h225];all_goals ((repeat' refine v62 ?_ ?_) <;> first | rfl | (simp;done) | (simp;rfl) | (simp [*];done) | (simp [*];rfl))) ?_
 clear h223 h225
 obtain ⟨o226,h227,h⟩:=zB h
 refine zJ (fun (o:(Unit) ⊕ (Unit))=>match o with | .inl o228=>tE ⟨prog,94,504,X,[(21,.arr 3 1 1 (v2v AV.p (v2v (v65 .i64) (s196.set 4 t201)))),(23,.arr 218 4 1 [.agg [.p (.slc (v2v (qap (v65 .i64)) r8)),.own 21 1 0 ((s196.set 4 t201)).length,(if s197=true then .p (.slc (v2v (v65 .i64) (s198 :: s199))) else .nils),.p (.int .i64 s200)]])],i219,w220,False,h221⟩ .normal ⟨[(0,.loc 23 1 0 0),(1,.p (.int .i64 5)),(2,.p (.int .i64 u222)),(3,.p (.int .i64 c224))],[(21,.arr 3 1 1 (v2v AV.p (v2v (v65 .i64) (s196.set 4 t201)))),(23,.arr 218 4 1 [.agg [.p (.slc (v2v (qap (v65 .i64)) r8)),.own 21 1 0 ((s196.set 4 t201)).length,(if s197=true then .p (.slc (v2v (v65 .i64) (s198 :: s199))) else .nils),.p (.int .i64 s200)]])]⟩ | .inr o229=>tE ⟨prog,94,504,X,[(21,.arr 3 1 1 (v2v AV.p (v2v (v65 .i64) (s196.set 4 t201)))),(23,.arr 218 4 1 [.agg [.p (.slc (v2v (qap (v65 .i64)) r8)),.own 21 1 0 ((s196.set 4 t201)).length,(if s197=true then .p (.slc (v2v (v65 .i64) (s198 :: s199))) else .nils),.p (.int .i64 s200)]])],i219,w220,False,h221⟩ .ret ⟨[],[(21,.arr 3 1 1 (v2v AV.p (v2v (v65 .i64) (s196.set 4 t201)))),(23,.arr 218 4 1 [.agg [.p (.slc (v2v (qap (v65 .i64)) r8)),.own 21 1 0 ((s196.set 4 t201)).length,(if s197=true then .p (.slc (v2v (v65 .i64) (s198 :: s199))) else .nils),.p (.int .i64 s200)]])]⟩) o226 ?_ ?_
 replace h:=h227
 clear h227
 refine Ms ?_
 refine zW 4 ?_
 obtain ⟨h230,h⟩|⟨h230,h⟩:=zI h
 refine zU ?_
 refine M4 ?_
 refine M4 ?_
 refine M8 ?_
 obtain ⟨h231,h⟩|⟨h231,h⟩:=zI h
 refine zi<|zq ?_
 exact Mv h
 refine zj<|zk ?_
 exact Mv h
 refine Tg ?_
 refine M8 ?_
 refine zj<|zk ?_
 exact Mv h
 rcases o226 with ⟨⟩ | ⟨⟩
 try simp only at h
 refine Tq ?_
 refine M8 ?_
 obtain ⟨h232,h⟩|⟨h232,h⟩:=zI h
 refine Mt ?_
 obtain ⟨h233,h⟩:=qab h
 refine zCo cln44 541 (v65 .i64) (s196.set 4 t201) _ rfl ⟨by unfold maxLen;omega,by omega⟩ ?_
 obtain ⟨x234,h235,h235l,h235L,h⟩:=zY 0 h
 obtain ⟨l236,h237,h⟩:=zB h
 replace h237:=v3q h237
 replace h237:=qwc h237 h235
 refine zM ⟨[(3,.p (.int .i64 c224)),(31,.loc 23 1 0 0),(32,.loc 23 1 0 0),(37,.p (.slc (v2v (v65 .i64) (x234 :: l236))))],[(21,.arr 3 1 1 (v2v AV.p (v2v (v65 .i64) (s196.set 4 t201)))),(23,.arr 218 4 1 [.agg [.p (.slc (v2v (qap (v65 .i64)) r8)),.own 21 1 0 ((s196.set 4 t201)).length,(if s197=true then .p (.slc (v2v (v65 .i64) (s198 :: s199))) else .nils),.p (.int .i64 s200)]])]⟩ ?_
 clear h237
 refine T3 ?_
 refine qih (by simp only [results160];simp only [go_sem,seval,h202T,h232];exact rfl) ?_
 refine T0 ?_
 exact M0 h
 have h232F:=v18.2 h232
 refine Mf ?_
 refine Mq ?_
 obtain ⟨o238,h239,h⟩:=zB h
 refine zO (fun (s:List Int×Bool×Int×List Int×Int×Int)=>⟨[(0,.loc 23 1 0 0),(1,.p (.int .i64 5)),(2,.p (.int .i64 u222)),(3,.p (.int .i64 c224)),(44,.p (.int .i64 (v4a.wrap (u222+1)))),(45,.p (.int .i64 s.2.2.2.2.2))],[(21,.arr 3 1 1 (v2v AV.p (v2v (v65 .i64) s.1))),(23,.arr 218 4 1 [.agg [.p (.slc (v2v (qap (v65 .i64)) r8)),.own 21 1 0 s.1.length,(if s.2.1=true then .p (.slc (v2v (v65 .i64) (s.2.2.1 :: s.2.2.2.1))) else .nils),.p (.int .i64 s.2.2.2.2.1)]])]⟩) (fun (o240:List Int×Bool×Int×List Int×Int)=>tE ⟨prog,94,504,X,[(21,.arr 3 1 1 (v2v AV.p (v2v (v65 .i64) (s196.set 4 t201)))),(23,.arr 218 4 1 [.agg [.p (.slc (v2v (qap (v65 .i64)) r8)),.own 21 1 0 ((s196.set 4 t201)).length,(if s197=true then .p (.slc (v2v (v65 .i64) (s198 :: s199))) else .nils),.p (.int .i64 s200)]])],i219,w220,False,h221⟩ (.exit 0) ⟨[],[(21,.arr 3 1 1 (v2v AV.p (v2v (v65 .i64) o240.1))),(23,.arr 218 4 1 [.agg [.p (.slc (v2v (qap (v65 .i64)) r8)),.own 21 1 0 o240.1.length,(if o240.2.1=true then .p (.slc (v2v (v65 .i64) (o240.2.2.1 :: o240.2.2.2.1))) else .nils),.p (.int .i64 o240.2.2.2.2)]])]⟩) h239 ?_ ?_
 clear h h202 h202T h204 h218 h218l h218L h232 h232F h239
 intro s x h
 obtain ⟨s241,s242,s243,s244,s245,t246⟩:=s
 simp only [qb4] at h
 refine Mb ?_
 obtain ⟨h247,h⟩|⟨h247,h⟩:=zI h
 have h247T:=eq_true h247
 refine M9 ?_
 refine M6 ?_
 refine M5 ?_
 obtain ⟨m248,h249,h⟩:=zB h
 refine zO (fun (s:Int×Int)=>⟨[(0,.loc 23 1 0 0),(1,.p (.int .i64 5)),(2,.p (.int .i64 u222)),(3,.p (.int .i64 c224)),(8,.p (.int .i64 t246)),(9,.p (.int .i64 s.1)),(44,.p (.int .i64 (v4a.wrap (u222+1)))),(45,.p (.int .i64 t246)),(48,.p (.int .i64 5)),(49,.p (.int .i64 s.2))],[(21,.arr 3 1 1 (v2v AV.p (v2v (v65 .i64) s241))),(23,.arr 218 4 1 [.agg [.p (.slc (v2v (qap (v65 .i64)) r8)),.own 21 1 0 s241.length,(if s242=true then .p (.slc (v2v (v65 .i64) (s243 :: s244))) else .nils),.p (.int .i64 s245)]])]⟩) (fun (o250:Int)=>tE ⟨prog,94,504,X,[(21,.arr 3 1 1 (v2v AV.p (v2v (v65 .i64) (s196.set 4 t201)))),(23,.arr 218 4 1 [.agg [.p (.slc (v2v (qap (v65 .i64)) r8)),.own 21 1 0 ((s196.set 4 t201)).length,(if s197=true then .p (.slc (v2v (v65 .i64) (s198 :: s199))) else .nils),.p (.int .i64 s200)]])],i219,w220,False,h221⟩ (.exit 2) ⟨[(0,.loc 23 1 0 0),(1,.p (.int .i64 5)),(2,.p (.int .i64 u222)),(3,.p (.int .i64 c224)),(8,.p (.int .i64 t246)),(9,.p (.int .i64 o250)),(44,.p (.int .i64 (v4a.wrap (u222+1)))),(45,.p (.int .i64 t246))],[(21,.arr 3 1 1 (v2v AV.p (v2v (v65 .i64) s241))),(23,.arr 218 4 1 [.agg [.p (.slc (v2v (qap (v65 .i64)) r8)),.own 21 1 0 s241.length,(if s242=true then .p (.slc (v2v (v65 .i64) (s243 :: s244))) else .nils),.p (.int .i64 s245)]])]⟩) h249 ?_ ?_
 clear h h247 h247T h249
 intro s x h
 obtain ⟨m251,t252⟩:=s
 simp only [qmo] at h
 refine Mb ?_
 obtain ⟨h253,h⟩|⟨h253,h⟩:=zI h
 refine M9 ?_
 refine Th ?_
 obtain ⟨x254,h255,h255a,h255b,h⟩:=zX h
 obtain ⟨x256,h257,h257l,h257L,h⟩:=zY 5 h
 obtain ⟨x258,h259,h259a,h259b,h⟩:=zX h
 refine yU ?_
 obtain ⟨r260,h261,h⟩:=zB h
 refine yc (qje x256 (x258 == t246) _ h261) ?_
 refine My ?_
 exact M0 h
 exact M2 h
 try simp only at h
 refine Md ?_
 obtain ⟨x262,h263,h263l,h263L,h⟩:=zY 5 h
 refine Mx ?_
 refine zU ?_
 refine zM ⟨[(0,.loc 23 1 0 0),(1,.p (.int .i64 5)),(2,.p (.int .i64 u222)),(3,.p (.int .i64 c224)),(44,.p (.int .i64 (v4a.wrap (u222+1)))),(45,.p (.int .i64 t246)),(82,.loc 23 1 0 0),(84,.p (.int .i64 6)),(88,.p (.int .i64 (if (v4a.wrap (t246+1)) > u222 then (v4a.wrap (t246+1)) else u222))),(91,.p (.int .i64 (v4a.wrap (c224+m248))))],[(21,.arr 3 1 1 (v2v AV.p (v2v (v65 .i64) (s241.set 5 t246)))),(23,.arr 218 4 1 [.agg [.p (.slc (v2v (qap (v65 .i64)) r8)),.own 21 1 0 ((s241.set 5 t246)).length,(if s242=true then .p (.slc (v2v (v65 .i64) (s243 :: s244))) else .nils),.p (.int .i64 s245)]])]⟩ ?_
 refine qjq (avs:=[.loc 23 1 0 0,.p (.int .i64 6),.p (.int .i64 (if (v4a.wrap (t246+1)) > u222 then (v4a.wrap (t246+1)) else u222)),.p (.int .i64 (v4a.wrap (c224+m248)))]) 598 rfl (qbf rfl) rfl func160 rfl call160 ntmps160 (by simp) (by simp only [go_sem,seval,h247T];all_goals rfl) ?_
 intro i264 w265 h266
 obtain ⟨u267,h268,h⟩:=zB h
 replace h268:=v3q h268
 obtain ⟨c269,h270,h⟩:=zB h
 replace h270:=v3q h270
 refine qq6 (st':=⟨[(0,.loc 23 1 0 0),(1,.p (.int .i64 6)),(2,.p (.int .i64 u267)),(3,.p (.int .i64 c269))],[(21,.arr 3 1 1 (v2v AV.p (v2v (v65 .i64) (s241.set 5 t246)))),(23,.arr 218 4 1 [.agg [.p (.slc (v2v (qap (v65 .i64)) r8)),.own 21 1 0 ((s241.set 5 t246)).length,(if s242=true then .p (.slc (v2v (v65 .i64) (s243 :: s244))) else .nils),.p (.int .i64 s245)]])]⟩) (by simp only [go_sem,seval,h247T,←h268,←h270];all_goals ((repeat' refine v62 ?_ ?_) <;> first | rfl | (simp;done) | (simp;rfl) | (simp [*];done) | (simp [*];rfl))) ?_
 clear h268 h270
 obtain ⟨o271,h272,h⟩:=zB h
 refine zJ (fun (o:(Unit) ⊕ (Unit))=>match o with | .inl o273=>tE ⟨prog,94,598,X,[(21,.arr 3 1 1 (v2v AV.p (v2v (v65 .i64) (s241.set 5 t246)))),(23,.arr 218 4 1 [.agg [.p (.slc (v2v (qap (v65 .i64)) r8)),.own 21 1 0 ((s241.set 5 t246)).length,(if s242=true then .p (.slc (v2v (v65 .i64) (s243 :: s244))) else .nils),.p (.int .i64 s245)]])],i264,w265,False,h266⟩ .normal ⟨[(0,.loc 23 1 0 0),(1,.p (.int .i64 6)),(2,.p (.int .i64 u267)),(3,.p (.int .i64 c269))],[(21,.arr 3 1 1 (v2v AV.p (v2v (v65 .i64) (s241.set 5 t246)))),(23,.arr 218 4 1 [.agg [.p (.slc (v2v (qap (v65 .i64)) r8)),.own 21 1 0 ((s241.set 5 t246)).length,(if s242=true then .p (.slc (v2v (v65 .i64) (s243 :: s244))) else .nils),.p (.int .i64 s245)]])]⟩ | .inr o274=>tE ⟨prog,94,598,X,[(21,.arr 3 1 1 (v2v AV.p (v2v (v65 .i64) (s241.set 5 t246)))),(23,.arr 218 4 1 [.agg [.p (.slc (v2v (qap (v65 .i64)) r8)),.own 21 1 0 ((s241.set 5 t246)).length,(if s242=true then .p (.slc (v2v (v65 .i64) (s243 :: s244))) else .nils),.p (.int .i64 s245)]])],i264,w265,False,h266⟩ .ret ⟨[],[(21,.arr 3 1 1 (v2v AV.p (v2v (v65 .i64) (s241.set 5 t246)))),(23,.arr 218 4 1 [.agg [.p (.slc (v2v (qap (v65 .i64)) r8)),.own 21 1 0 ((s241.set 5 t246)).length,(if s242=true then .p (.slc (v2v (v65 .i64) (s243 :: s244))) else .nils),.p (.int .i64 s245)]])]⟩) o271 ?_ ?_
 replace h:=h272
 clear h272
 refine Ms ?_
 refine zW 4 ?_
 obtain ⟨h275,h⟩|⟨h275,h⟩:=zI h
 refine zU ?_
 refine M4 ?_
 refine M4 ?_
 refine M8 ?_
 obtain ⟨h276,h⟩|⟨h276,h⟩:=zI h
 refine zi<|zq ?_
 exact Mv h
 refine zj<|zk ?_
 exact Mv h
 refine Tg ?_
 refine M8 ?_
 refine zj<|zk ?_
 exact Mv h
 rcases o271 with ⟨⟩ | ⟨⟩
 try simp only at h
 refine Tq ?_
 refine M8 ?_
 obtain ⟨h277,h⟩|⟨h277,h⟩:=zI h
 refine Mt ?_
 obtain ⟨h278,h⟩:=qab h
 refine zCo cln44 635 (v65 .i64) (s241.set 5 t246) _ rfl ⟨by unfold maxLen;omega,by omega⟩ ?_
 obtain ⟨x279,h280,h280l,h280L,h⟩:=zY 0 h
 obtain ⟨l281,h282,h⟩:=zB h
 replace h282:=v3q h282
 replace h282:=qwc h282 h280
 refine zM ⟨[(3,.p (.int .i64 c269)),(31,.loc 23 1 0 0),(32,.loc 23 1 0 0),(37,.p (.slc (v2v (v65 .i64) (x279 :: l281))))],[(21,.arr 3 1 1 (v2v AV.p (v2v (v65 .i64) (s241.set 5 t246)))),(23,.arr 218 4 1 [.agg [.p (.slc (v2v (qap (v65 .i64)) r8)),.own 21 1 0 ((s241.set 5 t246)).length,(if s242=true then .p (.slc (v2v (v65 .i64) (s243 :: s244))) else .nils),.p (.int .i64 s245)]])]⟩ ?_
 clear h282
 refine T3 ?_
 refine qih (by simp only [results160];simp only [go_sem,seval,h247T,h277];exact rfl) ?_
 refine T0 ?_
 exact M0 h
 have h277F:=v18.2 h277
 refine Mf ?_
 refine Mq ?_
 obtain ⟨o283,h284,h⟩:=zB h
 refine zO (fun (s:Unit)=>⟨[(0,.loc 23 1 0 0),(1,.p (.int .i64 6)),(2,.p (.int .i64 u267)),(3,.p (.int .i64 c269)),(44,.p (.int .i64 (v4a.wrap (u267+1)))),(45,.p (.int .i64 0))],[(21,.arr 3 1 1 (v2v AV.p (v2v (v65 .i64) (s241.set 5 t246)))),(23,.arr 218 4 1 [.agg [.p (.slc (v2v (qap (v65 .i64)) r8)),.own 21 1 0 ((s241.set 5 t246)).length,(if s242=true then .p (.slc (v2v (v65 .i64) (s243 :: s244))) else .nils),.p (.int .i64 s245)]])]⟩) (fun (o285:Unit)=>tE ⟨prog,94,598,X,[(21,.arr 3 1 1 (v2v AV.p (v2v (v65 .i64) (s241.set 5 t246)))),(23,.arr 218 4 1 [.agg [.p (.slc (v2v (qap (v65 .i64)) r8)),.own 21 1 0 ((s241.set 5 t246)).length,(if s242=true then .p (.slc (v2v (v65 .i64) (s243 :: s244))) else .nils),.p (.int .i64 s245)]])],i264,w265,False,h266⟩ (.exit 0) ⟨[],[(21,.arr 3 1 1 (v2v AV.p (v2v (v65 .i64) (s241.set 5 t246)))),(23,.arr 218 4 1 [.agg [.p (.slc (v2v (qap (v65 .i64)) r8)),.own 21 1 0 ((s241.set 5 t246)).length,(if s242=true then .p (.slc (v2v (v65 .i64) (s243 :: s244))) else .nils),.p (.int .i64 s245)]])]⟩) h284 ?_ ?_
 clear h h247 h247T h249 h263 h263l h263L h277 h277F h284
 intro s x h
 simp only [qp2] at h
 refine Ms ?_
 refine T4 ?_
 obtain ⟨h286,h⟩|⟨h286,h⟩:=zI h
 cases h
 exact M2 h
 cases o283
 try simp only at h
 refine zA<|yh ?_
 refine q1h (by simp only [results160];simp only [go_sem,seval,h247T,h277F];exact rfl) ?_
 refine T0 ?_
 exact M0 h
 try simp only at h
 refine zA<|zt ?_
 refine qih (by simp only [results160];simp only [go_sem,seval,h247T];exact rfl) ?_
 refine T0 ?_
 exact M0 h
 have h247T:=eq_false h247
 exact M2 h
 obtain ⟨b287,b288,b289,b290,b291⟩:=o238
 try simp only at h
 refine zA<|yh ?_
 refine q1h (by simp only [results160];simp only [go_sem,seval,h202T,h232F];exact rfl) ?_
 obtain ⟨h292,h⟩:=qab h
 refine zM ⟨[(0,.loc 23 1 0 0),(1,.p (.int .i64 4)),(2,.p (.int .i64 u177)),(3,.p (.int .i64 c179)),(44,.p (.int .i64 (v4a.wrap (u177+1)))),(45,.p (.int .i64 t201)),(92,.p (.tup []))],[(21,.arr 3 1 1 (v2v AV.p (v2v (v65 .i64) b287))),(23,.arr 218 4 1 [.agg [.p (.slc (v2v (qap (v65 .i64)) r8)),.own 21 1 0 b287.length,(if b288=true then .p (.slc (v2v (v65 .i64) (b289 :: b290))) else .nils),.p (.int .i64 b291)]])]⟩ ?_
 clear h292
 refine T0 ?_
 exact M0 h
 try simp only at h
 refine zA<|zt ?_
 refine qih (by simp only [results160];simp only [go_sem,seval,h202T];exact rfl) ?_
 refine T0 ?_
 exact M0 h
 have h202T:=eq_false h202
 exact M2 h
 obtain ⟨b293,b294,b295,b296,b297⟩:=o193
 try simp only at h
 refine zA<|yh ?_
 refine q1h (by simp only [results160];simp only [go_sem,seval,h157T,h187F];exact rfl) ?_
 obtain ⟨h298,h⟩:=qab h
 refine zM ⟨[(0,.loc 23 1 0 0),(1,.p (.int .i64 3)),(2,.p (.int .i64 u132)),(3,.p (.int .i64 c134)),(44,.p (.int .i64 (v4a.wrap (u132+1)))),(45,.p (.int .i64 t156)),(92,.p (.tup []))],[(21,.arr 3 1 1 (v2v AV.p (v2v (v65 .i64) b293))),(23,.arr 218 4 1 [.agg [.p (.slc (v2v (qap (v65 .i64)) r8)),.own 21 1 0 b293.length,(if b294=true then .p (.slc (v2v (v65 .i64) (b295 :: b296))) else .nils),.p (.int .i64 b297)]])]⟩ ?_
 clear h298
 refine T0 ?_
 exact M0 h
 try simp only at h
 refine zA<|zt ?_
 refine qih (by simp only [results160];simp only [go_sem,seval,h157T];exact rfl) ?_
 refine T0 ?_
 exact M0 h
 have h157T:=eq_false h157
 exact M2 h
 obtain ⟨b299,b300,b301,b302,b303⟩:=o148
 try simp only at h
 refine zA<|yh ?_
 refine q1h (by simp only [results160];simp only [go_sem,seval,h112T,h142F];exact rfl) ?_
 obtain ⟨h304,h⟩:=qab h
 refine zM ⟨[(0,.loc 23 1 0 0),(1,.p (.int .i64 2)),(2,.p (.int .i64 u87)),(3,.p (.int .i64 c89)),(44,.p (.int .i64 (v4a.wrap (u87+1)))),(45,.p (.int .i64 t111)),(92,.p (.tup []))],[(21,.arr 3 1 1 (v2v AV.p (v2v (v65 .i64) b299))),(23,.arr 218 4 1 [.agg [.p (.slc (v2v (qap (v65 .i64)) r8)),.own 21 1 0 b299.length,(if b300=true then .p (.slc (v2v (v65 .i64) (b301 :: b302))) else .nils),.p (.int .i64 b303)]])]⟩ ?_
 clear h304
 refine T0 ?_
 exact M0 h
 try simp only at h
 refine zA<|zt ?_
 refine qih (by simp only [results160];simp only [go_sem,seval,h112T];exact rfl) ?_
 refine T0 ?_
 exact M0 h
 have h112T:=eq_false h112
 exact M2 h
 obtain ⟨b305,b306,b307,b308,b309⟩:=o103
 try simp only at h
 refine zA<|yh ?_
 refine q1h (by simp only [results160];simp only [go_sem,seval,h67T,h97F];exact rfl) ?_
 obtain ⟨h310,h⟩:=qab h
 refine zM ⟨[(0,.loc 23 1 0 0),(1,.p (.int .i64 1)),(2,.p (.int .i64 u44)),(3,.p (.int .i64 0)),(44,.p (.int .i64 (v4a.wrap (u44+1)))),(45,.p (.int .i64 t66)),(92,.p (.tup []))],[(21,.arr 3 1 1 (v2v AV.p (v2v (v65 .i64) b305))),(23,.arr 218 4 1 [.agg [.p (.slc (v2v (qap (v65 .i64)) r8)),.own 21 1 0 b305.length,(if b306=true then .p (.slc (v2v (v65 .i64) (b307 :: b308))) else .nils),.p (.int .i64 b309)]])]⟩ ?_
 clear h310
 refine T0 ?_
 exact M0 h
 try simp only at h
 refine zA<|zt ?_
 refine qih (by simp only [results160];simp only [go_sem,seval,h67T];exact rfl) ?_
 refine T0 ?_
 exact M0 h
 have h67T:=eq_false h67
 exact M2 h
 obtain ⟨b311,b312,b313,b314,b315⟩:=o58
 try simp only at h
 refine zA<|yh ?_
 refine q1h (by simp only [results160];simp only [go_sem,seval,h35T,h52F];exact rfl) ?_
 obtain ⟨h316,h⟩:=qab h
 refine zM ⟨[(0,.loc 23 1 0 0),(1,.p (.int .i64 0)),(2,.p (.int .i64 0)),(3,.p (.int .i64 0)),(44,.p (.int .i64 1)),(45,.p (.int .i64 t34)),(92,.p (.tup []))],[(21,.arr 3 1 1 (v2v AV.p (v2v (v65 .i64) b311))),(23,.arr 218 4 1 [.agg [.p (.slc (v2v (qap (v65 .i64)) r8)),.own 21 1 0 b311.length,(if b312=true then .p (.slc (v2v (v65 .i64) (b313 :: b314))) else .nils),.p (.int .i64 b315)]])]⟩ ?_
 clear h316
 refine T0 ?_
 exact M0 h
 try simp only at h
 refine zA<|zt ?_
 refine qih (by simp only [results160];simp only [go_sem,seval,h35T];exact rfl) ?_
 refine T0 ?_
 exact M0 h
 have h35T:=eq_false h35
 exact M2 h
 obtain ⟨b317,b318,b319,b320,b321⟩:=o26
 try simp only at h
 refine zA<|yh ?_
 refine q1h (by simp only [results160];simp only [go_sem,seval,h6F,h7T,h20F];exact rfl) ?_
 obtain ⟨h322,h⟩:=qab h
 refine zM ⟨[(8,.loc 23 1 0 0),(25,.p (.tup []))],[(21,.arr 3 1 1 (v2v AV.p (v2v (v65 .i64) b317))),(23,.arr 218 4 1 [.agg [.p (.slc (v2v (qap (v65 .i64)) r8)),.own 21 1 0 b317.length,(if b318=true then .p (.slc (v2v (v65 .i64) (b319 :: b320))) else .nils),.p (.int .i64 b321)]])]⟩ ?_
 clear h322
 refine zl ?_
 exact Mv h
 obtain ⟨s323,s324,s325,s326,s327⟩:=o12
 try simp only at h
 refine zA<|zn<|zs<|zd ?_
 refine Mu ?_
 obtain ⟨h328,h⟩|⟨h328,h⟩:=zI h
 refine zq ?_
 exact T7 h results97
 refine zq ?_
 exact T7 h results97
theorem qzg (n1:Int) (l2:List Pair) (r3:List Int×Int) (h:qsb n1 l2=some r3):Con D prog 98 [(.int .i64 n1),(.slc (v2v qa8 l2))] (.tup [(.slc (v2v (v65 .i64) r3.1)),(.int .i64 r3.2)]):=by
 refine zP call98 func98 rfl ntmps98 fun X w hT=>?_
 simp only [qsb] at h
 refine Mc ?_
 refine zU ?_
 obtain ⟨r4,h5,h⟩:=zB h
 refine zc (qrv n1 l2 _ h5) ?_
 refine M6 ?_
 refine M8 ?_
 obtain ⟨h6,h⟩|⟨h6,h⟩:=zI h
 exact M1 h results98
 cases h
theorem qqh (l1:List Int) (r2:List Int) (h:qj9 l1=some r2):Con D prog 162 [(.slc (v2v (v65 .i64) l1))] (.slc (v2v (v65 .i64) r2)):=by
 refine zP call162 func162 rfl ntmps162 fun X w hT=>?_
 simp only [qj9] at h
 refine Ms ?_
 refine M6 ?_
 refine M6 ?_
 obtain ⟨h3,h⟩:=qab h
 obtain ⟨h4,h⟩:=qab h
 refine M5 ?_
 obtain ⟨o5,h6,h⟩:=zB h
 refine zO (fun (s:(List (Int×Int))×List Int×Int)=>⟨[(3,.mapo 9 1),(4,.own 12 1 0 s.2.1.length),(13,.p (.slc (v2v (v65 .i64) l1))),(14,.p (.int .i64 (l1.length:Int))),(15,.p (.int .i64 s.2.2))],[(9,.map 1 (v2v AV.p (qnk (v65 .i64) s.1)) (v2v AV.p (qn2 (v65 .i64) s.1))),(12,.arr 3 1 1 (v2v AV.p (v2v (v65 .i64) s.2.1)))]⟩) (fun (o7:List Int)=>tE (cX Tryz.f162 X w D hT) (.exit 0) ⟨[(4,.own 12 1 0 o7.length)],[(12,.arr 3 1 1 (v2v AV.p (v2v (v65 .i64) o7)))]⟩) h6 ?_ ?_
 clear h h3 h4 h6
 intro s x h
 obtain ⟨n8,o9,t10⟩:=s
 simp only [qf8] at h
 refine Mb ?_
 obtain ⟨h11,h⟩|⟨h11,h⟩:=zI h
 refine M9 ?_
 obtain ⟨x12,h13,h13a,h13b,h⟩:=zX h
 refine M6 ?_
 refine Mo ?_
 refine M8 ?_
 obtain ⟨h14,h⟩|⟨h14,h⟩:=zI h
 refine Td ?_
 obtain ⟨x15,h16,h16a,h16b,h⟩:=zX h
 refine Mh ?_
 exact M0 h
 refine Tl ?_
 refine Mx ?_
 refine Mx ?_
 obtain ⟨x17,h18,h18a,h18b,h⟩:=zX h
 refine Mh ?_
 exact M0 h
 exact M2 h
 try simp only at h
 refine Md ?_
 exact M3 h results162
theorem qyh (c1:List Int) (m2:List (Arr2_int×Bool)) (r3:List (List Int)×Int) (h:qln c1 m2=some r3):Con False prog 55 [(.slc (v2v (v65 .i64) c1)),(.mapv (qnk qag m2) (qn2 PV.bool m2))] (.tup [(.slc (v2v (qap (v65 .i64)) r3.1)),(.int .i64 r3.2)]):=by
 refine zP call55 func55 rfl ntmps55 fun X w hT=>?_
 simp only [qln] at h
 refine Ms ?_
 refine M6 ?_
 refine M6 ?_
 refine M5 ?_
 obtain ⟨p4,h5,h⟩:=zB h
 refine zO (fun (s:List Pair×Int)=>⟨[(0,.p (.slc (v2v (v65 .i64) c1))),(1,.p (.mapv (qnk qag m2) (qn2 PV.bool m2))),(6,.p (.int .i64 (c1.length:Int))),(7,.own 48 1 0 s.1.length),(20,.p (.int .i64 (c1.length:Int))),(21,.p (.int .i64 s.2))],[(48,.arr 126 3 1 (v2v AV.p (v2v qa8 s.1)))]⟩) (fun (o6:List Pair)=>tE (cX Tryz.f55 X w False hT) (.exit 0) ⟨[(0,.p (.slc (v2v (v65 .i64) c1))),(6,.p (.int .i64 (c1.length:Int))),(7,.own 48 1 0 o6.length)],[(48,.arr 126 3 1 (v2v AV.p (v2v qa8 o6)))]⟩) h5 ?_ ?_
 clear h h5
 intro s x h
 obtain ⟨p7,t8⟩:=s
 simp only [qga] at h
 refine Mb ?_
 obtain ⟨h9,h⟩|⟨h9,h⟩:=zI h
 refine M9 ?_
 refine M6 ?_
 refine Mq ?_
 obtain ⟨p10,h11,h⟩:=zB h
 refine zO (fun (s:List Pair×Int)=>⟨[(0,.p (.slc (v2v (v65 .i64) c1))),(1,.p (.mapv (qnk qag m2) (qn2 PV.bool m2))),(6,.p (.int .i64 (c1.length:Int))),(7,.own 48 1 0 s.1.length),(8,.p (.int .i64 t8)),(9,.p (.int .i64 s.2)),(20,.p (.int .i64 (c1.length:Int))),(21,.p (.int .i64 t8))],[(48,.arr 126 3 1 (v2v AV.p (v2v qa8 s.1)))]⟩) (fun (o12:List Pair)=>tE (cX Tryz.f55 X w False hT) (.exit 2) ⟨[(0,.p (.slc (v2v (v65 .i64) c1))),(1,.p (.mapv (qnk qag m2) (qn2 PV.bool m2))),(6,.p (.int .i64 (c1.length:Int))),(7,.own 48 1 0 o12.length),(20,.p (.int .i64 (c1.length:Int))),(21,.p (.int .i64 t8))],[(48,.arr 126 3 1 (v2v AV.p (v2v qa8 o12)))]⟩) h11 ?_ ?_
 clear h h9 h11
 intro s x h
 obtain ⟨p13,k14⟩:=s
 simp only [qf9] at h
 refine Mi ?_
 refine M8 ?_
 obtain ⟨h15,h⟩|⟨h15,h⟩:=zI h
 refine M9 ?_
 refine zU<|zl<|zn<|zs<|zs<|zd ?_
 obtain ⟨x16,h17,h17a,h17b,h⟩:=zX h
 obtain ⟨x18,h19,h19a,h19b,h⟩:=zX h
 refine Mu ?_
 obtain ⟨h20,h⟩|⟨h20,h⟩:=zI h
 refine Tc ?_
 refine Mx ?_
 obtain ⟨h21,h⟩:=qab h
 refine Mh ?_
 exact M0 h
 refine Td ?_
 obtain ⟨h22,h⟩:=qab h
 refine Mh ?_
 exact M0 h
 exact M2 h
 try simp only at h
 refine T1 ?_
 exact M0 h
 exact M2 h
 try simp only at h
 refine Md ?_
 refine M6 ?_
 refine Mo ?_
 refine M8 ?_
 obtain ⟨h23,h⟩|⟨h23,h⟩:=zI h
 have h23T:=eq_true h23
 refine Tc ?_
 refine zU ?_
 refine zM ⟨[(0,.p (.slc (v2v (v65 .i64) c1))),(53,.p (.int .i64 (c1.length:Int))),(54,.p (.slc (v2v qa8 p4)))],[]⟩ ?_
 obtain ⟨r24,h25,h⟩:=zB h
 refine zc (qwq (c1.length:Int) p4 _ h25) ?_
 refine Mo ?_
 refine M8 ?_
 obtain ⟨h26,h⟩|⟨h26,h⟩:=zI h
 exact M1 h results55
 have h26F:=v18.2 h26
 refine Mf ?_
 refine zU ?_
 refine zM ⟨[(0,.p (.slc (v2v (v65 .i64) c1))),(68,.p (.slc (v2v (v65 .i64) r24.1)))],[]⟩ ?_
 refine qjq (avs:=[.p (.slc (v2v (v65 .i64) r24.1))]) 93 rfl (qbf rfl) rfl func99 rfl call99 ntmps99 (by simp) (by simp only [go_sem,seval,h23T,h26F];all_goals rfl) ?_
 intro i27 w28 h29
 show AWp _ _ _ ⟨[(0,.p (.slc (v2v (v65 .i64) r24.1)))],[]⟩
 refine Ms ?_
 refine M6 ?_
 refine Mo ?_
 refine zU ?_
 obtain ⟨r30,h31,h⟩:=zB h
 refine zc (qqh r24.1 _ h31) ?_
 refine Mq ?_
 obtain ⟨o32,h33,h⟩:=zB h
 refine zO (fun (s:List (List Int)×Int)=>⟨[(3,.own 113 1 0 s.1.length),(7,.p (.slc (v2v (v65 .i64) r30))),(8,.p (.int .i64 (r30.length:Int))),(9,.p (.int .i64 s.2))],((113,.arr 23 1 1 (qkd 113 3 1 1 (v65 .i64) s.1)) :: qlc 113 3 1 1 (v65 .i64) s.1 [])⟩) (fun (o34:List (List Int))=>tE ⟨prog,33,93,X,[],i27,w28,False,h29⟩ (.exit 0) ⟨[(3,.own 113 1 0 o34.length)],((113,.arr 23 1 1 (qkd 113 3 1 1 (v65 .i64) o34)) :: qlc 113 3 1 1 (v65 .i64) o34 [])⟩) h33 ?_ ?_
 clear h h5 h23 h23T h25 h26 h26F h31 h33
 intro s x h
 obtain ⟨o35,t36⟩:=s
 simp only [qm9] at h
 refine Mb ?_
 obtain ⟨h37,h⟩|⟨h37,h⟩:=zI h
 refine M9 ?_
 obtain ⟨x38,h39,h39a,h39b,h⟩:=zX h
 refine Mo ?_
 refine M8 ?_
 obtain ⟨h40,h⟩|⟨h40,h⟩:=zI h
 refine Tc ?_
 obtain ⟨h41,h⟩:=qab h
 refine zW 3 ?_
 refine zM ⟨[(4,.p (.int .i64 t36)),(5,.p (.int .i64 x38)),(7,.p (.slc (v2v (v65 .i64) r30))),(8,.p (.int .i64 (r30.length:Int))),(9,.p (.int .i64 t36)),(20,.own 113 1 0 (o35.length+1))],((113,.arr 23 1 1 (qkd 113 3 1 1 (v65 .i64) (o35++[[]]))) :: qlc 113 3 1 1 (v65 .i64) (o35++[[]]) [])⟩ ?_
 refine Mx ?_
 obtain ⟨x42,h43,h43a,h43b,h⟩:=zX h
 have hx_7556C:=h43b
 simp only [v0h,v0m,v2p,v0k,Nat.zero_add] at hx_7556C
 obtain ⟨h44,h⟩:=qab h
 refine zW 11 ?_
 refine zM ⟨[(3,.own 113 1 0 (((o35++[[]]).set x38.toNat (x42++[t36]))).length),(7,.p (.slc (v2v (v65 .i64) r30))),(8,.p (.int .i64 (r30.length:Int))),(9,.p (.int .i64 t36))],((113,.arr 23 1 1 (qkd 113 3 1 1 (v65 .i64) ((o35++[[]]).set x38.toNat (x42++[t36])))) :: qlc 113 3 1 1 (v65 .i64) ((o35++[[]]).set x38.toNat (x42++[t36])) [])⟩ ?_
 refine T0 ?_
 exact M0 h
 refine Td ?_
 obtain ⟨x45,h46,h46a,h46b,h⟩:=zX h
 obtain ⟨h47,h⟩:=qab h
 refine zW 11 ?_
 refine zM ⟨[(3,.own 113 1 0 ((o35.set x38.toNat (x45++[t36]))).length),(7,.p (.slc (v2v (v65 .i64) r30))),(8,.p (.int .i64 (r30.length:Int))),(9,.p (.int .i64 t36))],((113,.arr 23 1 1 (qkd 113 3 1 1 (v65 .i64) (o35.set x38.toNat (x45++[t36])))) :: qlc 113 3 1 1 (v65 .i64) (o35.set x38.toNat (x45++[t36])) [])⟩ ?_
 refine T0 ?_
 exact M0 h
 exact M2 h
 try simp only at h
 refine Md ?_
 refine zU<|zl<|zn<|zq ?_
 refine qih (by simp only [results99];simp only [go_sem,seval,h23T,h26F];exact rfl) ?_
 refine M5 ?_
 obtain ⟨g48,h49,h⟩:=zB h
 refine zO (fun (s:List (List Int)×Int)=>⟨[(0,.p (.slc (v2v (v65 .i64) c1))),(13,.own 113 1 0 s.1.length),(70,.own 113 1 0 s.1.length),(71,.p (.int .i64 ((o32.length:Nat):Int))),(72,.p (.int .i64 s.2))],((113,.arr 23 1 1 (qkd 113 3 1 1 (v65 .i64) s.1)) :: qlc 113 3 1 1 (v65 .i64) s.1 [])⟩) (fun (o50:List (List Int))=>tE (cX Tryz.f55 X w False hT) (.exit 4) ⟨[(13,.own 113 1 0 o50.length)],((113,.arr 23 1 1 (qkd 113 3 1 1 (v65 .i64) o50)) :: qlc 113 3 1 1 (v65 .i64) o50 [])⟩) h49 ?_ ?_
 clear h h5 h23 h23T h25 h26 h26F h31 h33 h49
 intro s x h
 obtain ⟨g51,t52⟩:=s
 simp only [qe9] at h
 refine Mb ?_
 obtain ⟨h53,h⟩|⟨h53,h⟩:=zI h
 refine M9 ?_
 obtain ⟨x54,h55,h55a,h55b,h⟩:=zX h
 refine M6 ?_
 refine Mq ?_
 obtain ⟨g56,h57,h⟩:=zB h
 refine zO (fun (s:List (List Int)×Int)=>⟨[(0,.p (.slc (v2v (v65 .i64) c1))),(13,.own 113 1 0 s.1.length),(15,.own (fx 113 t52.toNat) 1 0 x54.length),(70,.own 113 1 0 s.1.length),(71,.p (.int .i64 ((o32.length:Nat):Int))),(72,.p (.int .i64 t52)),(76,.own (fx 113 t52.toNat) 1 0 x54.length),(77,.p (.int .i64 ((x54.length:Nat):Int))),(78,.p (.int .i64 s.2))],((113,.arr 23 1 1 (qkd 113 3 1 1 (v65 .i64) s.1)) :: qlc 113 3 1 1 (v65 .i64) s.1 [])⟩) (fun (o58:List (List Int))=>tE (cX Tryz.f55 X w False hT) (.exit 6) ⟨[(0,.p (.slc (v2v (v65 .i64) c1))),(13,.own 113 1 0 o58.length),(70,.own 113 1 0 o58.length),(71,.p (.int .i64 ((o32.length:Nat):Int))),(72,.p (.int .i64 t52))],((113,.arr 23 1 1 (qkd 113 3 1 1 (v65 .i64) o58)) :: qlc 113 3 1 1 (v65 .i64) o58 [])⟩) h57 ?_ ?_
 clear h h53 h55 h55a h55b h57
 intro s x h
 obtain ⟨g59,t60⟩:=s
 simp only [qix] at h
 refine Mb ?_
 obtain ⟨h61,h⟩|⟨h61,h⟩:=zI h
 refine M9 ?_
 obtain ⟨x62,h63,h63a,h63b,h⟩:=zX h
 obtain ⟨x64,h65,h65a,h65b,h⟩:=zX h
 obtain ⟨h66,h⟩:=qab h
 refine Mx ?_
 obtain ⟨x67,h68,h68a,h68b,h⟩:=zX h
 refine zW 8 ?_
 refine zM ⟨[(0,.p (.slc (v2v (v65 .i64) c1))),(13,.own 113 1 0 ((g59.set t52.toNat (x62.set t60.toNat x67))).length),(15,.own (fx 113 t52.toNat) 1 0 x54.length),(70,.own 113 1 0 ((g59.set t52.toNat (x62.set t60.toNat x67))).length),(71,.p (.int .i64 ((o32.length:Nat):Int))),(72,.p (.int .i64 t52)),(76,.own (fx 113 t52.toNat) 1 0 x54.length),(77,.p (.int .i64 ((x54.length:Nat):Int))),(78,.p (.int .i64 t60))],((113,.arr 23 1 1 (qkd 113 3 1 1 (v65 .i64) (g59.set t52.toNat (x62.set t60.toNat x67)))) :: qlc 113 3 1 1 (v65 .i64) (g59.set t52.toNat (x62.set t60.toNat x67)) [])⟩ ?_
 refine T0 ?_
 exact M0 h
 exact M2 h
 try simp only at h
 refine T1 ?_
 exact M0 h
 exact M2 h
 try simp only at h
 refine Md ?_
 exact M3 h results55
 have h23T:=eq_false h23
 refine zj<|zr ?_
 refine zU ?_
 refine zM ⟨[(0,.p (.slc (v2v (v65 .i64) c1))),(60,.p (.int .i64 (c1.length:Int))),(61,.p (.slc (v2v qa8 p4)))],[]⟩ ?_
 obtain ⟨r69,h70,h⟩:=zB h
 refine zc (qzg (c1.length:Int) p4 _ h70) ?_
 refine Mo ?_
 refine M8 ?_
 obtain ⟨h71,h⟩|⟨h71,h⟩:=zI h
 exact M1 h results55
 have h71F:=v18.2 h71
 refine Mf ?_
 refine zU ?_
 refine zM ⟨[(0,.p (.slc (v2v (v65 .i64) c1))),(68,.p (.slc (v2v (v65 .i64) r69.1)))],[]⟩ ?_
 refine qjq (avs:=[.p (.slc (v2v (v65 .i64) r69.1))]) 126 rfl (qbf rfl) rfl func99 rfl call99 ntmps99 (by simp) (by simp only [go_sem,seval,h23T,h71F];all_goals rfl) ?_
 intro i72 w73 h74
 show AWp _ _ _ ⟨[(0,.p (.slc (v2v (v65 .i64) r69.1)))],[]⟩
 refine Ms ?_
 refine M6 ?_
 refine Mo ?_
 refine zU ?_
 obtain ⟨r75,h76,h⟩:=zB h
 refine zc (qqh r69.1 _ h76) ?_
 refine Mq ?_
 obtain ⟨o77,h78,h⟩:=zB h
 refine zO (fun (s:List (List Int)×Int)=>⟨[(3,.own 146 1 0 s.1.length),(7,.p (.slc (v2v (v65 .i64) r75))),(8,.p (.int .i64 (r75.length:Int))),(9,.p (.int .i64 s.2))],((146,.arr 23 1 1 (qkd 146 3 1 1 (v65 .i64) s.1)) :: qlc 146 3 1 1 (v65 .i64) s.1 [])⟩) (fun (o79:List (List Int))=>tE ⟨prog,33,126,X,[],i72,w73,False,h74⟩ (.exit 0) ⟨[(3,.own 146 1 0 o79.length)],((146,.arr 23 1 1 (qkd 146 3 1 1 (v65 .i64) o79)) :: qlc 146 3 1 1 (v65 .i64) o79 [])⟩) h78 ?_ ?_
 clear h h5 h23 h23T h70 h71 h71F h76 h78
 intro s x h
 obtain ⟨o80,t81⟩:=s
 simp only [qp3] at h
 refine Mb ?_
 obtain ⟨h82,h⟩|⟨h82,h⟩:=zI h
 refine M9 ?_
 obtain ⟨x83,h84,h84a,h84b,h⟩:=zX h
 refine Mo ?_
 refine M8 ?_
 obtain ⟨h85,h⟩|⟨h85,h⟩:=zI h
 refine Tc ?_
 obtain ⟨h86,h⟩:=qab h
 refine zW 3 ?_
 refine zM ⟨[(4,.p (.int .i64 t81)),(5,.p (.int .i64 x83)),(7,.p (.slc (v2v (v65 .i64) r75))),(8,.p (.int .i64 (r75.length:Int))),(9,.p (.int .i64 t81)),(20,.own 146 1 0 (o80.length+1))],((146,.arr 23 1 1 (qkd 146 3 1 1 (v65 .i64) (o80++[[]]))) :: qlc 146 3 1 1 (v65 .i64) (o80++[[]]) [])⟩ ?_
 refine Mx ?_
 obtain ⟨x87,h88,h88a,h88b,h⟩:=zX h
 have hx_7831C:=h88b
 simp only [v0h,v0m,v2p,v0k,Nat.zero_add] at hx_7831C
 obtain ⟨h89,h⟩:=qab h
 refine zW 11 ?_
 refine zM ⟨[(3,.own 146 1 0 (((o80++[[]]).set x83.toNat (x87++[t81]))).length),(7,.p (.slc (v2v (v65 .i64) r75))),(8,.p (.int .i64 (r75.length:Int))),(9,.p (.int .i64 t81))],((146,.arr 23 1 1 (qkd 146 3 1 1 (v65 .i64) ((o80++[[]]).set x83.toNat (x87++[t81])))) :: qlc 146 3 1 1 (v65 .i64) ((o80++[[]]).set x83.toNat (x87++[t81])) [])⟩ ?_
 refine T0 ?_
 exact M0 h
 refine Td ?_
 obtain ⟨x90,h91,h91a,h91b,h⟩:=zX h
 obtain ⟨h92,h⟩:=qab h
 refine zW 11 ?_
 refine zM ⟨[(3,.own 146 1 0 ((o80.set x83.toNat (x90++[t81]))).length),(7,.p (.slc (v2v (v65 .i64) r75))),(8,.p (.int .i64 (r75.length:Int))),(9,.p (.int .i64 t81))],((146,.arr 23 1 1 (qkd 146 3 1 1 (v65 .i64) (o80.set x83.toNat (x90++[t81])))) :: qlc 146 3 1 1 (v65 .i64) (o80.set x83.toNat (x90++[t81])) [])⟩ ?_
 refine T0 ?_
 exact M0 h
 exact M2 h
 try simp only at h
 refine Md ?_
 refine zU<|zl<|zn<|zq ?_
 refine qih (by simp only [results99];simp only [go_sem,seval,h23T,h71F];exact rfl) ?_
 refine M5 ?_
 obtain ⟨g93,h94,h⟩:=zB h
 refine zO (fun (s:List (List Int)×Int)=>⟨[(0,.p (.slc (v2v (v65 .i64) c1))),(13,.own 146 1 0 s.1.length),(70,.own 146 1 0 s.1.length),(71,.p (.int .i64 ((o77.length:Nat):Int))),(72,.p (.int .i64 s.2))],((146,.arr 23 1 1 (qkd 146 3 1 1 (v65 .i64) s.1)) :: qlc 146 3 1 1 (v65 .i64) s.1 [])⟩) (fun (o95:List (List Int))=>tE (cX Tryz.f55 X w False hT) (.exit 4) ⟨[(13,.own 146 1 0 o95.length)],((146,.arr 23 1 1 (qkd 146 3 1 1 (v65 .i64) o95)) :: qlc 146 3 1 1 (v65 .i64) o95 [])⟩) h94 ?_ ?_
 clear h h5 h23 h23T h70 h71 h71F h76 h78 h94
 intro s x h
 obtain ⟨g96,t97⟩:=s
 simp only [qp5] at h
 refine Mb ?_
 obtain ⟨h98,h⟩|⟨h98,h⟩:=zI h
 refine M9 ?_
 obtain ⟨x99,h100,h100a,h100b,h⟩:=zX h
 refine M6 ?_
 refine Mq ?_
 obtain ⟨g101,h102,h⟩:=zB h
 refine zO (fun (s:List (List Int)×Int)=>⟨[(0,.p (.slc (v2v (v65 .i64) c1))),(13,.own 146 1 0 s.1.length),(15,.own (fx 146 t97.toNat) 1 0 x99.length),(70,.own 146 1 0 s.1.length),(71,.p (.int .i64 ((o77.length:Nat):Int))),(72,.p (.int .i64 t97)),(76,.own (fx 146 t97.toNat) 1 0 x99.length),(77,.p (.int .i64 ((x99.length:Nat):Int))),(78,.p (.int .i64 s.2))],((146,.arr 23 1 1 (qkd 146 3 1 1 (v65 .i64) s.1)) :: qlc 146 3 1 1 (v65 .i64) s.1 [])⟩) (fun (o103:List (List Int))=>tE (cX Tryz.f55 X w False hT) (.exit 6) ⟨[(0,.p (.slc (v2v (v65 .i64) c1))),(13,.own 146 1 0 o103.length),(70,.own 146 1 0 o103.length),(71,.p (.int .i64 ((o77.length:Nat):Int))),(72,.p (.int .i64 t97))],((146,.arr 23 1 1 (qkd 146 3 1 1 (v65 .i64) o103)) :: qlc 146 3 1 1 (v65 .i64) o103 [])⟩) h102 ?_ ?_
 clear h h98 h100 h100a h100b h102
 intro s x h
 obtain ⟨g104,t105⟩:=s
 simp only [qp4] at h
 refine Mb ?_
 obtain ⟨h106,h⟩|⟨h106,h⟩:=zI h
 refine M9 ?_
 obtain ⟨x107,h108,h108a,h108b,h⟩:=zX h
 obtain ⟨x109,h110,h110a,h110b,h⟩:=zX h
 obtain ⟨h111,h⟩:=qab h
 refine Mx ?_
 obtain ⟨x112,h113,h113a,h113b,h⟩:=zX h
 refine zW 8 ?_
 refine zM ⟨[(0,.p (.slc (v2v (v65 .i64) c1))),(13,.own 146 1 0 ((g104.set t97.toNat (x107.set t105.toNat x112))).length),(15,.own (fx 146 t97.toNat) 1 0 x99.length),(70,.own 146 1 0 ((g104.set t97.toNat (x107.set t105.toNat x112))).length),(71,.p (.int .i64 ((o77.length:Nat):Int))),(72,.p (.int .i64 t97)),(76,.own (fx 146 t97.toNat) 1 0 x99.length),(77,.p (.int .i64 ((x99.length:Nat):Int))),(78,.p (.int .i64 t105))],((146,.arr 23 1 1 (qkd 146 3 1 1 (v65 .i64) (g104.set t97.toNat (x107.set t105.toNat x112)))) :: qlc 146 3 1 1 (v65 .i64) (g104.set t97.toNat (x107.set t105.toNat x112)) [])⟩ ?_
 refine T0 ?_
 exact M0 h
 exact M2 h
 try simp only at h
 refine T1 ?_
 exact M0 h
 exact M2 h
 try simp only at h
 refine Md ?_
 exact M3 h results55
theorem qpe (x1:Int) (r2:Bool) (h:qkl x1=some r2):Con D prog 171 [(.int .i64 x1)] (.bool r2):=by
 refine zP call171 func171 rfl ntmps171 fun X w hT=>?_
 simp only [qkl] at h
 refine Ms ?_
 refine M6 ?_
 exact M3 h results171
theorem qk0 (x1:Int) (y2:Int) (r3:Int) (h:qek x1 y2=some r3):Con D prog 101 [(.int .i64 x1),(.int .i64 y2)] (.int .i64 r3):=by
 refine zP call101 func101 rfl ntmps101 fun X w hT=>?_
 simp only [qek] at h
 refine Ms ?_
 refine M6 ?_
 refine zU ?_
 obtain ⟨r4,h5,h⟩:=zB h
 refine zc (qpe x1 _ h5) ?_
 refine M6 ?_
 refine zU ?_
 obtain ⟨r6,h7,h⟩:=zB h
 refine zc (qpe y2 _ h7) ?_
 refine Mo ?_
 refine M8 ?_
 obtain ⟨h8,h⟩|⟨h8,h⟩:=zI h
 refine zi<|zs<|zs<|zr ?_
 refine M8 ?_
 obtain ⟨h9,h⟩|⟨h9,h⟩:=zI h
 refine Tl ?_
 refine zU<|zl<|zn<|zq<|zt<|zt ?_
 exact T7 h results101
 refine Mf ?_
 refine T3 ?_
 exact T7 h results101
 refine Mm ?_
 refine M8 ?_
 obtain ⟨h10,h⟩|⟨h10,h⟩:=zI h
 exact M1 h results101
 refine Mm ?_
 refine M8 ?_
 obtain ⟨h11,h⟩|⟨h11,h⟩:=zI h
 exact M1 h results101
 refine Mm ?_
 refine M8 ?_
 obtain ⟨h12,h⟩|⟨h12,h⟩:=zI h
 exact M1 h results101
 refine Mf ?_
 exact M3 h results101
theorem qrw (s1:List Int) (s2:List Int) (r3:Int) (h:qam s1 s2=some r3):Con D prog 57 [(.slc (v2v (v65 .i64) s1)),(.slc (v2v (v65 .i64) s2))] (.int .i64 r3):=by
 refine zP call57 func57 rfl ntmps57 fun X w hT=>?_
 simp only [qam] at h
 refine Ms ?_
 refine M5 ?_
 obtain ⟨o4,h5,h⟩:=zB h
 refine zO (fun (s:Int)=>⟨[(0,.p (.slc (v2v (v65 .i64) s1))),(1,.p (.slc (v2v (v65 .i64) s2))),(9,.p (.slc (v2v (v65 .i64) s1))),(10,.p (.int .i64 (s1.length:Int))),(11,.p (.int .i64 s))],[]⟩) (fun (o:(Unit) ⊕ (Int))=>match o with | .inl o6=>tE (cX Tryz.f57 X w D hT) (.exit 0) ⟨[(0,.p (.slc (v2v (v65 .i64) s1))),(1,.p (.slc (v2v (v65 .i64) s2)))],[]⟩ | .inr o7=>tR prog Tryz.f57 (.int .i64 o7)) h5 ?_ ?_
 clear h h5
 intro t8 x h
 simp only [qba] at h
 refine Ms ?_
 refine T4 ?_
 obtain ⟨h9,h⟩|⟨h9,h⟩:=zI h
 refine M9 ?_
 obtain ⟨x10,h11,h11a,h11b,h⟩:=zX h
 refine Mo ?_
 refine M8 ?_
 obtain ⟨h12,h⟩|⟨h12,h⟩:=zI h
 refine Me ?_
 cases h
 exact ⟨rfl,zT results57⟩
 refine Mf ?_
 obtain ⟨x13,h14,h14a,h14b,h⟩:=zX h
 refine M6 ?_
 refine zU ?_
 obtain ⟨r15,h16,h⟩:=zB h
 refine zc (qk0 x10 x13 _ h16) ?_
 refine M6 ?_
 refine M8 ?_
 obtain ⟨h17,h⟩|⟨h17,h⟩:=zI h
 refine Ma ?_
 cases h
 exact ⟨rfl,zT results57⟩
 refine Mj ?_
 exact M0 h
 exact M2 h
 rcases o4 with ⟨⟩ | r18
 try simp only at h
 refine T9 ?_
 refine M8 ?_
 obtain ⟨h19,h⟩|⟨h19,h⟩:=zI h
 exact M1 h results57
 refine Mf ?_
 exact M3 h results57
 exact M7 h
theorem qn9 (t1:Table) (l2:Linkage) (r3:List (List Int)×Int) (h:qhg t1 l2=some r3):Con False prog 20 [(qaf t1),(qak l2)] (.tup [(.slc (v2v (qap (v65 .i64)) r3.1)),(.int .i64 r3.2)]):=by
 refine zP call20 func20 rfl ntmps20 fun X w hT=>?_
 simp only [qhg] at h
 refine Mc ?_
 refine zU ?_
 obtain ⟨r4,h5,h⟩:=zB h
 refine zc (qqg t1 l2 _ h5) ?_
 refine M6 ?_
 refine M8 ?_
 obtain ⟨h6,h⟩|⟨h6,h⟩:=zI h
 exact M1 h results20
 refine Mf ?_
 refine zU ?_
 obtain ⟨r7,h8,h⟩:=zB h
 refine zc (qpd t1 l2 _ h8) ?_
 refine M6 ?_
 refine M5 ?_
 obtain ⟨m9,h10,h⟩:=zB h
 refine zO (fun (s:(List (Arr2_int×Bool))×Int)=>⟨[(2,.loc 2 1 0 0),(7,.p (.slc (v2v qag r7))),(8,.mapo 32 1),(33,.p (.slc (v2v qag r7))),(34,.p (.int .i64 (r7.length:Int))),(35,.p (.int .i64 s.2))],[(2,.arr 41 3 1 [.p (qaf t1)]),(32,.map 1 (v2v AV.p (qnk qag s.1)) (v2v AV.p (qn2 PV.bool s.1)))]⟩) (fun (o11:(List (Arr2_int×Bool)))=>tE (cX Tryz.f20 X w False hT) (.exit 0) ⟨[(2,.loc 2 1 0 0),(7,.p (.slc (v2v qag r7))),(8,.mapo 32 1)],[(2,.arr 41 3 1 [.p (qaf t1)]),(32,.map 1 (v2v AV.p (qnk qag o11)) (v2v AV.p (qn2 PV.bool o11)))]⟩) h10 ?_ ?_
 clear h h5 h6 h8 h10
 intro s x h
 obtain ⟨m12,t13⟩:=s
 simp only [qel] at h
 refine Mb ?_
 obtain ⟨h14,h⟩|⟨h14,h⟩:=zI h
 have h14T:=eq_true h14
 refine M9 ?_
 obtain ⟨x15,h16,h16a,h16b,h⟩:=zX h
 refine Mx ?_
 refine zW 2 ?_
 obtain ⟨k17,h18,h⟩:=zB h
 replace h18:=v3q h18
 obtain ⟨k19,h20,h⟩:=zB h
 replace h20:=v3q h20
 refine vqn (st':=⟨[(2,.loc 2 1 0 0),(7,.p (.slc (v2v qag r7))),(8,.mapo 32 1),(33,.p (.slc (v2v qag r7))),(34,.p (.int .i64 (r7.length:Int))),(35,.p (.int .i64 t13)),(39,.mapo 32 1),(40,.p (.agg [.int .i64 k17,.int .i64 k19]))],[(2,.arr 41 3 1 [.p (qaf t1)]),(32,.map 1 (v2v AV.p (qnk qag m12)) (v2v AV.p (qn2 PV.bool m12)))]⟩) (by simp only [go_sem,seval,h14T,←h18,←h20];all_goals ((repeat' refine v62 ?_ ?_) <;> first | rfl | (simp;done) | (simp;rfl) | (simp [*];done) | (simp [*];rfl))) ?_
 clear h18 h20
 refine Mh ?_
 exact M0 h
 have h14T:=eq_false h14
 exact M2 h
 try simp only at h
 refine Md ?_
 refine zU ?_
 obtain ⟨r21,h22,h⟩:=zB h
 refine zc (qu8 (t1.Rows.length:Int) r7 _ h22) ?_
 refine Mo ?_
 refine M8 ?_
 obtain ⟨h23,h⟩|⟨h23,h⟩:=zI h
 exact M1 h results20
 refine Mf ?_
 refine M5 ?_
 obtain ⟨o24,h25,h⟩:=zB h
 refine zO (fun (s:List (List Int)×Int)=>⟨[(2,.loc 2 1 0 0),(8,.p (.mapv (qnk qag m9) (qn2 PV.bool m9))),(13,.own 93 1 0 s.1.length),(53,.p (.slc (v2v (qap (v65 .i64)) r21.1))),(54,.p (.int .i64 (r21.1.length:Int))),(55,.p (.int .i64 s.2))],[(2,.arr 41 3 1 [.p (qaf t1)]),(93,.arr 63 1 1 (v2v AV.p (v2v (qap (v65 .i64)) s.1)))]⟩) (fun (o:(List (List Int)) ⊕ (List (List Int)×Int))=>match o with | .inl o26=>tE (cX Tryz.f20 X w False hT) (.exit 2) ⟨[(13,.own 93 1 0 o26.length)],[(93,.arr 63 1 1 (v2v AV.p (v2v (qap (v65 .i64)) o26)))]⟩ | .inr o27=>tR prog Tryz.f20 (.tup [(.slc (v2v (qap (v65 .i64)) o27.1)),(.int .i64 o27.2)])) h25 ?_ ?_
 clear h h5 h6 h8 h10 h22 h23 h25
 intro s x h
 obtain ⟨o28,t29⟩:=s
 simp only [qfx] at h
 refine Mb ?_
 obtain ⟨h30,h⟩|⟨h30,h⟩:=zI h
 refine M9 ?_
 obtain ⟨x31,h32,h32a,h32b,h⟩:=zX h
 refine M6 ?_
 refine zU ?_
 obtain ⟨r33,h34,h⟩:=zB h
 refine zc (qyh x31 m9 _ h34) ?_
 refine Mo ?_
 refine M8 ?_
 obtain ⟨h35,h⟩|⟨h35,h⟩:=zI h
 refine Me ?_
 cases h
 exact ⟨rfl,zT results20⟩
 refine Mf ?_
 refine Mq ?_
 obtain ⟨o36,h37,h⟩:=zB h
 refine zO (fun (s:List (List Int)×Int)=>⟨[(2,.loc 2 1 0 0),(8,.p (.mapv (qnk qag m9) (qn2 PV.bool m9))),(13,.own 93 1 0 s.1.length),(53,.p (.slc (v2v (qap (v65 .i64)) r21.1))),(54,.p (.int .i64 (r21.1.length:Int))),(55,.p (.int .i64 t29)),(68,.p (.slc (v2v (qap (v65 .i64)) r33.1))),(69,.p (.int .i64 (r33.1.length:Int))),(70,.p (.int .i64 s.2))],[(2,.arr 41 3 1 [.p (qaf t1)]),(93,.arr 63 1 1 (v2v AV.p (v2v (qap (v65 .i64)) s.1)))]⟩) (fun (o38:List (List Int))=>tE (cX Tryz.f20 X w False hT) (.exit 4) ⟨[(2,.loc 2 1 0 0),(8,.p (.mapv (qnk qag m9) (qn2 PV.bool m9))),(13,.own 93 1 0 o38.length),(53,.p (.slc (v2v (qap (v65 .i64)) r21.1))),(54,.p (.int .i64 (r21.1.length:Int))),(55,.p (.int .i64 t29))],[(2,.arr 41 3 1 [.p (qaf t1)]),(93,.arr 63 1 1 (v2v AV.p (v2v (qap (v65 .i64)) o38)))]⟩) h37 ?_ ?_
 clear h h30 h32 h32a h32b h34 h35 h37
 intro s x h
 obtain ⟨o39,t40⟩:=s
 simp only [qdy] at h
 refine Mb ?_
 obtain ⟨h41,h⟩|⟨h41,h⟩:=zI h
 refine M9 ?_
 obtain ⟨x42,h43,h43a,h43b,h⟩:=zX h
 refine M6 ?_
 refine M5 ?_
 obtain ⟨i44,h45,h⟩:=zB h
 refine zO (fun (s:List Int×Int)=>⟨[(2,.loc 2 1 0 0),(8,.p (.mapv (qnk qag m9) (qn2 PV.bool m9))),(13,.own 93 1 0 o39.length),(20,.own 88 1 0 s.1.length),(53,.p (.slc (v2v (qap (v65 .i64)) r21.1))),(54,.p (.int .i64 (r21.1.length:Int))),(55,.p (.int .i64 t29)),(68,.p (.slc (v2v (qap (v65 .i64)) r33.1))),(69,.p (.int .i64 (r33.1.length:Int))),(70,.p (.int .i64 t40)),(74,.p (.slc (v2v (v65 .i64) x42))),(75,.p (.int .i64 (x42.length:Int))),(76,.p (.int .i64 s.2))],[(2,.arr 41 3 1 [.p (qaf t1)]),(88,.arr 2 1 1 (v2v AV.p (v2v (v65 .i64) s.1))),(93,.arr 63 1 1 (v2v AV.p (v2v (qap (v65 .i64)) o39)))]⟩) (fun (o46:List Int)=>tE (cX Tryz.f20 X w False hT) (.exit 6) ⟨[(2,.loc 2 1 0 0),(8,.p (.mapv (qnk qag m9) (qn2 PV.bool m9))),(13,.own 93 1 0 o39.length),(20,.own 88 1 0 o46.length),(53,.p (.slc (v2v (qap (v65 .i64)) r21.1))),(54,.p (.int .i64 (r21.1.length:Int))),(55,.p (.int .i64 t29)),(68,.p (.slc (v2v (qap (v65 .i64)) r33.1))),(69,.p (.int .i64 (r33.1.length:Int))),(70,.p (.int .i64 t40))],[(2,.arr 41 3 1 [.p (qaf t1)]),(88,.arr 2 1 1 (v2v AV.p (v2v (v65 .i64) o46))),(93,.arr 63 1 1 (v2v AV.p (v2v (qap (v65 .i64)) o39)))]⟩) h45 ?_ ?_
 clear h h41 h43 h43a h43b h45
 intro s x h
 obtain ⟨i47,t48⟩:=s
 simp only [qdx] at h
 refine Mb ?_
 obtain ⟨h49,h⟩|⟨h49,h⟩:=zI h
 refine M9 ?_
 obtain ⟨x50,h51,h51a,h51b,h⟩:=zX h
 refine Mx ?_
 obtain ⟨x52,h53,h53a,h53b,h⟩:=zX h
 obtain ⟨h54,h⟩:=qab h
 refine Mh ?_
 exact M0 h
 exact M2 h
 try simp only at h
 refine Tn ?_
 refine zW 3 ?_
 refine zM ⟨[(2,.loc 2 1 0 0),(8,.p (.mapv (qnk qag m9) (qn2 PV.bool m9))),(53,.p (.slc (v2v (qap (v65 .i64)) r21.1))),(54,.p (.int .i64 (r21.1.length:Int))),(55,.p (.int .i64 t29)),(68,.p (.slc (v2v (qap (v65 .i64)) r33.1))),(69,.p (.int .i64 (r33.1.length:Int))),(70,.p (.int .i64 t40)),(90,.own 93 1 0 o39.length),(92,.own 92 1 0 1)],[(2,.arr 41 3 1 [.p (qaf t1)]),(92,.arr 63 1 1 [.p (.slc (v2v (v65 .i64) i44))]),(93,.arr 63 1 1 (v2v AV.p (v2v (qap (v65 .i64)) o39)))]⟩ ?_
 obtain ⟨h55,h⟩:=qab h
 refine Mh ?_
 exact M0 h
 exact M2 h
 try simp only at h
 refine T1 ?_
 exact M0 h
 exact M2 h
 rcases o24 with o56 | r57
 try simp only at h
 refine Md ?_
 refine zU ?_
 refine zM ⟨[(13,.own 93 1 0 o56.length),(96,.own 93 1 0 o56.length)],[(93,.arr 63 1 1 (v2v AV.p (v2v (qap (v65 .i64)) o56)))]⟩ ?_
 obtain ⟨l58,h59,h⟩:=zB h
 refine zSF srt56 (qap (v65 .i64)) (fun (y60:List Int) (y61:List Int)=>qam y60 y61) h59 (fun y60 y61 r h=>qrw y60 y61 r h) ?_
 have h62:=vdw h59
 refine zM ⟨[(13,.own 93 1 0 l58.length),(97,.p (.tup []))],[(93,.arr 63 1 1 (v2v AV.p (v2v (qap (v65 .i64)) l58)))]⟩ ?_
 clear h62
 refine zl<|zn<|zs<|zr ?_
 exact M3 h results20
 exact M7 h
theorem qyi (a1:List Int) (b2:List Int) (r3:Bool) (h:qlo a1 b2=some r3):Con D prog 60 [(.slc (v2v (v65 .i64) a1)),(.slc (v2v (v65 .i64) b2))] (.bool r3):=by
 refine zP call60 func60 rfl ntmps60 fun X w hT=>?_
 simp only [qlo] at h
 refine Mc ?_
 refine M8 ?_
 obtain ⟨h4,h⟩|⟨h4,h⟩:=zI h
 exact M1 h results60
 refine Mm ?_
 refine Mq ?_
 obtain ⟨o5,h6,h⟩:=zB h
 refine zO (fun (s:Int)=>⟨[(0,.p (.slc (v2v (v65 .i64) a1))),(1,.p (.slc (v2v (v65 .i64) b2))),(5,.p (.int .i64 s))],[]⟩) (fun (o:(Unit) ⊕ (Bool))=>match o with | .inl o7=>tE (cX Tryz.f60 X w D hT) (.exit 0) ⟨[],[]⟩ | .inr o8=>tR prog Tryz.f60 (.bool o8)) h6 ?_ ?_
 clear h h4 h6
 intro i9 x h
 simp only [qgb] at h
 refine T8 ?_
 refine M8 ?_
 obtain ⟨h10,h⟩|⟨h10,h⟩:=zI h
 refine Mw ?_
 obtain ⟨x11,h12,h12a,h12b,h⟩:=zX h
 obtain ⟨x13,h14,h14a,h14b,h⟩:=zX h
 refine Mu ?_
 obtain ⟨h15,h⟩|⟨h15,h⟩:=zI h
 refine Ma ?_
 cases h
 exact ⟨rfl,zT results60⟩
 refine Mj ?_
 exact M0 h
 exact M2 h
 rcases o5 with ⟨⟩ | r16
 try simp only at h
 refine Md ?_
 exact M3 h results60
 exact M7 h
theorem qld (a1:List (List Int)) (b2:List (List Int)) (r3:Bool) (h:qd5 a1 b2=some r3):Con D prog 23 [(.slc (v2v (qap (v65 .i64)) a1)),(.slc (v2v (qap (v65 .i64)) b2))] (.bool r3):=by
 refine zP call23 func23 rfl ntmps23 fun X w hT=>?_
 simp only [qd5] at h
 refine Mc ?_
 refine M8 ?_
 obtain ⟨h4,h⟩|⟨h4,h⟩:=zI h
 exact M1 h results23
 refine Mm ?_
 refine Mq ?_
 obtain ⟨o5,h6,h⟩:=zB h
 refine zO (fun (s:Int)=>⟨[(0,.p (.slc (v2v (qap (v65 .i64)) a1))),(1,.p (.slc (v2v (qap (v65 .i64)) b2))),(5,.p (.int .i64 s))],[]⟩) (fun (o:(Unit) ⊕ (Bool))=>match o with | .inl o7=>tE (cX Tryz.f23 X w D hT) (.exit 0) ⟨[],[]⟩ | .inr o8=>tR prog Tryz.f23 (.bool o8)) h6 ?_ ?_
 clear h h4 h6
 intro i9 x h
 simp only [qjh] at h
 refine T8 ?_
 refine M8 ?_
 obtain ⟨h10,h⟩|⟨h10,h⟩:=zI h
 refine Mw ?_
 obtain ⟨x11,h12,h12a,h12b,h⟩:=zX h
 obtain ⟨x13,h14,h14a,h14b,h⟩:=zX h
 refine yU ?_
 obtain ⟨r15,h16,h⟩:=zB h
 refine yc (qyi x11 x13 _ h16) ?_
 refine Mu ?_
 obtain ⟨h17,h⟩|⟨h17,h⟩:=zI h
 refine Mj ?_
 exact M0 h
 refine Ma ?_
 cases h
 exact ⟨rfl,zT results23⟩
 exact M2 h
 rcases o5 with ⟨⟩ | r18
 try simp only at h
 refine Md ?_
 exact M3 h results23
 exact M7 h
end Go.Proofs.YtmlegeeinnkhkaaGreat
