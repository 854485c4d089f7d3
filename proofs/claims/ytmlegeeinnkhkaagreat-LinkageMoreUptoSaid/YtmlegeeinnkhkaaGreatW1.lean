/- Each function of the program computes what its Lean function says, where that has a value. -/
import Derived.Shelf.SlSortCmp.NoneTotal
import Derived.Ground.SlsfProg
import Derived.Shelf.SortM.Plain
import Derived.Shelf.SortM.SortNone
import Derived.Ground.SlgmProg
import Derived.Shelf.Slices.CompactI
import Derived.Ground.Names2Prog
import Derived.Shelf.Strings.Repeat
import Derived.Ground.NamesProg
import Derived.Shelf.Small.Strs
import Derived.Shelf.Spec.BitsCarry
import Derived.Shelf.Spec.SlicesGrow
import Derived.Ground.Names8Prog
import Derived.Ground.SlgnProg
import Derived.Test.YtmlegeeinnkhkaaGreatT1
import Derived.Test.YtmlegeeinnkhkaaGreatL1
import Derived.Test.YtmlegeeinnkhkaaGreatA2
import Derived.Test.YtmlegeeinnkhkaaGreatA3
set_option linter.unusedVariables false
set_option linter.unusedSimpArgs false
namespace Go.Proofs.YtmlegeeinnkhkaaGreat
open Go Go.Ab
theorem mixed:Tryz.prog.follows .mixedOrders=true:=by kernel_rfl
@[reducible] noncomputable def cX (f:Func) (X:Nat→Prop) (w:World) (D:Prop) (hT:TabOk Tryz.prog (fun b=>X b∨F (fun _=>none) (hget []) b) w):Cx:=⟨Tryz.prog,f.ntmps,0,X,[],fun _=>none,w,D,hT⟩
theorem zd {N B:Nat} {X:Nat→Prop} {H0:List (Nat×AO)} {inj0:Inj} {w0:World} {D:Prop} {tb:TabOk Tryz.prog (fun b=>X b∨F inj0 (hget H0) b) w0} {Q:Exit→St→Prop} {st:St} {id:Nat} {l:List Oper} (h:DGo ⟨Tryz.prog,N,B,X,H0,inj0,w0,D,tb⟩ l.toArray l st [] (DK ⟨Tryz.prog,N,B,X,H0,inj0,w0,D,tb⟩ l.toArray Q)) (hs:slotsOk l.toArray=true:=by kernel_rfl):AWp ⟨Tryz.prog,N,B,X,H0,inj0,w0,D,tb⟩ (.region id l.toArray true) Q st:=awp_drawn_walk mixed hs h
theorem zdl (n:Nat) {N B:Nat} {X:Nat→Prop} {H0:List (Nat×AO)} {inj0:Inj} {w0:World} {D:Prop} {tb:TabOk Tryz.prog (fun b=>X b∨F inj0 (hget H0) b) w0} {Q:Exit→St→Prop} {st:St} {id:Nat} {l:List Oper} (h:DGo ⟨Tryz.prog,N,B,X,H0,inj0,w0,D,tb⟩ l.toArray (l.take n) st [] (DKL ⟨Tryz.prog,N,B,X,H0,inj0,w0,D,tb⟩ l.toArray (l.drop n) Q)) (hs:slotsOk l.toArray=true:=by kernel_rfl) (hl:lastOk l.toArray n=true:=by kernel_rfl):AWp ⟨Tryz.prog,N,B,X,H0,inj0,w0,D,tb⟩ (.region id l.toArray true) Q st:=awp_drawn_last n mixed hs hl h
def encValue (x:Value):PV:=.agg [.int .i64 x.Kind,.int .i64 x.Num,.str x.Str]
@[go_sem] theorem encValue_fold (x:Value):PV.agg [.int .i64 x.Kind,.int .i64 x.Num,.str x.Str]=encValue x:=rfl
@[go_sem] theorem encValue_cells (x:Value):(encValue x).cells=[.int .i64 x.Kind,.int .i64 x.Num,.str x.Str]:=rfl
@[go_sem] theorem encValue_isAgg (x:Value):(encValue x).isAgg=true:=rfl
@[go_sem] theorem encValue_isTup (x:Value):(encValue x).isTup=false:=rfl
@[go_sem] theorem encValue_zero:encValue (Value.mk 0 0 [])=.agg [.int .i64 0,.int .i64 0,.str []]:=rfl
@[go_sem] theorem encValue_flat (x:Value):(encValue x).flat=true:=rfl
def encSimilar (x:Similar):PV:=.agg [.int .i64 x.Attr,.int .i64 x.Measure,.int .i64 x.Limit]
@[go_sem] theorem encSimilar_fold (x:Similar):PV.agg [.int .i64 x.Attr,.int .i64 x.Measure,.int .i64 x.Limit]=encSimilar x:=rfl
@[go_sem] theorem encSimilar_cells (x:Similar):(encSimilar x).cells=[.int .i64 x.Attr,.int .i64 x.Measure,.int .i64 x.Limit]:=rfl
@[go_sem] theorem encSimilar_isAgg (x:Similar):(encSimilar x).isAgg=true:=rfl
@[go_sem] theorem encSimilar_isTup (x:Similar):(encSimilar x).isTup=false:=rfl
@[go_sem] theorem encSimilar_zero:encSimilar (Similar.mk 0 0 0)=.agg [.int .i64 0,.int .i64 0,.int .i64 0]:=rfl
@[go_sem] theorem encSimilar_flat (x:Similar):(encSimilar x).flat=true:=rfl
def encRatio (x:Ratio):PV:=.agg [.int .i64 x.Num,.int .i64 x.Den]
@[go_sem] theorem encRatio_fold (x:Ratio):PV.agg [.int .i64 x.Num,.int .i64 x.Den]=encRatio x:=rfl
@[go_sem] theorem encRatio_cells (x:Ratio):(encRatio x).cells=[.int .i64 x.Num,.int .i64 x.Den]:=rfl
@[go_sem] theorem encRatio_isAgg (x:Ratio):(encRatio x).isAgg=true:=rfl
@[go_sem] theorem encRatio_isTup (x:Ratio):(encRatio x).isTup=false:=rfl
@[go_sem] theorem encRatio_zero:encRatio (Ratio.mk 0 0)=.agg [.int .i64 0,.int .i64 0]:=rfl
@[go_sem] theorem encRatio_flat (x:Ratio):(encRatio x).flat=true:=rfl
def encRow (x:Row):PV:=.agg [.int .i64 x.ID,.slc (List.map encValue x.Values)]
@[go_sem] theorem encRow_fold (x:Row):PV.agg [.int .i64 x.ID,.slc (List.map encValue x.Values)]=encRow x:=rfl
@[go_sem] theorem encRow_cells (x:Row):(encRow x).cells=[.int .i64 x.ID,.slc (List.map encValue x.Values)]:=rfl
@[go_sem] theorem encRow_isAgg (x:Row):(encRow x).isAgg=true:=rfl
@[go_sem] theorem encRow_isTup (x:Row):(encRow x).isTup=false:=rfl
@[simp] theorem encRow_mk (a_ID:Int) (a_Values:List Value):encRow ⟨a_ID,a_Values⟩=.agg [.int .i64 a_ID,.slc (List.map encValue a_Values)]:=rfl
def encLinkage (x:Linkage):PV:=.agg [.slc (List.map (encL encSimilar) x.Rules),.slc (List.map (PV.int .i64) x.Block),.slc (List.map (PV.int .i64) x.Survive)]
@[go_sem] theorem encLinkage_fold (x:Linkage):PV.agg [.slc (List.map (encL encSimilar) x.Rules),.slc (List.map (PV.int .i64) x.Block),.slc (List.map (PV.int .i64) x.Survive)]=encLinkage x:=rfl
@[go_sem] theorem encLinkage_cells (x:Linkage):(encLinkage x).cells=[.slc (List.map (encL encSimilar) x.Rules),.slc (List.map (PV.int .i64) x.Block),.slc (List.map (PV.int .i64) x.Survive)]:=rfl
@[go_sem] theorem encLinkage_isAgg (x:Linkage):(encLinkage x).isAgg=true:=rfl
@[go_sem] theorem encLinkage_isTup (x:Linkage):(encLinkage x).isTup=false:=rfl
@[simp] theorem encLinkage_mk (a_Rules:List (List Similar)) (a_Block:List Int) (a_Survive:List Int):encLinkage ⟨a_Rules,a_Block,a_Survive⟩=.agg [.slc (List.map (encL encSimilar) a_Rules),.slc (List.map (PV.int .i64) a_Block),.slc (List.map (PV.int .i64) a_Survive)]:=rfl
def encTable (x:Table):PV:=.agg [.str x.Name,.slc (List.map PV.str x.Attrs),.slc (List.map encRow x.Rows)]
@[go_sem] theorem encTable_fold (x:Table):PV.agg [.str x.Name,.slc (List.map PV.str x.Attrs),.slc (List.map encRow x.Rows)]=encTable x:=rfl
@[go_sem] theorem encTable_cells (x:Table):(encTable x).cells=[.str x.Name,.slc (List.map PV.str x.Attrs),.slc (List.map encRow x.Rows)]:=rfl
@[go_sem] theorem encTable_isAgg (x:Table):(encTable x).isAgg=true:=rfl
@[go_sem] theorem encTable_isTup (x:Table):(encTable x).isTup=false:=rfl
@[simp] theorem encTable_mk (a_Name:List UInt8) (a_Attrs:List (List UInt8)) (a_Rows:List Row):encTable ⟨a_Name,a_Attrs,a_Rows⟩=.agg [.str a_Name,.slc (List.map PV.str a_Attrs),.slc (List.map encRow a_Rows)]:=rfl
def encArr2_int (x:Arr2_int):PV:=.agg [.int .i64 x.x0,.int .i64 x.x1]
@[go_sem] theorem encArr2_int_fold (x:Arr2_int):PV.agg [.int .i64 x.x0,.int .i64 x.x1]=encArr2_int x:=rfl
@[go_sem] theorem encArr2_int_cells (x:Arr2_int):(encArr2_int x).cells=[.int .i64 x.x0,.int .i64 x.x1]:=rfl
@[go_sem] theorem encArr2_int_isAgg (x:Arr2_int):(encArr2_int x).isAgg=true:=rfl
@[go_sem] theorem encArr2_int_isTup (x:Arr2_int):(encArr2_int x).isTup=false:=rfl
@[go_sem] theorem encArr2_int_sl (l:List Arr2_int):((l.map encArr2_int).all fun y=>y.cells.length == 2)=true:=by simp [encArr2_int,PV.cells]
@[go_sem] theorem encArr2_int_ok (l:List Arr2_int):((l.map encArr2_int).map AV.p).all (elemOk 2)=true:=elemOkAll_map _ _ _ fun _=>⟨rfl,rfl⟩
@[go_sem] theorem encArr2_int_zero:encArr2_int (Arr2_int.mk 0 0)=.agg [.int .i64 0,.int .i64 0]:=rfl
@[go_sem] theorem encArr2_int_flat (x:Arr2_int):(encArr2_int x).flat=true:=rfl
def encArr2_int64 (x:Arr2_int64):PV:=.agg [.int .i64 x.x0,.int .i64 x.x1]
@[go_sem] theorem encArr2_int64_fold (x:Arr2_int64):PV.agg [.int .i64 x.x0,.int .i64 x.x1]=encArr2_int64 x:=rfl
@[go_sem] theorem encArr2_int64_cells (x:Arr2_int64):(encArr2_int64 x).cells=[.int .i64 x.x0,.int .i64 x.x1]:=rfl
@[go_sem] theorem encArr2_int64_isAgg (x:Arr2_int64):(encArr2_int64 x).isAgg=true:=rfl
@[go_sem] theorem encArr2_int64_isTup (x:Arr2_int64):(encArr2_int64 x).isTup=false:=rfl
@[go_sem] theorem encArr2_int64_zero:encArr2_int64 (Arr2_int64.mk 0 0)=.agg [.int .i64 0,.int .i64 0]:=rfl
@[go_sem] theorem encArr2_int64_flat (x:Arr2_int64):(encArr2_int64 x).flat=true:=rfl
def encPair (x:Pair):PV:=.agg [.int .i64 x.I,.int .i64 x.K,.int .i64 x.Weight]
@[go_sem] theorem encPair_fold (x:Pair):PV.agg [.int .i64 x.I,.int .i64 x.K,.int .i64 x.Weight]=encPair x:=rfl
@[go_sem] theorem encPair_cells (x:Pair):(encPair x).cells=[.int .i64 x.I,.int .i64 x.K,.int .i64 x.Weight]:=rfl
@[go_sem] theorem encPair_isAgg (x:Pair):(encPair x).isAgg=true:=rfl
@[go_sem] theorem encPair_isTup (x:Pair):(encPair x).isTup=false:=rfl
@[go_sem] theorem encPair_zero:encPair (Pair.mk 0 0 0)=.agg [.int .i64 0,.int .i64 0,.int .i64 0]:=rfl
@[go_sem] theorem encPair_flat (x:Pair):(encPair x).flat=true:=rfl
def encCluster_search (x:Cluster_search):PV:=.agg [.slc (List.map (encL (PV.int .i64)) x.w),.slc (List.map (PV.int .i64) x.labels),.slc (List.map (PV.int .i64) x.best),.int .i64 x.least]
@[go_sem] theorem encCluster_search_fold (x:Cluster_search):PV.agg [.slc (List.map (encL (PV.int .i64)) x.w),.slc (List.map (PV.int .i64) x.labels),.slc (List.map (PV.int .i64) x.best),.int .i64 x.least]=encCluster_search x:=rfl
@[go_sem] theorem encCluster_search_cells (x:Cluster_search):(encCluster_search x).cells=[.slc (List.map (encL (PV.int .i64)) x.w),.slc (List.map (PV.int .i64) x.labels),.slc (List.map (PV.int .i64) x.best),.int .i64 x.least]:=rfl
@[go_sem] theorem encCluster_search_isAgg (x:Cluster_search):(encCluster_search x).isAgg=true:=rfl
@[go_sem] theorem encCluster_search_isTup (x:Cluster_search):(encCluster_search x).isTup=false:=rfl
@[simp] theorem encCluster_search_mk (a_w:List (List Int)) (a_labels:List Int) (a_best:List Int) (a_least:Int):encCluster_search ⟨a_w,a_labels,a_best,a_least⟩=.agg [.slc (List.map (encL (PV.int .i64)) a_w),.slc (List.map (PV.int .i64) a_labels),.slc (List.map (PV.int .i64) a_best),.int .i64 a_least]:=rfl
def encDrossref04_Wide (x:Drossref04_Wide):PV:=.agg [.int .u64 x.Hi,.int .u64 x.Lo]
@[go_sem] theorem encDrossref04_Wide_fold (x:Drossref04_Wide):PV.agg [.int .u64 x.Hi,.int .u64 x.Lo]=encDrossref04_Wide x:=rfl
@[go_sem] theorem encDrossref04_Wide_cells (x:Drossref04_Wide):(encDrossref04_Wide x).cells=[.int .u64 x.Hi,.int .u64 x.Lo]:=rfl
@[go_sem] theorem encDrossref04_Wide_isAgg (x:Drossref04_Wide):(encDrossref04_Wide x).isAgg=true:=rfl
@[go_sem] theorem encDrossref04_Wide_isTup (x:Drossref04_Wide):(encDrossref04_Wide x).isTup=false:=rfl
@[go_sem] theorem encDrossref04_Wide_zero:encDrossref04_Wide (Drossref04_Wide.mk 0 0)=.agg [.int .u64 0,.int .u64 0]:=rfl
@[go_sem] theorem encDrossref04_Wide_flat (x:Drossref04_Wide):(encDrossref04_Wide x).flat=true:=rfl
def encDrossref56_Test (x:Drossref56_Test):PV:=.agg [.int .u8 x.Attr,.int .u8 x.Measure,.int .u8 x.Limit]
@[go_sem] theorem encDrossref56_Test_fold (x:Drossref56_Test):PV.agg [.int .u8 x.Attr,.int .u8 x.Measure,.int .u8 x.Limit]=encDrossref56_Test x:=rfl
@[go_sem] theorem encDrossref56_Test_cells (x:Drossref56_Test):(encDrossref56_Test x).cells=[.int .u8 x.Attr,.int .u8 x.Measure,.int .u8 x.Limit]:=rfl
@[go_sem] theorem encDrossref56_Test_isAgg (x:Drossref56_Test):(encDrossref56_Test x).isAgg=true:=rfl
@[go_sem] theorem encDrossref56_Test_isTup (x:Drossref56_Test):(encDrossref56_Test x).isTup=false:=rfl
@[go_sem] theorem encDrossref56_Test_zero:encDrossref56_Test (Drossref56_Test.mk 0 0 0)=.agg [.int .u8 0,.int .u8 0,.int .u8 0]:=rfl
@[go_sem] theorem encDrossref56_Test_flat (x:Drossref56_Test):(encDrossref56_Test x).flat=true:=rfl
def encDrossref56_Draft (x:Drossref56_Draft):PV:=.agg [.slc (List.map (encL encDrossref56_Test) x.Rules),.int .u8 x.Block,.slc (List.map (PV.int .u8) x.Survive)]
@[go_sem] theorem encDrossref56_Draft_fold (x:Drossref56_Draft):PV.agg [.slc (List.map (encL encDrossref56_Test) x.Rules),.int .u8 x.Block,.slc (List.map (PV.int .u8) x.Survive)]=encDrossref56_Draft x:=rfl
@[go_sem] theorem encDrossref56_Draft_cells (x:Drossref56_Draft):(encDrossref56_Draft x).cells=[.slc (List.map (encL encDrossref56_Test) x.Rules),.int .u8 x.Block,.slc (List.map (PV.int .u8) x.Survive)]:=rfl
@[go_sem] theorem encDrossref56_Draft_isAgg (x:Drossref56_Draft):(encDrossref56_Draft x).isAgg=true:=rfl
@[go_sem] theorem encDrossref56_Draft_isTup (x:Drossref56_Draft):(encDrossref56_Draft x).isTup=false:=rfl
@[simp] theorem encDrossref56_Draft_mk (a_Rules:List (List Drossref56_Test)) (a_Block:Int) (a_Survive:List Int):encDrossref56_Draft ⟨a_Rules,a_Block,a_Survive⟩=.agg [.slc (List.map (encL encDrossref56_Test) a_Rules),.int .u8 a_Block,.slc (List.map (PV.int .u8) a_Survive)]:=rfl
def encDrossref03_Recipe (x:Drossref03_Recipe):PV:=.agg [.int .u8 x.Attrs,.int .u8 x.Gap,.slc (List.map (encL (PV.int .u8)) x.Rows)]
@[go_sem] theorem encDrossref03_Recipe_fold (x:Drossref03_Recipe):PV.agg [.int .u8 x.Attrs,.int .u8 x.Gap,.slc (List.map (encL (PV.int .u8)) x.Rows)]=encDrossref03_Recipe x:=rfl
@[go_sem] theorem encDrossref03_Recipe_cells (x:Drossref03_Recipe):(encDrossref03_Recipe x).cells=[.int .u8 x.Attrs,.int .u8 x.Gap,.slc (List.map (encL (PV.int .u8)) x.Rows)]:=rfl
@[go_sem] theorem encDrossref03_Recipe_isAgg (x:Drossref03_Recipe):(encDrossref03_Recipe x).isAgg=true:=rfl
@[go_sem] theorem encDrossref03_Recipe_isTup (x:Drossref03_Recipe):(encDrossref03_Recipe x).isTup=false:=rfl
@[simp] theorem encDrossref03_Recipe_mk (a_Attrs:Int) (a_Gap:Int) (a_Rows:List (List Int)):encDrossref03_Recipe ⟨a_Attrs,a_Gap,a_Rows⟩=.agg [.int .u8 a_Attrs,.int .u8 a_Gap,.slc (List.map (encL (PV.int .u8)) a_Rows)]:=rfl
def encMerged (x:Merged):PV:=.agg [.str x.Table.Name,.slc (List.map PV.str x.Table.Attrs),.slc (List.map encRow x.Table.Rows),.slc (List.map (encL (PV.int .i64)) x.Clusters),.slc (List.map (encL (PV.int .i64)) x.Origins)]
@[go_sem] theorem encMerged_fold (x:Merged):PV.agg [.str x.Table.Name,.slc (List.map PV.str x.Table.Attrs),.slc (List.map encRow x.Table.Rows),.slc (List.map (encL (PV.int .i64)) x.Clusters),.slc (List.map (encL (PV.int .i64)) x.Origins)]=encMerged x:=rfl
@[go_sem] theorem encMerged_cells (x:Merged):(encMerged x).cells=[.str x.Table.Name,.slc (List.map PV.str x.Table.Attrs),.slc (List.map encRow x.Table.Rows),.slc (List.map (encL (PV.int .i64)) x.Clusters),.slc (List.map (encL (PV.int .i64)) x.Origins)]:=rfl
@[go_sem] theorem encMerged_isAgg (x:Merged):(encMerged x).isAgg=true:=rfl
@[go_sem] theorem encMerged_isTup (x:Merged):(encMerged x).isTup=false:=rfl
@[simp] theorem encMerged_mk (a_Table:Table) (a_Clusters:List (List Int)) (a_Origins:List (List Int)):encMerged ⟨a_Table,a_Clusters,a_Origins⟩=.agg [.str a_Table.Name,.slc (List.map PV.str a_Table.Attrs),.slc (List.map encRow a_Table.Rows),.slc (List.map (encL (PV.int .i64)) a_Clusters),.slc (List.map (encL (PV.int .i64)) a_Origins)]:=rfl
def encDrossref55_Result (x:Drossref55_Result):PV:=.agg [.int .i64 x.Value.Kind,.int .i64 x.Value.Num,.str x.Value.Str,.int .i64 x.Origin]
@[go_sem] theorem encDrossref55_Result_fold (x:Drossref55_Result):PV.agg [.int .i64 x.Value.Kind,.int .i64 x.Value.Num,.str x.Value.Str,.int .i64 x.Origin]=encDrossref55_Result x:=rfl
@[go_sem] theorem encDrossref55_Result_cells (x:Drossref55_Result):(encDrossref55_Result x).cells=[.int .i64 x.Value.Kind,.int .i64 x.Value.Num,.str x.Value.Str,.int .i64 x.Origin]:=rfl
@[go_sem] theorem encDrossref55_Result_isAgg (x:Drossref55_Result):(encDrossref55_Result x).isAgg=true:=rfl
@[go_sem] theorem encDrossref55_Result_isTup (x:Drossref55_Result):(encDrossref55_Result x).isTup=false:=rfl
@[go_sem] theorem encDrossref55_Result_zero:encDrossref55_Result (Drossref55_Result.mk (Value.mk 0 0 []) 0)=.agg [.int .i64 0,.int .i64 0,.str [],.int .i64 0]:=rfl
@[go_sem] theorem encDrossref55_Result_flat (x:Drossref55_Result):(encDrossref55_Result x).flat=true:=rfl
def encDrossref55_Row (x:Drossref55_Row):PV:=.agg [.int .i64 x.Row.ID,.slc (List.map encValue x.Row.Values),.slc (List.map (PV.int .i64) x.Origins)]
@[go_sem] theorem encDrossref55_Row_fold (x:Drossref55_Row):PV.agg [.int .i64 x.Row.ID,.slc (List.map encValue x.Row.Values),.slc (List.map (PV.int .i64) x.Origins)]=encDrossref55_Row x:=rfl
@[go_sem] theorem encDrossref55_Row_cells (x:Drossref55_Row):(encDrossref55_Row x).cells=[.int .i64 x.Row.ID,.slc (List.map encValue x.Row.Values),.slc (List.map (PV.int .i64) x.Origins)]:=rfl
@[go_sem] theorem encDrossref55_Row_isAgg (x:Drossref55_Row):(encDrossref55_Row x).isAgg=true:=rfl
@[go_sem] theorem encDrossref55_Row_isTup (x:Drossref55_Row):(encDrossref55_Row x).isTup=false:=rfl
@[simp] theorem encDrossref55_Row_mk (a_Row:Row) (a_Origins:List Int):encDrossref55_Row ⟨a_Row,a_Origins⟩=.agg [.int .i64 a_Row.ID,.slc (List.map encValue a_Row.Values),.slc (List.map (PV.int .i64) a_Origins)]:=rfl
theorem encArr2_int_108_key (a b:Arr2_int):keyEqK Tryz.prog 108 (encArr2_int a) (encArr2_int b)=some (decide (a=b)):=by
  obtain ⟨a0,a1⟩:=a
  obtain ⟨b0,b1⟩:=b
  simp only [encArr2_int,keyEqK,keyB,eqC,go_sem,seval,beq_self_eq_true,Bool.true_and,Bool.and_true,if_true,Option.bind_some,Option.isSome_some]
  congr 1
  rw [Bool.eq_iff_iff]
  simp
@[go_sem] theorem encArr2_int_108_find {V:Type} (k:Arr2_int) (m:List (Arr2_int×V)) (g:V→PV):findA Tryz.prog 108 (encArr2_int k) (encK encArr2_int m) ((encW g m).map AV.p)=some ((mget m k).map fun v=>AV.p (g v)):=findA_gen _ _ _ encArr2_int_108_key k m g
@[go_sem] theorem encArr2_int_108_findL {V:Type} (a0:Int) (a1:Int) (m:List (Arr2_int×V)) (g:V→PV):findA Tryz.prog 108 (.agg [.int .i64 a0,.int .i64 a1]) (encK encArr2_int m) ((encW g m).map AV.p)=some ((mget m (Arr2_int.mk a0 a1)).map fun v=>AV.p (g v)):=encArr2_int_108_find (Arr2_int.mk a0 a1) m g
@[go_sem] theorem encArr2_int_108_upd {V:Type} (k:Arr2_int) (m:List (Arr2_int×V)) (g:V→PV) (v:V):updA Tryz.prog 108 (encArr2_int k) (.p (g v)) (encK encArr2_int m) ((encW g m).map AV.p)=some (encK encArr2_int (mset m k v),(encW g (mset m k v)).map AV.p):=updA_gen _ _ _ encArr2_int_108_key k m g v
@[go_sem] theorem encArr2_int_108_updL {V:Type} (a0:Int) (a1:Int) (m:List (Arr2_int×V)) (g:V→PV) (v:V):updA Tryz.prog 108 (.agg [.int .i64 a0,.int .i64 a1]) (.p (g v)) (encK encArr2_int m) ((encW g m).map AV.p)=some (encK encArr2_int (mset m (Arr2_int.mk a0 a1) v),(encW g (mset m (Arr2_int.mk a0 a1) v)).map AV.p):=encArr2_int_108_upd (Arr2_int.mk a0 a1) m g v
end Go.Proofs.YtmlegeeinnkhkaaGreat
namespace Go.Proofs
open Go Go.Ab Go.Shelf
def YtmlegeeinnkhkaaGreat.sort45_ren:Go.Shelf.Ren:=⟨fun | 5=>45 | 8=>86 | 7=>85 | 19=>147 | 20=>148 | 10=>138 | 11=>139 | 12=>140 | 13=>141 | 14=>142 | 15=>143 | 16=>144 | 17=>145 | 18=>146 | 30=>200 | 31=>201 | 32=>202 | 33=>203 | 34=>204 | 35=>205 | 40=>238 | n=>n,fun | 23=>23 | 25=>3 | 3=>3 | 32=>150 | 22=>23 | 0=>0 | 44=>207 | 46=>166 | 4=>4 | 36=>200 | 35=>199 | 41=>118 | 5=>5 | 9=>9 | 53=>253 | 57=>257 | 63=>285 | 64=>286 | n=>n,fun | n=>n⟩
theorem YtmlegeeinnkhkaaGreat.sort45:Go.Proofs.SlLaysM.n5 Tryz.prog YtmlegeeinnkhkaaGreat.sort45_ren:={
  mixed:=by kernel_rfl
  f5:=⟨Tryz.f45.name,by decide,Tryz.func45.trans (congrArg some (by kernel_rfl))⟩
  f7:=⟨Tryz.f85.name,by decide,Tryz.func85.trans (congrArg some (by kernel_rfl))⟩
  f8:=Tryz.func86.trans (congrArg some (by kernel_rfl))
  f10:=⟨Tryz.f138.name,by decide,Tryz.func138.trans (congrArg some (by kernel_rfl))⟩
  f11:=⟨Tryz.f139.name,by decide,Tryz.func139.trans (congrArg some (by kernel_rfl))⟩
  f12:=⟨Tryz.f140.name,by decide,Tryz.func140.trans (congrArg some (by kernel_rfl))⟩
  f13:=⟨Tryz.f141.name,by decide,Tryz.func141.trans (congrArg some (by kernel_rfl))⟩
  f14:=⟨Tryz.f142.name,by decide,Tryz.func142.trans (congrArg some (by kernel_rfl))⟩
  f15:=⟨Tryz.f143.name,by decide,Tryz.func143.trans (congrArg some (by kernel_rfl))⟩
  f16:=⟨Tryz.f144.name,by decide,Tryz.func144.trans (congrArg some (by kernel_rfl))⟩
  f17:=⟨Tryz.f145.name,by decide,Tryz.func145.trans (congrArg some (by kernel_rfl))⟩
  f18:=⟨Tryz.f146.name,by decide,Tryz.func146.trans (congrArg some (by kernel_rfl))⟩
  f19:=Tryz.func147.trans (congrArg some (by kernel_rfl))
  f20:=Tryz.func148.trans (congrArg some (by kernel_rfl))
  f30:=⟨Tryz.f200.name,by decide,Tryz.func200.trans (congrArg some (by kernel_rfl))⟩
  f31:=Tryz.func201.trans (congrArg some (by kernel_rfl))
  f32:=Tryz.func202.trans (congrArg some (by kernel_rfl))
  f33:=⟨Tryz.f203.name,by decide,Tryz.func203.trans (congrArg some (by kernel_rfl))⟩
  f34:=⟨Tryz.f204.name,by decide,Tryz.func204.trans (congrArg some (by kernel_rfl))⟩
  f35:=⟨Tryz.f205.name,by decide,Tryz.func205.trans (congrArg some (by kernel_rfl))⟩
  f40:=⟨Tryz.f238.name,by decide,Tryz.func238.trans (congrArg some (by kernel_rfl))⟩
  t0:=Tryz.underlying0
  a0:=Tryz.isAgg0
  z0:=Tryz.sizeOf0
  v0:=Tryz.zeroValue0
  t3:=Tryz.underlying3
  a3:=Tryz.isAgg3
  z3:=Tryz.sizeOf3
  v3:=Tryz.zeroValue3
  t4:=Tryz.underlying4
  a4:=Tryz.isAgg4
  z4:=Tryz.sizeOf4
  v4:=Tryz.zeroValue4
  t5:=Tryz.underlying5
  a5:=Tryz.isAgg5
  z5:=Tryz.sizeOf5
  v5:=Tryz.zeroValue5
  t9:=Tryz.underlying9
  a9:=Tryz.isAgg9
  z9:=Tryz.sizeOf9
  v9:=Tryz.zeroValue9
  t22:=Tryz.underlying23
  a22:=Tryz.isAgg23
  z22:=Tryz.sizeOf23
  v22:=Tryz.zeroValue23
  t23:=Tryz.underlying23
  a23:=Tryz.isAgg23
  z23:=Tryz.sizeOf23
  v23:=Tryz.zeroValue23
  t25:=Tryz.underlying3
  a25:=Tryz.isAgg3
  z25:=Tryz.sizeOf3
  v25:=Tryz.zeroValue3
  t32:=Tryz.underlying150
  a32:=Tryz.isAgg150
  z32:=Tryz.sizeOf150
  v32:=Tryz.zeroValue150
  t35:=Tryz.underlying199
  a35:=Tryz.isAgg199
  z35:=Tryz.sizeOf199
  v35:=Tryz.zeroValue199
  t36:=Tryz.underlying200
  a36:=Tryz.isAgg200
  z36:=Tryz.sizeOf200
  v36:=Tryz.zeroValue200
  t41:=Tryz.underlying118
  a41:=Tryz.isAgg118
  z41:=Tryz.sizeOf118
  v41:=Tryz.zeroValue118
  t44:=Tryz.underlying207
  a44:=Tryz.isAgg207
  z44:=Tryz.sizeOf207
  v44:=Tryz.zeroValue207
  t46:=Tryz.underlying166
  a46:=Tryz.isAgg166
  z46:=Tryz.sizeOf166
  v46:=Tryz.zeroValue166
  t53:=Tryz.underlying253
  a53:=Tryz.isAgg253
  z53:=Tryz.sizeOf253
  v53:=Tryz.zeroValue253
  t57:=Tryz.underlying257
  a57:=Tryz.isAgg257
  z57:=Tryz.sizeOf257
  v57:=Tryz.zeroValue257
  t63:=Tryz.underlying285
  a63:=Tryz.isAgg285
  z63:=Tryz.sizeOf285
  v63:=Tryz.zeroValue285
  t64:=Tryz.underlying286
  a64:=Tryz.isAgg286
  z64:=Tryz.sizeOf286
  v64:=Tryz.zeroValue286 }
def YtmlegeeinnkhkaaGreat.sort56_ren:Go.Shelf.Ren:=⟨fun | 6=>56 | 15=>86 | 14=>100 | 28=>147 | 29=>148 | 20=>163 | 21=>164 | 22=>165 | 23=>166 | 24=>167 | 25=>168 | 26=>169 | 27=>170 | 46=>212 | 47=>201 | 48=>202 | 49=>213 | 50=>214 | 57=>243 | n=>n,fun | 22=>52 | 24=>63 | 25=>116 | 3=>3 | 39=>150 | 0=>0 | 53=>207 | 55=>166 | 4=>4 | 46=>200 | 45=>199 | 50=>118 | 5=>5 | 9=>9 | 66=>253 | 70=>257 | 76=>285 | 77=>286 | n=>n,fun | n=>n⟩
theorem YtmlegeeinnkhkaaGreat.sort56:Go.Proofs.SlLaysF.n6 Tryz.prog YtmlegeeinnkhkaaGreat.sort56_ren:={
  mixed:=by kernel_rfl
  f6:=⟨Tryz.f56.name,by decide,Tryz.func56.trans (congrArg some (by kernel_rfl))⟩
  f14:=⟨Tryz.f100.name,by decide,Tryz.func100.trans (congrArg some (by kernel_rfl))⟩
  f15:=Tryz.func86.trans (congrArg some (by kernel_rfl))
  f20:=⟨Tryz.f163.name,by decide,Tryz.func163.trans (congrArg some (by kernel_rfl))⟩
  f21:=⟨Tryz.f164.name,by decide,Tryz.func164.trans (congrArg some (by kernel_rfl))⟩
  f22:=⟨Tryz.f165.name,by decide,Tryz.func165.trans (congrArg some (by kernel_rfl))⟩
  f23:=⟨Tryz.f166.name,by decide,Tryz.func166.trans (congrArg some (by kernel_rfl))⟩
  f24:=⟨Tryz.f167.name,by decide,Tryz.func167.trans (congrArg some (by kernel_rfl))⟩
  f25:=⟨Tryz.f168.name,by decide,Tryz.func168.trans (congrArg some (by kernel_rfl))⟩
  f26:=⟨Tryz.f169.name,by decide,Tryz.func169.trans (congrArg some (by kernel_rfl))⟩
  f27:=⟨Tryz.f170.name,by decide,Tryz.func170.trans (congrArg some (by kernel_rfl))⟩
  f28:=Tryz.func147.trans (congrArg some (by kernel_rfl))
  f29:=Tryz.func148.trans (congrArg some (by kernel_rfl))
  f46:=⟨Tryz.f212.name,by decide,Tryz.func212.trans (congrArg some (by kernel_rfl))⟩
  f47:=Tryz.func201.trans (congrArg some (by kernel_rfl))
  f48:=Tryz.func202.trans (congrArg some (by kernel_rfl))
  f49:=⟨Tryz.f213.name,by decide,Tryz.func213.trans (congrArg some (by kernel_rfl))⟩
  f50:=⟨Tryz.f214.name,by decide,Tryz.func214.trans (congrArg some (by kernel_rfl))⟩
  f57:=⟨Tryz.f243.name,by decide,Tryz.func243.trans (congrArg some (by kernel_rfl))⟩
  t0:=Tryz.underlying0
  a0:=Tryz.isAgg0
  z0:=Tryz.sizeOf0
  v0:=Tryz.zeroValue0
  t3:=Tryz.underlying3
  a3:=Tryz.isAgg3
  z3:=Tryz.sizeOf3
  v3:=Tryz.zeroValue3
  t4:=Tryz.underlying4
  a4:=Tryz.isAgg4
  z4:=Tryz.sizeOf4
  v4:=Tryz.zeroValue4
  t5:=Tryz.underlying5
  a5:=Tryz.isAgg5
  z5:=Tryz.sizeOf5
  v5:=Tryz.zeroValue5
  t9:=Tryz.underlying9
  a9:=Tryz.isAgg9
  z9:=Tryz.sizeOf9
  v9:=Tryz.zeroValue9
  t22:=Tryz.underlying52
  a22:=Tryz.isAgg52
  z22:=Tryz.sizeOf52
  v22:=Tryz.zeroValue52
  a24:=Tryz.isAgg63
  z24:=Tryz.sizeOf63
  t25:=Tryz.underlying116
  a25:=Tryz.isAgg116
  z25:=Tryz.sizeOf116
  v25:=Tryz.zeroValue116
  t39:=Tryz.underlying150
  a39:=Tryz.isAgg150
  z39:=Tryz.sizeOf150
  v39:=Tryz.zeroValue150
  t45:=Tryz.underlying199
  a45:=Tryz.isAgg199
  z45:=Tryz.sizeOf199
  v45:=Tryz.zeroValue199
  t46:=Tryz.underlying200
  a46:=Tryz.isAgg200
  z46:=Tryz.sizeOf200
  v46:=Tryz.zeroValue200
  t50:=Tryz.underlying118
  a50:=Tryz.isAgg118
  z50:=Tryz.sizeOf118
  v50:=Tryz.zeroValue118
  t53:=Tryz.underlying207
  a53:=Tryz.isAgg207
  z53:=Tryz.sizeOf207
  v53:=Tryz.zeroValue207
  t55:=Tryz.underlying166
  a55:=Tryz.isAgg166
  z55:=Tryz.sizeOf166
  v55:=Tryz.zeroValue166
  t66:=Tryz.underlying253
  a66:=Tryz.isAgg253
  z66:=Tryz.sizeOf253
  v66:=Tryz.zeroValue253
  t70:=Tryz.underlying257
  a70:=Tryz.isAgg257
  z70:=Tryz.sizeOf257
  v70:=Tryz.zeroValue257
  t76:=Tryz.underlying285
  a76:=Tryz.isAgg285
  z76:=Tryz.sizeOf285
  v76:=Tryz.zeroValue285
  t77:=Tryz.underlying286
  a77:=Tryz.isAgg286
  z77:=Tryz.sizeOf286
  v77:=Tryz.zeroValue286 }
def YtmlegeeinnkhkaaGreat.sort198_ren:Go.Shelf.Ren:=⟨fun | 6=>198 | 8=>86 | 9=>236 | 19=>147 | 20=>148 | 21=>253 | 22=>254 | 23=>255 | 24=>256 | 25=>257 | 26=>258 | 27=>259 | 28=>260 | 29=>261 | 36=>267 | 31=>201 | 32=>202 | 37=>268 | 38=>269 | 39=>270 | 41=>271 | n=>n,fun | 27=>38 | 29=>9 | 3=>3 | 32=>150 | 26=>38 | 0=>0 | 44=>207 | 46=>166 | 4=>4 | 36=>200 | 35=>199 | 41=>118 | 5=>5 | 9=>9 | 53=>253 | 57=>257 | 63=>285 | 64=>286 | n=>n,fun | n=>n⟩
theorem YtmlegeeinnkhkaaGreat.sort198:Go.Proofs.SlLaysM.n6 Tryz.prog YtmlegeeinnkhkaaGreat.sort198_ren:={
  mixed:=by kernel_rfl
  f6:=⟨Tryz.f198.name,by decide,Tryz.func198.trans (congrArg some (by kernel_rfl))⟩
  f8:=Tryz.func86.trans (congrArg some (by kernel_rfl))
  f9:=⟨Tryz.f236.name,by decide,Tryz.func236.trans (congrArg some (by kernel_rfl))⟩
  f19:=Tryz.func147.trans (congrArg some (by kernel_rfl))
  f20:=Tryz.func148.trans (congrArg some (by kernel_rfl))
  f21:=⟨Tryz.f253.name,by decide,Tryz.func253.trans (congrArg some (by kernel_rfl))⟩
  f22:=⟨Tryz.f254.name,by decide,Tryz.func254.trans (congrArg some (by kernel_rfl))⟩
  f23:=⟨Tryz.f255.name,by decide,Tryz.func255.trans (congrArg some (by kernel_rfl))⟩
  f24:=⟨Tryz.f256.name,by decide,Tryz.func256.trans (congrArg some (by kernel_rfl))⟩
  f25:=⟨Tryz.f257.name,by decide,Tryz.func257.trans (congrArg some (by kernel_rfl))⟩
  f26:=⟨Tryz.f258.name,by decide,Tryz.func258.trans (congrArg some (by kernel_rfl))⟩
  f27:=⟨Tryz.f259.name,by decide,Tryz.func259.trans (congrArg some (by kernel_rfl))⟩
  f28:=⟨Tryz.f260.name,by decide,Tryz.func260.trans (congrArg some (by kernel_rfl))⟩
  f29:=⟨Tryz.f261.name,by decide,Tryz.func261.trans (congrArg some (by kernel_rfl))⟩
  f31:=Tryz.func201.trans (congrArg some (by kernel_rfl))
  f32:=Tryz.func202.trans (congrArg some (by kernel_rfl))
  f36:=⟨Tryz.f267.name,by decide,Tryz.func267.trans (congrArg some (by kernel_rfl))⟩
  f37:=⟨Tryz.f268.name,by decide,Tryz.func268.trans (congrArg some (by kernel_rfl))⟩
  f38:=⟨Tryz.f269.name,by decide,Tryz.func269.trans (congrArg some (by kernel_rfl))⟩
  f39:=⟨Tryz.f270.name,by decide,Tryz.func270.trans (congrArg some (by kernel_rfl))⟩
  f41:=⟨Tryz.f271.name,by decide,Tryz.func271.trans (congrArg some (by kernel_rfl))⟩
  t0:=Tryz.underlying0
  a0:=Tryz.isAgg0
  z0:=Tryz.sizeOf0
  v0:=Tryz.zeroValue0
  t3:=Tryz.underlying3
  a3:=Tryz.isAgg3
  z3:=Tryz.sizeOf3
  v3:=Tryz.zeroValue3
  t4:=Tryz.underlying4
  a4:=Tryz.isAgg4
  z4:=Tryz.sizeOf4
  v4:=Tryz.zeroValue4
  t5:=Tryz.underlying5
  a5:=Tryz.isAgg5
  z5:=Tryz.sizeOf5
  v5:=Tryz.zeroValue5
  t9:=Tryz.underlying9
  a9:=Tryz.isAgg9
  z9:=Tryz.sizeOf9
  v9:=Tryz.zeroValue9
  t26:=Tryz.underlying38
  a26:=Tryz.isAgg38
  z26:=Tryz.sizeOf38
  v26:=Tryz.zeroValue38
  t27:=Tryz.underlying38
  a27:=Tryz.isAgg38
  z27:=Tryz.sizeOf38
  v27:=Tryz.zeroValue38
  t29:=Tryz.underlying9
  a29:=Tryz.isAgg9
  z29:=Tryz.sizeOf9
  v29:=Tryz.zeroValue9
  t32:=Tryz.underlying150
  a32:=Tryz.isAgg150
  z32:=Tryz.sizeOf150
  v32:=Tryz.zeroValue150
  t35:=Tryz.underlying199
  a35:=Tryz.isAgg199
  z35:=Tryz.sizeOf199
  v35:=Tryz.zeroValue199
  t36:=Tryz.underlying200
  a36:=Tryz.isAgg200
  z36:=Tryz.sizeOf200
  v36:=Tryz.zeroValue200
  t41:=Tryz.underlying118
  a41:=Tryz.isAgg118
  z41:=Tryz.sizeOf118
  v41:=Tryz.zeroValue118
  t44:=Tryz.underlying207
  a44:=Tryz.isAgg207
  z44:=Tryz.sizeOf207
  v44:=Tryz.zeroValue207
  t46:=Tryz.underlying166
  a46:=Tryz.isAgg166
  z46:=Tryz.sizeOf166
  v46:=Tryz.zeroValue166
  t53:=Tryz.underlying253
  a53:=Tryz.isAgg253
  z53:=Tryz.sizeOf253
  v53:=Tryz.zeroValue253
  t57:=Tryz.underlying257
  a57:=Tryz.isAgg257
  z57:=Tryz.sizeOf257
  v57:=Tryz.zeroValue257
  t63:=Tryz.underlying285
  a63:=Tryz.isAgg285
  z63:=Tryz.sizeOf285
  v63:=Tryz.zeroValue285
  t64:=Tryz.underlying286
  a64:=Tryz.isAgg286
  z64:=Tryz.sizeOf286
  v64:=Tryz.zeroValue286 }
theorem YtmlegeeinnkhkaaGreat.srt45:SrtI Tryz.prog 45:=⟨Tryz.call45,fun blk off cap zs w hH hb hs=>AnyM.slices_Sort_int YtmlegeeinnkhkaaGreat.sort45 blk off cap zs w hH hb hs,fun p cap w=>AnyM.slices_Sort_int_none YtmlegeeinnkhkaaGreat.sort45 p cap w⟩
theorem YtmlegeeinnkhkaaGreat.srt56:Srt1 Tryz.prog 56:=⟨Tryz.call56,fun enc h1 cf hO g cb blk off cap d w eg hc hH hb hs=>Any.slices_SortFunc_eq YtmlegeeinnkhkaaGreat.sort56 enc h1 cf hO g cb blk off cap d w eg hc hH hb hs,fun p cap fv w=>AnyF.slices_SortFunc_none { YtmlegeeinnkhkaaGreat.sort56 with } p cap fv w⟩
theorem YtmlegeeinnkhkaaGreat.srt198:SrtS Tryz.prog 198:=⟨Tryz.call198,fun blk off cap zs w hH hb hs=>AnyM.slices_Sort_string YtmlegeeinnkhkaaGreat.sort198 blk off cap zs w hH hb hs,fun p cap w=>AnyM.slices_Sort_string_none YtmlegeeinnkhkaaGreat.sort198 p cap w⟩
def YtmlegeeinnkhkaaGreat.compact46_ren:Go.Shelf.Ren:=⟨fun | 20=>46 | n=>n,fun | 0=>0 | 3=>3 | 4=>4 | 22=>23 | n=>n,fun | n=>n⟩
theorem YtmlegeeinnkhkaaGreat.compact46:Go.Proofs.Lays2.n20 Tryz.prog YtmlegeeinnkhkaaGreat.compact46_ren:={
  mixed:=by kernel_rfl
  f20:=Tryz.func46.trans (congrArg some (by kernel_rfl))
  t0:=Tryz.underlying0
  a0:=Tryz.isAgg0
  z0:=Tryz.sizeOf0
  v0:=Tryz.zeroValue0
  t3:=Tryz.underlying3
  a3:=Tryz.isAgg3
  z3:=Tryz.sizeOf3
  v3:=Tryz.zeroValue3
  t4:=Tryz.underlying4
  a4:=Tryz.isAgg4
  z4:=Tryz.sizeOf4
  v4:=Tryz.zeroValue4
  t22:=Tryz.underlying23
  a22:=Tryz.isAgg23
  z22:=Tryz.sizeOf23
  v22:=Tryz.zeroValue23
  i3:=by kernel_rfl }
theorem YtmlegeeinnkhkaaGreat.cpt46:CptI Tryz.prog 46:=⟨Tryz.call46,fun blk off cap zs w h1 h2 h3=>Any.slices_Compact_int YtmlegeeinnkhkaaGreat.compact46 blk off cap zs w h1 h2 h3,fun a cap w=>Any.slices_Compact_int_empty YtmlegeeinnkhkaaGreat.compact46 a cap w⟩
end Go.Proofs
namespace Go.Proofs.YtmlegeeinnkhkaaGreat
open Go Go.Ab
set_option maxHeartbeats 4000000 in
theorem value_Valid_con {D:Prop} (v1:Value) (r2:Bool) (h:value_Valid v1=some r2):Con D Tryz.prog 80 [(encValue v1)] (.bool r2):=by
 refine zP Tryz.call80 Tryz.func80 rfl Tryz.ntmps80 fun X w hT=>?_
 simp only [value_Valid] at h
 refine zs (zr ?_)
 refine zU (zl (zn (zs (zs (zr ?_)))))
 refine zU (zl (zn (zb (zs (zr ?_)))))
 refine zU (zl (zn ?_))
 rcases zI h with ⟨h3,h⟩ | ⟨h3,h⟩
 refine zi (zs (zr ?_))
 refine zU ?_
 rcases zI h with ⟨h4,h⟩ | ⟨h4,h⟩
 replace h:=h.symm
 refine zw 10 true ?_
 refine zg ?_
 refine zg ?_
 refine zg ?_
 refine zU (zl (zn (zq (yr (zt ?_)))))
 cases h
 exact zT Tryz.results80
 refine zw 10 false ?_
 refine zh ?_
 refine zU (zl (zn (zq (yr (zt ?_)))))
 cases h
 exact zT Tryz.results80
 refine zj (zs (zr ?_))
 refine zU (zl (zn ?_))
 rcases zI h with ⟨h5,h⟩ | ⟨h5,h⟩
 refine zi (zs (zr ?_))
 refine zU (zl (zn (zq (yr (zt ?_)))))
 cases h
 exact zT Tryz.results80
 refine zj (zs (zr ?_))
 refine zU (zl (zn ?_))
 rcases zI h with ⟨h6,h⟩ | ⟨h6,h⟩
 refine zi (zs (zr ?_))
 refine zU ?_
 rcases zI h with ⟨h7,h⟩ | ⟨h7,h⟩
 replace h:=h.symm
 refine zw 25 true ?_
 refine zg ?_
 refine zg ?_
 refine zg ?_
 refine zg ?_
 refine zU (zl (zn (zq (yr (zt ?_)))))
 cases h
 exact zT Tryz.results80
 refine zw 25 false ?_
 refine zh ?_
 refine zU (zl (zn (zq (yr (zt ?_)))))
 cases h
 exact zT Tryz.results80
 refine zj (zs (zr ?_))
 refine zU (zl (zn ?_))
 rcases zI h with ⟨h8,h⟩ | ⟨h8,h⟩
 refine zi (zs (zr ?_))
 refine zU ?_
 rcases zI h with ⟨h9,h⟩ | ⟨h9,h⟩
 replace h:=h.symm
 refine zw 36 true ?_
 refine zg ?_
 refine zg ?_
 refine zg ?_
 refine zU (zl (zn (zq (yr (zt ?_)))))
 cases h
 exact zT Tryz.results80
 refine zw 36 false ?_
 refine zh ?_
 refine zU (zl (zn (zq (yr (zt ?_)))))
 cases h
 exact zT Tryz.results80
 refine zj (zk (yn (zn (zs (zr ?_)))))
 refine zU (zl (zn (zq ?_)))
 cases h
 exact zT Tryz.results80
set_option maxHeartbeats 4000000 in
theorem similarity_valid_con {D:Prop} (c1:Similar) (r2:Bool) (h:similarity_valid c1=some r2):Con D Tryz.prog 81 [(encSimilar c1)] (.bool r2):=by
 refine zP Tryz.call81 Tryz.func81 rfl Tryz.ntmps81 fun X w hT=>?_
 simp only [similarity_valid] at h
 refine zs (zr ?_)
 refine zU (zl (zn (zs (zs (zr ?_)))))
 refine zU (zl (zn (zb (zs (zr ?_)))))
 refine zU (zl (zn ?_))
 rcases zI h with ⟨h3,h⟩ | ⟨h3,h⟩
 refine zi (zs (zr ?_))
 refine zU (zl (zn (zq (yr (zt ?_)))))
 cases h
 exact zT Tryz.results81
 refine zj (zs (zs (zr ?_)))
 refine zU (zl (zn ?_))
 rcases zI h with ⟨h4,h⟩ | ⟨h4,h⟩
 refine zi (zk (zn ?_))
 refine zi (zs (zr ?_))
 refine zU ?_
 rcases zI h with ⟨h5,h⟩ | ⟨h5,h⟩
 replace h:=h.symm
 refine zw 16 true ?_
 refine zg ?_
 refine zg ?_
 refine zg ?_
 refine zU (zl (zn (zq (yr (zt ?_)))))
 cases h
 exact zT Tryz.results81
 refine zw 16 false ?_
 refine zh ?_
 refine zU (zl (zn (zq (yr (zt ?_)))))
 cases h
 exact zT Tryz.results81
 refine zj (zr ?_)
 refine zU (zl (zn ?_))
 rcases zI h with ⟨h6,h⟩ | ⟨h6,h⟩
 refine zi (zs (zr ?_))
 refine zU ?_
 rcases zI h with ⟨h7,h⟩ | ⟨h7,h⟩
 replace h:=h.symm
 refine zw 16 true ?_
 refine zg ?_
 refine zg ?_
 refine zg ?_
 refine zU (zl (zn (zq (yr (zt ?_)))))
 cases h
 exact zT Tryz.results81
 refine zw 16 false ?_
 refine zh ?_
 refine zU (zl (zn (zq (yr (zt ?_)))))
 cases h
 exact zT Tryz.results81
 refine zj (zs (zr ?_))
 refine zU (zl (zn ?_))
 rcases zI h with ⟨h8,h⟩ | ⟨h8,h⟩
 refine zi (zs (zr ?_))
 refine zU ?_
 rcases zI h with ⟨h9,h⟩ | ⟨h9,h⟩
 replace h:=h.symm
 refine zw 26 true ?_
 refine zg ?_
 refine zg ?_
 refine zg ?_
 refine zU (zl (zn (zq (yr (zt ?_)))))
 cases h
 exact zT Tryz.results81
 refine zw 26 false ?_
 refine zh ?_
 refine zU (zl (zn (zq (yr (zt ?_)))))
 cases h
 exact zT Tryz.results81
 refine zj (zk (yn (zn (zs (zr ?_)))))
 refine zU (zl (zn (zq ?_)))
 cases h
 exact zT Tryz.results81
set_option maxHeartbeats 4000000 in
theorem slices_IndexFunc_string_con {D:Prop} (s1:List (List UInt8)) (f2:(List UInt8)→Option (Bool)) (f2_k:FuncId) (f2_cs:List PV) (f2_h:∀(y3:List UInt8) (r4:Bool),f2 y3=some r4→Con D Tryz.prog f2_k ((.str y3) :: f2_cs) (.bool r4)) (r5:Int) (h:slices_IndexFunc_string s1 f2=some r5):Con D Tryz.prog 230 [(.slc (List.map PV.str s1)),.func (.func f2_k) f2_cs] (.int .i64 r5):=by
 refine zP Tryz.call230 Tryz.func230 rfl Tryz.ntmps230 fun X w hT=>?_
 simp only [slices_IndexFunc_string] at h
 refine zs (zr ?_)
 refine zU (zl (zn (zs (zs (zr ?_)))))
 refine zU (zl (zn (zb ?_)))
 obtain ⟨o6,h7,h⟩:=zB h
 refine zO (fun (s:Int)=>⟨[(0,.p (.slc (List.map PV.str s1))),(1,.p (.func (.func f2_k) f2_cs)),(7,.p (.int .i64 (s1.length:Int))),(8,.p (.int .i64 s))],[]⟩) (fun (o:(Unit) ⊕ (Int))=>match o with | .inl o8=>tE (cX Tryz.f230 X w D hT) (.exit 0) ⟨[],[]⟩ | .inr o9=>tR Tryz.prog Tryz.f230 (.int .i64 o9)) h7 ?_ ?_
 clear h h7
 intro t10 x h
 simp only [slices_IndexFunc_string_l1] at h
 refine zs (zr ?_)
 refine zU (zl (zn (zs ?_)))
 rcases zI h with ⟨h11,h⟩ | ⟨h11,h⟩
 refine zi (zk (zn (zs (zb (zs (zr ?_))))))
 refine zU (zl (zn (zs (zr ?_))))
 obtain ⟨x12,h13,h13a,h13b,h⟩:=zX h
 refine zU ?_
 obtain ⟨r14,h15,h⟩:=zB h
 refine zc (f2_h x12 _ h15) ?_
 refine zl (zn ?_)
 rcases zI h with ⟨h16,h⟩ | ⟨h16,h⟩
 refine zi (zs (zr ?_))
 refine zU (zl (zn (zq (yr (zt ?_)))))
 cases h
 exact ⟨rfl,zT Tryz.results230⟩
 refine zj (zk (yn (zn (zr ?_))))
 refine zU (zl ?_)
 cases h
 exact ⟨rfl,zE⟩
 refine zj (zx (ze ?_))
 cases h
 exact ⟨rfl,zE⟩
 rcases o6 with ⟨⟩ | r17
 try simp only at h
 refine zA (yh (zn (zs (zr ?_))))
 refine zU (zl (zn (zq ?_)))
 cases h
 exact zT Tryz.results230
 try simp only at h
 refine zZ fun s hq=>?_
 refine yr (zt ?_)
 cases h
 exact hq
set_option maxHeartbeats 4000000 in
theorem slices_ContainsFunc_string_con {D:Prop} (s1:List (List UInt8)) (f2:(List UInt8)→Option (Bool)) (f2_k:FuncId) (f2_cs:List PV) (f2_h:∀(y3:List UInt8) (r4:Bool),f2 y3=some r4→Con D Tryz.prog f2_k ((.str y3) :: f2_cs) (.bool r4)) (r5:Bool) (h:slices_ContainsFunc_string s1 f2=some r5):Con D Tryz.prog 195 [(.slc (List.map PV.str s1)),.func (.func f2_k) f2_cs] (.bool r5):=by
 refine zP Tryz.call195 Tryz.func195 rfl Tryz.ntmps195 fun X w hT=>?_
 simp only [slices_ContainsFunc_string] at h
 refine zs (zr ?_)
 refine zU (zl (zn (zs (zr ?_))))
 refine zU ?_
 obtain ⟨r6,h7,h⟩:=zB h
 refine zc (slices_IndexFunc_string_con s1 f2 f2_k f2_cs f2_h _ h7) ?_
 refine zU (zl (zn (zq ?_)))
 cases h
 exact zT Tryz.results195
set_option maxHeartbeats 4000000 in
theorem similarity_long_1_con {D:Prop} (s1:List UInt8) (r2:Bool) (h:similarity_long_1 s1=some r2):Con D Tryz.prog 196 [(.str s1)] (.bool r2):=by
 refine zP Tryz.call196 Tryz.func196 rfl Tryz.ntmps196 fun X w hT=>?_
 simp only [similarity_long_1] at h
 refine zs (zr ?_)
 refine zU (zl (zn (zs (zr ?_))))
 refine zU (zl (zn (zq ?_)))
 cases h
 exact zT Tryz.results196
set_option maxHeartbeats 4000000 in
theorem similarity_long_con {D:Prop} (l1:List (List UInt8)) (r2:Bool) (h:similarity_long l1=some r2):Con D Tryz.prog 135 [(.slc (List.map PV.str l1))] (.bool r2):=by
 refine zP Tryz.call135 Tryz.func135 rfl Tryz.ntmps135 fun X w hT=>?_
 simp only [similarity_long] at h
 refine zs (zr ?_)
 refine zU (zl (zn (zs (zr ?_))))
 refine zU ?_
 obtain ⟨r3,h4,h⟩:=zB h
 refine zc (slices_ContainsFunc_string_con l1 (fun (y5:List UInt8)=>similarity_long_1 y5) 196 [] (fun y5 r h=>similarity_long_1_con y5 r h) _ h4) ?_
 refine zU (zl (zn (zq ?_)))
 cases h
 exact zT Tryz.results135
set_option maxRecDepth 20000 in
set_option maxHeartbeats 4000000 in
theorem similarity_distances_con {D:Prop} (a1:List UInt8) (b2:List UInt8) (r3:List (List Int)) (h:similarity_distances a1 b2=some r3):Con D Tryz.prog 194 [(.str a1),(.str b2)] (.slc (List.map (encL (PV.int .i64)) r3)):=by
 refine zP Tryz.call194 Tryz.func194 rfl Tryz.ntmps194 fun X w hT=>?_
 simp only [similarity_distances] at h
 refine zs (zr ?_)
 refine zU (zl (zn (zs (zr ?_))))
 obtain ⟨h4,h⟩:=ite_some h
 obtain ⟨h5,h⟩:=ite_some h
 refine zW 4 ?_
 refine zM ⟨[(0,.p (.str a1)),(1,.p (.str b2)),(12,.own 12 1 0 ((List.replicate (IntKind.i64.wrap ((a1.length:Int)+1)).toNat ([]:List Int))).length)],((12,.arr 23 1 1 (famR 12 3 1 1 (PV.int .i64) (List.replicate (IntKind.i64.wrap ((a1.length:Int)+1)).toNat ([]:List Int)))) :: famL 12 3 1 1 (PV.int .i64) (List.replicate (IntKind.i64.wrap ((a1.length:Int)+1)).toNat ([]:List Int)) [])⟩ ?_
 refine zU (zl (zn (zs (zs (zr ?_)))))
 refine zU (zl (zn (zb ?_)))
 obtain ⟨d6,h7,h⟩:=zB h
 refine zO (fun (s:List (List Int)×Int)=>⟨[(0,.p (.str a1)),(1,.p (.str b2)),(5,.own 12 1 0 s.1.length),(14,.p (.int .i64 ((((List.replicate (IntKind.i64.wrap ((a1.length:Int)+1)).toNat ([]:List Int))).length:Nat):Int))),(15,.p (.int .i64 s.2))],((12,.arr 23 1 1 (famR 12 3 1 1 (PV.int .i64) s.1)) :: famL 12 3 1 1 (PV.int .i64) s.1 [])⟩) (fun (o8:List (List Int))=>tE (cX Tryz.f194 X w D hT) (.exit 0) ⟨[(0,.p (.str a1)),(1,.p (.str b2)),(5,.own 12 1 0 o8.length)],((12,.arr 23 1 1 (famR 12 3 1 1 (PV.int .i64) o8)) :: famL 12 3 1 1 (PV.int .i64) o8 [])⟩) h7 ?_ ?_
 clear h h4 h5 h7
 intro s x h
 obtain ⟨d9,t10⟩:=s
 simp only [similarity_distances_l1] at h
 dsimp only
 refine zs (zr ?_)
 refine zU (zl (zn (zs ?_)))
 rcases zI h with ⟨h11,h⟩ | ⟨h11,h⟩
 refine zi (zk (zn (zs (zb (zs (zr ?_))))))
 refine zU (zl (zn (zr ?_)))
 obtain ⟨h12,h⟩:=ite_some h
 obtain ⟨h13,h⟩:=ite_some h
 obtain ⟨x14,h15,h15a,h15b,h⟩:=zX h
 refine zW 8 ?_
 refine zSw 23 (fx 12 t10.toNat) ?_
 refine zM ⟨[(0,.p (.str a1)),(1,.p (.str b2)),(5,.own 12 1 0 ((d9.set t10.toNat (List.replicate (IntKind.i64.wrap ((b2.length:Int)+1)).toNat 0))).length),(14,.p (.int .i64 ((((List.replicate (IntKind.i64.wrap ((a1.length:Int)+1)).toNat ([]:List Int))).length:Nat):Int))),(15,.p (.int .i64 t10))],((12,.arr 23 1 1 (famR 12 3 1 1 (PV.int .i64) (d9.set t10.toNat (List.replicate (IntKind.i64.wrap ((b2.length:Int)+1)).toNat 0)))) :: famL 12 3 1 1 (PV.int .i64) (d9.set t10.toNat (List.replicate (IntKind.i64.wrap ((b2.length:Int)+1)).toNat 0)) [])⟩ ?_
 refine zl (yn (zn (zr ?_)))
 refine zU (zl ?_)
 cases h
 exact ⟨rfl,zE⟩
 refine zj (zx (ze ?_))
 cases h
 exact ⟨rfl,zE⟩
 try simp only at h
 refine zA (yh (zn (zs (zs (zr ?_)))))
 refine zU (zl (zn (zb ?_)))
 obtain ⟨d16,h17,h⟩:=zB h
 refine zO (fun (s:List (List Int)×Int)=>⟨[(0,.p (.str a1)),(1,.p (.str b2)),(5,.own 12 1 0 s.1.length),(7,.p (.int .i64 s.2))],((12,.arr 23 1 1 (famR 12 3 1 1 (PV.int .i64) s.1)) :: famL 12 3 1 1 (PV.int .i64) s.1 [])⟩) (fun (o18:List (List Int))=>tE (cX Tryz.f194 X w D hT) (.exit 2) ⟨[(5,.own 12 1 0 o18.length)],((12,.arr 23 1 1 (famR 12 3 1 1 (PV.int .i64) o18)) :: famL 12 3 1 1 (PV.int .i64) o18 [])⟩) h17 ?_ ?_
 clear h h4 h5 h7 h17
 intro s x h
 obtain ⟨d19,i20⟩:=s
 simp only [similarity_distances_l5] at h
 dsimp only
 refine zs (zs (zr ?_))
 refine zU (zl (zn ?_))
 rcases zI h with ⟨h21,h⟩ | ⟨h21,h⟩
 refine zi (zk (zn (zs (zb (zs (zr ?_))))))
 refine zU (zl (zn (zb ?_)))
 obtain ⟨d22,h23,h⟩:=zB h
 refine zO (fun (s:List (List Int)×Int)=>⟨[(0,.p (.str a1)),(1,.p (.str b2)),(5,.own 12 1 0 s.1.length),(7,.p (.int .i64 i20)),(8,.p (.int .i64 s.2))],((12,.arr 23 1 1 (famR 12 3 1 1 (PV.int .i64) s.1)) :: famL 12 3 1 1 (PV.int .i64) s.1 [])⟩) (fun (o24:List (List Int))=>tE (cX Tryz.f194 X w D hT) (.exit 4) ⟨[(0,.p (.str a1)),(1,.p (.str b2)),(5,.own 12 1 0 o24.length),(7,.p (.int .i64 i20))],((12,.arr 23 1 1 (famR 12 3 1 1 (PV.int .i64) o24)) :: famL 12 3 1 1 (PV.int .i64) o24 [])⟩) h23 ?_ ?_
 clear h h21 h23
 intro s x h
 obtain ⟨d25,j26⟩:=s
 simp only [similarity_distances_l4] at h
 dsimp only
 refine zs (zs (zr ?_))
 refine zU (zl (zn ?_))
 rcases zI h with ⟨h27,h⟩ | ⟨h27,h⟩
 refine zi (zk (zn (zs (zb (zb (zs (zr ?_)))))))
 refine zU (zl (zn ?_))
 rcases zI h with ⟨h28,h⟩ | ⟨h28,h⟩
 refine zi (zr ?_)
 obtain ⟨x29,h30,h30a,h30b,h⟩:=zX h
 obtain ⟨x31,h32,h32a,h32b,h⟩:=zX h
 refine zW 11 ?_
 refine zM ⟨[(0,.p (.str a1)),(1,.p (.str b2)),(5,.own 12 1 0 ((d25.set i20.toNat (x29.set j26.toNat (IntKind.i64.wrap ((b2.length:Int) - j26))))).length),(7,.p (.int .i64 i20)),(8,.p (.int .i64 j26))],((12,.arr 23 1 1 (famR 12 3 1 1 (PV.int .i64) (d25.set i20.toNat (x29.set j26.toNat (IntKind.i64.wrap ((b2.length:Int) - j26)))))) :: famL 12 3 1 1 (PV.int .i64) (d25.set i20.toNat (x29.set j26.toNat (IntKind.i64.wrap ((b2.length:Int) - j26)))) [])⟩ ?_
 refine zl (yn (yn (zn (zr ?_))))
 refine zU (zl ?_)
 cases h
 exact ⟨rfl,zE⟩
 refine zj (zs (zr ?_))
 refine zU (zl (zn ?_))
 rcases zI h with ⟨h33,h⟩ | ⟨h33,h⟩
 refine zi (zr ?_)
 obtain ⟨x34,h35,h35a,h35b,h⟩:=zX h
 obtain ⟨x36,h37,h37a,h37b,h⟩:=zX h
 refine zW 11 ?_
 refine zM ⟨[(0,.p (.str a1)),(1,.p (.str b2)),(5,.own 12 1 0 ((d25.set i20.toNat (x34.set j26.toNat (IntKind.i64.wrap ((a1.length:Int) - i20))))).length),(7,.p (.int .i64 i20)),(8,.p (.int .i64 j26))],((12,.arr 23 1 1 (famR 12 3 1 1 (PV.int .i64) (d25.set i20.toNat (x34.set j26.toNat (IntKind.i64.wrap ((a1.length:Int) - i20)))))) :: famL 12 3 1 1 (PV.int .i64) (d25.set i20.toNat (x34.set j26.toNat (IntKind.i64.wrap ((a1.length:Int) - i20)))) [])⟩ ?_
 refine zl (yn (yn (zn (zr ?_))))
 refine zU (zl ?_)
 cases h
 exact ⟨rfl,zE⟩
 refine zj (zs (zd ?_))
 obtain ⟨c38,h39,h39a,h39b,h⟩:=zX h
 obtain ⟨c40,h41,h41a,h41b,h⟩:=zX h
 refine yU ?_
 refine ydS ?_
 refine zn ?_
 rcases zI h with ⟨h42,h⟩ | ⟨h42,h⟩
 refine zi ?_
 refine zdl 14 ?_
 obtain ⟨x43,h44,h44a,h44b,h⟩:=zX h
 obtain ⟨x45,h46,h46a,h46b,h⟩:=zX h
 obtain ⟨x47,h48,h48a,h48b,h⟩:=zX h
 refine yU ?_
 refine ydlS ?_
 obtain ⟨x49,h50,h50a,h50b,h⟩:=zX h
 refine zW 2 ?_
 refine zM ⟨[(0,.p (.str a1)),(1,.p (.str b2)),(5,.own 12 1 0 ((d25.set i20.toNat (x43.set j26.toNat x47))).length),(7,.p (.int .i64 i20)),(8,.p (.int .i64 j26))],((12,.arr 23 1 1 (famR 12 3 1 1 (PV.int .i64) (d25.set i20.toNat (x43.set j26.toNat x47)))) :: famL 12 3 1 1 (PV.int .i64) (d25.set i20.toNat (x43.set j26.toNat x47)) [])⟩ ?_
 refine zl (yn (yn (zn (zr ?_))))
 refine zU (zl ?_)
 cases h
 exact ⟨rfl,zE⟩
 refine zj ?_
 refine zdl 32 ?_
 obtain ⟨x51,h52,h52a,h52b,h⟩:=zX h
 obtain ⟨x53,h54,h54a,h54b,h⟩:=zX h
 obtain ⟨x55,h56,h56a,h56b,h⟩:=zX h
 obtain ⟨x57,h58,h58a,h58b,h⟩:=zX h
 obtain ⟨x59,h60,h60a,h60b,h⟩:=zX h
 refine yU ?_
 refine ydlS ?_
 obtain ⟨x61,h62,h62a,h62b,h⟩:=zX h
 refine zW 2 ?_
 refine zM ⟨[(0,.p (.str a1)),(1,.p (.str b2)),(5,.own 12 1 0 ((d25.set i20.toNat (x51.set j26.toNat (IntKind.i64.wrap (1+(if x59 < (if x57 < x55 then x57 else x55) then x59 else (if x57 < x55 then x57 else x55))))))).length),(7,.p (.int .i64 i20)),(8,.p (.int .i64 j26))],((12,.arr 23 1 1 (famR 12 3 1 1 (PV.int .i64) (d25.set i20.toNat (x51.set j26.toNat (IntKind.i64.wrap (1+(if x59 < (if x57 < x55 then x57 else x55) then x59 else (if x57 < x55 then x57 else x55)))))))) :: famL 12 3 1 1 (PV.int .i64) (d25.set i20.toNat (x51.set j26.toNat (IntKind.i64.wrap (1+(if x59 < (if x57 < x55 then x57 else x55) then x59 else (if x57 < x55 then x57 else x55)))))) [])⟩ ?_
 refine zl (yn (yn (zn (zr ?_))))
 refine zU (zl ?_)
 cases h
 exact ⟨rfl,zE⟩
 refine zj (zx (ze ?_))
 cases h
 exact ⟨rfl,zE⟩
 try simp only at h
 refine zA (yh (yn (zn (zr ?_))))
 refine zU (zl ?_)
 cases h
 exact ⟨rfl,zE⟩
 refine zj (zx (ze ?_))
 cases h
 exact ⟨rfl,zE⟩
 try simp only at h
 refine zA (yh (zn (zs (zr ?_))))
 refine zU (zl (zn (zq ?_)))
 cases h
 exact zT Tryz.results194
set_option maxHeartbeats 4000000 in
theorem similarity_Distance_con {D:Prop} (a1:List UInt8) (b2:List UInt8) (r3:Int×Int) (h:similarity_Distance a1 b2=some r3):Con D Tryz.prog 134 [(.str a1),(.str b2)] (.tup [(.int .i64 r3.1),(.int .i64 r3.2)]):=by
 refine zP Tryz.call134 Tryz.func134 rfl Tryz.ntmps134 fun X w hT=>?_
 simp only [similarity_Distance] at h
 refine zs (zr ?_)
 refine zU (zl (zn (zs (zs (zr ?_)))))
 refine zU ?_
 obtain ⟨r4,h5,h⟩:=zB h
 refine zc (similarity_long_con [a1,b2] _ h5) ?_
 refine zl (zn ?_)
 rcases zI h with ⟨h6,h⟩ | ⟨h6,h⟩
 refine zi (zs (zr ?_))
 refine zU (zl (zn (zq (zt ?_))))
 cases h
 exact zT Tryz.results134
 refine zj (zk (zn (zs (zr ?_))))
 refine zU ?_
 obtain ⟨r7,h8,h⟩:=zB h
 refine zc (similarity_distances_con a1 b2 _ h8) ?_
 obtain ⟨x9,h10,h10l,h10L,h⟩:=zY 0 h
 obtain ⟨x11,h12,h12l,h12L,h⟩:=zY 0 h
 refine zU (zl (zn (zq ?_)))
 cases h
 exact zT Tryz.results134
set_option maxHeartbeats 4000000 in
theorem similarity_Within_con {D:Prop} (a1:List UInt8) (b2:List UInt8) (m3:Int) (r4:Bool×Int) (h:similarity_Within a1 b2 m3=some r4):Con D Tryz.prog 82 [(.str a1),(.str b2),(.int .i64 m3)] (.tup [(.bool r4.1),(.int .i64 r4.2)]):=by
 refine zP Tryz.call82 Tryz.func82 rfl Tryz.ntmps82 fun X w hT=>?_
 simp only [similarity_Within] at h
 refine zs (zr ?_)
 refine zU (zl (zn (zs (zr ?_))))
 refine zU ?_
 obtain ⟨r5,h6,h⟩:=zB h
 refine zc (similarity_Distance_con a1 b2 _ h6) ?_
 refine zU (zl (zn (zs (zr ?_))))
 refine zU ?_
 rcases zI h with ⟨h7,h⟩ | ⟨h7,h⟩
 replace h:=h.symm
 refine zw 18 true ?_
 refine zg ?_
 refine zg ?_
 refine zg ?_
 refine zU (zl (zn (zq ?_)))
 cases h
 exact zT Tryz.results82
 refine zw 18 false ?_
 refine zh ?_
 refine zU (zl (zn (zq ?_)))
 cases h
 exact zT Tryz.results82
set_option maxHeartbeats 4000000 in
theorem ratio_abs_con {D:Prop} (n1:Int) (r2:Int) (h:ratio_abs n1=some r2):Con D Tryz.prog 106 [(.int .i64 n1)] (.int .u64 r2):=by
 refine zP Tryz.call106 Tryz.func106 rfl Tryz.ntmps106 fun X w hT=>?_
 simp only [ratio_abs] at h
 refine zs (zr ?_)
 refine zU (zl (zn (zs (zs (zr ?_)))))
 refine zU (zl (zn ?_))
 rcases zI h with ⟨h3,h⟩ | ⟨h3,h⟩
 refine zi (zs (zr ?_))
 refine zU (zl (zn (zq (zt ?_))))
 cases h
 exact zT Tryz.results106
 refine zj (zk (zn (zs (zr ?_))))
 refine zU (zl (zn (zq ?_)))
 cases h
 exact zT Tryz.results106
set_option maxHeartbeats 4000000 in
theorem ratio_gcd_con {D:Prop} (a1:Int) (b2:Int) (r3:Int) (h:ratio_gcd a1 b2=some r3):Con D Tryz.prog 107 [(.int .u64 a1),(.int .u64 b2)] (.int .u64 r3):=by
 refine zP Tryz.call107 Tryz.func107 rfl Tryz.ntmps107 fun X w hT=>?_
 simp only [ratio_gcd] at h
 refine zs (zr ?_)
 refine zU (zl (zn (zs (zb ?_))))
 obtain ⟨a4,h5,h⟩:=zB h
 refine zO (fun (s:Int×Int)=>⟨[(0,.p (.int .u64 s.1)),(1,.p (.int .u64 s.2))],[]⟩) (fun (o6:Int)=>tE (cX Tryz.f107 X w D hT) (.exit 0) ⟨[(0,.p (.int .u64 o6))],[]⟩) h5 ?_ ?_
 clear h h5
 intro s x h
 obtain ⟨a7,b8⟩:=s
 simp only [ratio_gcd_l1] at h
 dsimp only
 refine zs (zs (zr ?_))
 refine zU (zl (zn ?_))
 rcases zI h with ⟨h9,h⟩ | ⟨h9,h⟩
 refine zi (zk (zn (zb (zd ?_))))
 obtain ⟨h10,h⟩:=ite_none h
 refine yU ?_
 refine yd (yn ?_)
 cases h
 exact ⟨rfl,zE⟩
 refine zj (zx (ze ?_))
 cases h
 exact ⟨rfl,zE⟩
 try simp only at h
 refine zA (yh (zn (zs (zr ?_))))
 refine zU (zl (zn (zq ?_)))
 cases h
 exact zT Tryz.results107
set_option maxHeartbeats 4000000 in
theorem ratio_of_con {D:Prop} (n1:Bool) (n2:Int) (d3:Int) (r4:Ratio×Int) (h:ratio_of n1 n2 d3=some r4):Con D Tryz.prog 108 [(.bool n1),(.int .u64 n2),(.int .u64 d3)] (.tup [(encRatio r4.1),(.int .i64 r4.2)]):=by
 refine zP Tryz.call108 Tryz.func108 rfl Tryz.ntmps108 fun X w hT=>?_
 simp only [ratio_of] at h
 refine zs (zr ?_)
 refine zU (zl (zn (zs (zs (zr ?_)))))
 refine zU ?_
 rcases zI h with ⟨h5,h⟩ | ⟨h5,h⟩
 refine zw 11 true ?_
 refine zh ?_
 refine zU (zl (zn ?_))
 refine zi (zs (zr ?_))
 refine zU (zl (zn (zq (zt ?_))))
 cases h
 exact zT Tryz.results108
 refine zw 11 false ?_
 refine zg ?_
 refine zg ?_
 refine zU (zl (zn ?_))
 rcases zI h with ⟨h6,h⟩ | ⟨h6,h⟩
 refine zi (zs (zr ?_))
 refine zU (zl (zn (zq (zt ?_))))
 cases h
 exact zT Tryz.results108
 refine zj (zk (zn (zs (zr ?_))))
 refine zU (zl (zn (zs (zs (zr ?_)))))
 refine zU (zl (zn ?_))
 rcases zI h with ⟨h7,h⟩ | ⟨h7,h⟩
 refine zi (zr ?_)
 refine zU (zl (zn (zs (zr ?_))))
 refine zU (zl (zn (zq ?_)))
 cases h
 exact zT Tryz.results108
 refine zj (zk (zn (zs (zr ?_))))
 refine zU (zl (zn (zq ?_)))
 cases h
 exact zT Tryz.results108
set_option maxRecDepth 20000 in
set_option maxHeartbeats 4000000 in
theorem ratio_Make_con {D:Prop} (n1:Int) (d2:Int) (r3:Ratio×Int) (h:ratio_Make n1 d2=some r3):Con D Tryz.prog 69 [(.int .i64 n1),(.int .i64 d2)] (.tup [(encRatio r3.1),(.int .i64 r3.2)]):=by
 refine zP Tryz.call69 Tryz.func69 rfl Tryz.ntmps69 fun X w hT=>?_
 simp only [ratio_Make] at h
 refine zs (zr ?_)
 refine zU (zl (zn (zs (zs (zr ?_)))))
 refine zU (zl (zn ?_))
 rcases zI h with ⟨h4,h⟩ | ⟨h4,h⟩
 refine zi (zs (zr ?_))
 refine zU (zl (zn (zq (zt ?_))))
 cases h
 exact zT Tryz.results69
 refine zj (zk (zn (zs (zr ?_))))
 refine zU ?_
 obtain ⟨r5,h6,h⟩:=zB h
 refine zc (ratio_abs_con n1 _ h6) ?_
 refine zU ?_
 obtain ⟨r7,h8,h⟩:=zB h
 refine zc (ratio_abs_con d2 _ h8) ?_
 refine zU (zl (zn (zs (zr ?_))))
 refine zU ?_
 obtain ⟨r9,h10,h⟩:=zB h
 refine zc (ratio_gcd_con r5 r7 _ h10) ?_
 refine zU (zl (zn (zs (zd ?_))))
 obtain ⟨h11,h⟩:=ite_none h
 refine yU ?_
 obtain ⟨r12,h13,h⟩:=zB h
 refine yc (ratio_of_con (!((decide (n1 < 0)) == (decide (d2 < 0)))) (IntKind.u64.wrap (Int.tdiv r5 r9)) (IntKind.u64.wrap (Int.tdiv r7 r9)) _ h13) ?_
 refine yU ?_
 refine yd (zn (zq ?_))
 cases h
 exact zT Tryz.results69
end Go.Proofs.YtmlegeeinnkhkaaGreat
namespace Go.Proofs
open Go Go.Ab Go.Shelf
def YtmlegeeinnkhkaaGreat.rep197_ren:Go.Shelf.Ren:=⟨fun | 105=>197 | 212=>211 | 99=>231 | 165=>232 | 166=>233 | 170=>234 | 169=>235 | 263=>241 | 264=>242 | 206=>250 | 240=>251 | 241=>252 | 276=>265 | 277=>266 | n=>n,fun | 9=>9 | 3=>3 | 4=>4 | 20=>20 | 0=>0 | 46=>150 | 109=>262 | 5=>5 | 72=>276 | 76=>280 | 51=>207 | 146=>290 | 53=>166 | 148=>292 | 70=>274 | 37=>35 | 75=>279 | 127=>299 | 164=>307 | 80=>283 | n=>n,fun | n=>n⟩
theorem YtmlegeeinnkhkaaGreat.rep197:Go.Proofs.Lays.n105 Tryz.prog YtmlegeeinnkhkaaGreat.rep197_ren:={
  mixed:=by kernel_rfl
  f99:=Tryz.func231.trans (congrArg some (by kernel_rfl))
  f105:=Tryz.func197.trans (congrArg some (by kernel_rfl))
  f165:=Tryz.func232.trans (congrArg some (by kernel_rfl))
  f166:=Tryz.func233.trans (congrArg some (by kernel_rfl))
  f169:=Tryz.func235.trans (congrArg some (by kernel_rfl))
  f170:=Tryz.func234.trans (congrArg some (by kernel_rfl))
  f206:=Tryz.func250.trans (congrArg some (by kernel_rfl))
  f212:=Tryz.func211.trans (congrArg some (by kernel_rfl))
  f240:=Tryz.func251.trans (congrArg some (by kernel_rfl))
  f241:=Tryz.func252.trans (congrArg some (by kernel_rfl))
  f263:=Tryz.func241.trans (congrArg some (by kernel_rfl))
  f264:=Tryz.func242.trans (congrArg some (by kernel_rfl))
  f276:=Tryz.func265.trans (congrArg some (by kernel_rfl))
  f277:=Tryz.func266.trans (congrArg some (by kernel_rfl))
  t0:=Tryz.underlying0
  a0:=Tryz.isAgg0
  z0:=Tryz.sizeOf0
  v0:=Tryz.zeroValue0
  t3:=Tryz.underlying3
  a3:=Tryz.isAgg3
  z3:=Tryz.sizeOf3
  v3:=Tryz.zeroValue3
  t4:=Tryz.underlying4
  a4:=Tryz.isAgg4
  z4:=Tryz.sizeOf4
  v4:=Tryz.zeroValue4
  t5:=Tryz.underlying5
  a5:=Tryz.isAgg5
  z5:=Tryz.sizeOf5
  v5:=Tryz.zeroValue5
  t9:=Tryz.underlying9
  a9:=Tryz.isAgg9
  z9:=Tryz.sizeOf9
  v9:=Tryz.zeroValue9
  t20:=Tryz.underlying20
  a20:=Tryz.isAgg20
  z20:=Tryz.sizeOf20
  v20:=Tryz.zeroValue20
  t37:=Tryz.underlying35
  a37:=Tryz.isAgg35
  z37:=Tryz.sizeOf35
  v37:=Tryz.zeroValue35
  t46:=Tryz.underlying150
  a46:=Tryz.isAgg150
  z46:=Tryz.sizeOf150
  v46:=Tryz.zeroValue150
  t51:=Tryz.underlying207
  a51:=Tryz.isAgg207
  z51:=Tryz.sizeOf207
  v51:=Tryz.zeroValue207
  t53:=Tryz.underlying166
  a53:=Tryz.isAgg166
  z53:=Tryz.sizeOf166
  v53:=Tryz.zeroValue166
  t70:=Tryz.underlying274
  a70:=Tryz.isAgg274
  z70:=Tryz.sizeOf274
  v70:=Tryz.zeroValue274
  t72:=Tryz.underlying276
  a72:=Tryz.isAgg276
  z72:=Tryz.sizeOf276
  v72:=Tryz.zeroValue276
  t75:=Tryz.underlying279
  a75:=Tryz.isAgg279
  z75:=Tryz.sizeOf279
  v75:=Tryz.zeroValue279
  t76:=Tryz.underlying280
  a76:=Tryz.isAgg280
  z76:=Tryz.sizeOf280
  v76:=Tryz.zeroValue280
  t109:=Tryz.underlying262
  a109:=Tryz.isAgg262
  z109:=Tryz.sizeOf262
  v109:=Tryz.zeroValue262
  t127:=Tryz.underlying299
  a127:=Tryz.isAgg299
  z127:=Tryz.sizeOf299
  v127:=Tryz.zeroValue299
  t146:=Tryz.underlying290
  a146:=Tryz.isAgg290
  z146:=Tryz.sizeOf290
  v146:=Tryz.zeroValue290
  t148:=Tryz.underlying292
  a148:=Tryz.isAgg292
  z148:=Tryz.sizeOf292
  v148:=Tryz.zeroValue292
  t164:=Tryz.underlying307
  a164:=Tryz.isAgg307
  z164:=Tryz.sizeOf307
  v164:=Tryz.zeroValue307 }
theorem YtmlegeeinnkhkaaGreat.repX:Builder.Extra Tryz.prog YtmlegeeinnkhkaaGreat.rep197_ren where
  sizeBuilder:=by kernel_rfl
  liesBuilder:=by kernel_rfl
  t5:=YtmlegeeinnkhkaaGreat.rep197.t5
  a5:=YtmlegeeinnkhkaaGreat.rep197.a5
  z5:=YtmlegeeinnkhkaaGreat.rep197.z5
  v5:=YtmlegeeinnkhkaaGreat.rep197.v5
  infoByte:=by kernel_rfl
  cellsByte:=by kernel_rfl
  sizeByte:=by kernel_rfl
  neB5:=by decide
theorem YtmlegeeinnkhkaaGreat.repeat197 (s:ByteArray) (c:Nat) (w:World) (hc:c≤9223372036854775807) (hl:s.size * c≤140737488355328):Calls Tryz.prog 197 #[.string s,.int .i64 c] w fun e w'=>e=.returned (.string ⟨(Lib.repeatL s.data.toList c).toArray⟩)∧RowKit.Below w.heap.size w w' :=
  Any.strings_Repeat YtmlegeeinnkhkaaGreat.rep197 YtmlegeeinnkhkaaGreat.repX s c w hc hl
end Go.Proofs
namespace Go.Proofs.YtmlegeeinnkhkaaGreat
open Go Go.Ab
theorem strings_Repeat_con (x:List UInt8) (n:Int) (r:List UInt8) (h:strings_Repeat x n=some r):Con False Tryz.prog 197 [(.str x),(.int .i64 n)] (.str r):=con_repeat Tryz.call197 repeat197 x n r h
set_option maxHeartbeats 4000000 in
theorem similarity_Grams_con (s1:List UInt8) (q2:Int) (r3:List (List UInt8)×Int) (h:similarity_Grams s1 q2=some r3):Con False Tryz.prog 136 [(.str s1),(.int .i64 q2)] (.tup [(.slc (List.map PV.str r3.1)),(.int .i64 r3.2)]):=by
 refine zP Tryz.call136 Tryz.func136 rfl Tryz.ntmps136 fun X w hT=>?_
 simp only [similarity_Grams] at h
 refine zs (zr ?_)
 refine zU (zl (zn (zs (zs (zr ?_)))))
 refine zU ?_
 obtain ⟨r4,h5,h⟩:=zB h
 refine zc (similarity_long_con [s1] _ h5) ?_
 refine zl (zn ?_)
 rcases zI h with ⟨h6,h⟩ | ⟨h6,h⟩
 refine zi (zs (zr ?_))
 refine zU (zl (zn (zq (zt ?_))))
 cases h
 exact zT Tryz.results136
 refine zj (zk (zn (zs (zs (zr ?_)))))
 refine zU ?_
 rcases zI h with ⟨h7,h⟩ | ⟨h7,h⟩
 refine zw 15 true ?_
 refine zh ?_
 refine zU (zl (zn ?_))
 refine zi (zs (zr ?_))
 refine zU (zl (zn (zq (zt ?_))))
 cases h
 exact zT Tryz.results136
 refine zw 15 false ?_
 refine zg ?_
 refine zg ?_
 refine zU (zl (zn ?_))
 rcases zI h with ⟨h8,h⟩ | ⟨h8,h⟩
 refine zi (zs (zr ?_))
 refine zU (zl (zn (zq (zt ?_))))
 cases h
 exact zT Tryz.results136
 refine zj (zk (zn (zs (zr ?_))))
 refine zU ?_
 obtain ⟨r9,h10,h⟩:=zB h
 refine zc (strings_Repeat_con [1] (IntKind.i64.wrap (q2 - 1)) _ h10) ?_
 refine zU (zl (zn (zs (zr ?_))))
 obtain ⟨h11,h⟩:=ite_some h
 obtain ⟨w12,h13,h⟩:=zB h
 replace h13:=Option.some.inj h13
 obtain ⟨h14,h⟩:=ite_some h
 obtain ⟨w15,h16,h⟩:=zB h
 replace h16:=Option.some.inj h16
 refine zU (zl (zn (zs (zr ?_))))
 refine zU (zl (zn (zs (zs (zr ?_)))))
 refine zU (zl (zn (zb ?_)))
 obtain ⟨o17,h18,h⟩:=zB h
 refine zO (fun (s:List (List UInt8)×Int)=>⟨[(1,.p (.int .i64 q2)),(7,.p (.str w15)),(8,.own 43 1 0 s.1.length),(31,.p (.int .i64 (IntKind.i64.wrap ((IntKind.i64.wrap ((s1.length:Int)+q2)) - 1)))),(32,.p (.int .i64 s.2))],[(43,.arr 9 1 1 (List.map AV.p (List.map PV.str s.1)))]⟩) (fun (o19:List (List UInt8))=>tE (cX Tryz.f136 X w False hT) (.exit 0) ⟨[(8,.own 43 1 0 o19.length)],[(43,.arr 9 1 1 (List.map AV.p (List.map PV.str o19)))]⟩) h18 ?_ ?_
 clear h h5 h6 h7 h8 h10 h11 h13 h14 h16 h18
 intro s x h
 obtain ⟨o20,t21⟩:=s
 simp only [similarity_Grams_l1] at h
 dsimp only
 refine zs (zr ?_)
 refine zU (zl (zn (zs ?_)))
 rcases zI h with ⟨h22,h⟩ | ⟨h22,h⟩
 refine zi (zk (zn (zs (zb (zs (zr ?_))))))
 refine zU (zl (zn (zr ?_)))
 obtain ⟨h23,h⟩:=ite_some h
 obtain ⟨h24,h⟩:=ite_some h
 obtain ⟨h25,h⟩:=ite_some h
 obtain ⟨h26,h⟩:=ite_some h
 refine zU (zl (yn (zn (zr ?_))))
 refine zU (zl ?_)
 cases h
 exact ⟨rfl,zE⟩
 refine zj (zx (ze ?_))
 cases h
 exact ⟨rfl,zE⟩
 try simp only at h
 refine zA (yh (zn (zs (zr ?_))))
 refine zU ?_
 refine zM ⟨[(8,.own 43 1 0 o17.length),(45,.own 43 1 0 o17.length)],[(43,.arr 9 1 1 (List.map AV.p (List.map PV.str o17)))]⟩ ?_
 obtain ⟨l27,h28,h⟩:=zB h
 refine zSS srt198 h28 ?_
 have h29:=srtSF_len h28
 refine zM ⟨[(8,.own 43 1 0 l27.length),(46,.p (.tup []))],[(43,.arr 9 1 1 (List.map AV.p (List.map PV.str l27)))]⟩ ?_
 clear h29
 refine zl (zn (zs (zr ?_)))
 refine zU (zl (zn (zq ?_)))
 cases h
 exact zT Tryz.results136
theorem ext262 (a b:List UInt8) (w:World):(callFunc 262 #[.string ⟨a.toArray⟩,.string ⟨b.toArray⟩]).run Tryz.prog w=.ok (.value (.int .i64 (Lib.compareBytes a b))) w:=by
  rw [run_callFunc_extern Tryz.func262 (by kernel_rfl) (by kernel_rfl) (by kernel_rfl) (e:=Extern.BytealgCompare.compare) (by kernel_rfl),Lib.run_compareString]
  rfl
theorem ext248 (x y c:Nat) (hc:c≤1) (w:World):(callFunc 248 #[.int .u64 x,.int .u64 y,.int .u64 c]).run Tryz.prog w=.ok (.value (.tuple #[.int .u64 (((x+y+c) % 18446744073709551616:Nat):Int),.int .u64 (((x+y+c) / 18446744073709551616:Nat):Int)])) w:=by
  rw [run_callFunc_extern Tryz.func248 (by kernel_rfl) (by kernel_rfl) (by kernel_rfl) (e:=add64Entry) (by kernel_rfl),run_add64 x y c (by omega) (by omega) (by omega) (by omega)]
  simp only [Result.andThen]
  congr 5 <;> omega
theorem ext249 (x y b:Nat) (hb:b≤1) (w:World):(callFunc 249 #[.int .u64 x,.int .u64 y,.int .u64 b]).run Tryz.prog w=.ok (.value (.tuple #[.int .u64 (((x+18446744073709551616 - y - b) % 18446744073709551616:Nat):Int),.int .u64 ((if x < y+b then 1 else 0:Nat):Int)])) w:=by
  rw [run_callFunc_extern Tryz.func249 (by kernel_rfl) (by kernel_rfl) (by kernel_rfl) (e:=sub64Entry) (by kernel_rfl),run_sub64 x y b hb]
  rfl
set_option maxHeartbeats 4000000 in
theorem bytealg_CompareString_con {D:Prop} (a1:List UInt8) (b2:List UInt8) (r3:Int) (h:bytealg_CompareString a1 b2=some r3):Con D Tryz.prog 237 [(.str a1),(.str b2)] (.int .i64 r3):=by
 refine zP Tryz.call237 Tryz.func237 rfl Tryz.ntmps237 fun X w hT=>?_
 simp only [bytealg_CompareString] at h
 refine zs (zr ?_)
 refine zU (zl (zn (zs (zr ?_))))
 refine zU ?_
 refine AL_ext2 (ext262 a1 b2) (by simp only [go_sem,seval];all_goals ((repeat' refine And.intro ?_ ?_) <;> first | rfl | (simp;done) | (simp;rfl) | (simp [*];done) | (simp [*];rfl))) (by simp only [go_sem,seval];all_goals ((repeat' refine And.intro ?_ ?_) <;> first | rfl | (simp;done) | (simp;rfl) | (simp [*];done) | (simp [*];rfl))) rfl ?_
 refine zU (zl (zn (zq ?_)))
 cases h
 exact zT Tryz.results237
set_option maxHeartbeats 4000000 in
theorem strings_Compare_con {D:Prop} (a1:List UInt8) (b2:List UInt8) (r3:Int) (h:strings_Compare a1 b2=some r3):Con D Tryz.prog 199 [(.str a1),(.str b2)] (.int .i64 r3):=by
 refine zP Tryz.call199 Tryz.func199 rfl Tryz.ntmps199 fun X w hT=>?_
 simp only [strings_Compare] at h
 refine zs (zr ?_)
 refine zU (zl (zn (zs (zr ?_))))
 refine zU ?_
 obtain ⟨r4,h5,h⟩:=zB h
 refine zc (bytealg_CompareString_con a1 b2 _ h5) ?_
 refine zU (zl (zn (zq ?_)))
 cases h
 exact zT Tryz.results199
set_option maxHeartbeats 4000000 in
theorem similarity_shared_con {D:Prop} (a1:List (List UInt8)) (b2:List (List UInt8)) (r3:Int) (h:similarity_shared a1 b2=some r3):Con D Tryz.prog 137 [(.slc (List.map PV.str a1)),(.slc (List.map PV.str b2))] (.int .i64 r3):=by
 refine zP Tryz.call137 Tryz.func137 rfl Tryz.ntmps137 fun X w hT=>?_
 simp only [similarity_shared] at h
 refine zs (zr ?_)
 refine zU (zl (zn (zs (zr ?_))))
 refine zU (zl (zn (zs (zb ?_))))
 obtain ⟨n4,h5,h⟩:=zB h
 refine zO (fun (s:List (List UInt8)×List (List UInt8)×Int)=>⟨[(0,.p (.slc (List.map PV.str s.1))),(1,.p (.slc (List.map PV.str s.2.1))),(5,.p (.int .i64 s.2.2))],[]⟩) (fun (o6:Int)=>tE (cX Tryz.f137 X w D hT) (.exit 0) ⟨[(5,.p (.int .i64 o6))],[]⟩) h5 ?_ ?_
 clear h h5
 intro s x h
 obtain ⟨a7,b8,n9⟩:=s
 simp only [similarity_shared_l1] at h
 dsimp only
 refine zs (zs (zr ?_))
 refine zU ?_
 rcases zI h with ⟨h10,h⟩ | ⟨h10,h⟩
 refine zw 10 true ?_
 refine zg ?_
 refine zg ?_
 refine zg ?_
 refine zU (zl (zn ?_))
 rcases zI h with ⟨h11,h⟩ | ⟨h11,h⟩
 refine zi (zk (zn (zb (zs (zd ?_)))))
 obtain ⟨x12,h13,h13l,h13L,h⟩:=zY 0 h
 obtain ⟨x14,h15,h15l,h15L,h⟩:=zY 0 h
 refine yU ?_
 obtain ⟨r16,h17,h⟩:=zB h
 refine yc (strings_Compare_con x12 x14 _ h17) ?_
 refine yU ?_
 refine yd (zn (zb (zs (zr ?_))))
 refine zU (zl (zn ?_))
 rcases zI h with ⟨h18,h⟩ | ⟨h18,h⟩
 refine zi (zr ?_)
 obtain ⟨h19,h⟩:=ite_some h
 refine zU (zl (yn (yn ?_)))
 cases h
 exact ⟨rfl,zE⟩
 refine zj (zs (zr ?_))
 refine zU (zl (zn ?_))
 rcases zI h with ⟨h20,h⟩ | ⟨h20,h⟩
 refine zi (zr ?_)
 obtain ⟨h21,h⟩:=ite_some h
 refine zU (zl (yn (yn ?_)))
 cases h
 exact ⟨rfl,zE⟩
 refine zj (zs (zd ?_))
 obtain ⟨h22,h⟩:=ite_some h
 obtain ⟨h23,h⟩:=ite_some h
 refine yU ?_
 refine yd (zn (zr ?_))
 refine zU (zl (yn (yn ?_)))
 cases h
 exact ⟨rfl,zE⟩
 refine zj (zx (ze ?_))
 cases h
 exact ⟨rfl,zE⟩
 refine zw 10 false ?_
 refine zh ?_
 refine zU (zl (zn ?_))
 refine zj (zx (ze ?_))
 cases h
 exact ⟨rfl,zE⟩
 try simp only at h
 refine zA (yh (zn (zs (zr ?_))))
 refine zU (zl (zn (zq ?_)))
 cases h
 exact zT Tryz.results137
set_option maxHeartbeats 4000000 in
theorem similarity_Common_con (a1:List UInt8) (b2:List UInt8) (q3:Int) (r4:Ratio×Int) (h:similarity_Common a1 b2 q3=some r4):Con False Tryz.prog 83 [(.str a1),(.str b2),(.int .i64 q3)] (.tup [(encRatio r4.1),(.int .i64 r4.2)]):=by
 refine zP Tryz.call83 Tryz.func83 rfl Tryz.ntmps83 fun X w hT=>?_
 simp only [similarity_Common] at h
 refine zs (zr ?_)
 refine zU (zl (zn (zs (zs (zr ?_)))))
 refine zU ?_
 obtain ⟨r5,h6,h⟩:=zB h
 refine zc (similarity_long_con [a1,b2] _ h6) ?_
 refine zl (zn ?_)
 rcases zI h with ⟨h7,h⟩ | ⟨h7,h⟩
 refine zi (zs (zr ?_))
 refine zU (zl (zn (zq (zt ?_))))
 cases h
 exact zT Tryz.results83
 refine zj (zk (zn (zs (zr ?_))))
 refine zU ?_
 obtain ⟨r8,h9,h⟩:=zB h
 refine zc (similarity_Grams_con a1 q3 _ h9) ?_
 refine zU (zl (zn (zs (zr ?_))))
 refine zU ?_
 obtain ⟨r10,h11,h⟩:=zB h
 refine zc (similarity_Grams_con b2 q3 _ h11) ?_
 refine zU (zl (zn (zs (zs (zr ?_)))))
 refine zU (zl (zn ?_))
 rcases zI h with ⟨h12,h⟩ | ⟨h12,h⟩
 refine zi (zs (zr ?_))
 refine zU (zl (zn (zq (zt ?_))))
 cases h
 exact zT Tryz.results83
 refine zj (zk (zn (zs (zs (zr ?_)))))
 refine zU (zl (zn ?_))
 rcases zI h with ⟨h13,h⟩ | ⟨h13,h⟩
 refine zi (zs (zr ?_))
 refine zU (zl (zn (zq (zt ?_))))
 cases h
 exact zT Tryz.results83
 refine zj (zk (zn (zs (zr ?_))))
 refine zU ?_
 obtain ⟨r14,h15,h⟩:=zB h
 refine zc (similarity_shared_con r8.1 r10.1 _ h15) ?_
 refine zU ?_
 obtain ⟨r16,h17,h⟩:=zB h
 refine zc (ratio_Make_con (IntKind.i64.wrap (2 * r14)) (IntKind.i64.wrap ((r8.1.length:Int)+(r10.1.length:Int))) _ h17) ?_
 refine zU (zl (zn (zq ?_)))
 cases h
 exact zT Tryz.results83
set_option maxRecDepth 20000 in
set_option maxHeartbeats 4000000 in
theorem similarity_Match_con (x1:Row) (y2:Row) (c3:Similar) (r4:Bool×Int) (h:similarity_Match x1 y2 c3=some r4):Con False Tryz.prog 41 [(encRow x1),(encRow y2),(encSimilar c3)] (.tup [(.bool r4.1),(.int .i64 r4.2)]):=by
 refine zP Tryz.call41 Tryz.func41 rfl Tryz.ntmps41 fun X w hT=>?_
 simp only [similarity_Match] at h
 refine zs (zr ?_)
 refine zU (zl (zn (zs (zs (zr ?_)))))
 refine zU ?_
 rcases zI h with ⟨h5,h⟩ | ⟨h5,h⟩
 refine zw 18 true ?_
 refine zh ?_
 refine zU ?_
 refine zh ?_
 refine zU (zl (zn ?_))
 refine zi (zs (zr ?_))
 refine zU (zl (zn (zq (zt ?_))))
 cases h
 exact zT Tryz.results41
 refine zw 18 false ?_
 refine zg ?_
 refine zg ?_
 refine zg ?_
 refine zg ?_
 refine zg ?_
 refine zg ?_
 refine zU ?_
 rcases zI h with ⟨h6,h⟩ | ⟨h6,h⟩
 refine zw 26 true ?_
 refine zh ?_
 refine zU (zl (zn ?_))
 refine zi (zs (zr ?_))
 refine zU (zl (zn (zq (zt ?_))))
 cases h
 exact zT Tryz.results41
 refine zw 26 false ?_
 refine zg ?_
 refine zg ?_
 refine zg ?_
 refine zg ?_
 refine zg ?_
 refine zg ?_
 refine zU (zl (zn ?_))
 rcases zI h with ⟨h7,h⟩ | ⟨h7,h⟩
 refine zi (zs (zr ?_))
 refine zU (zl (zn (zq (zt ?_))))
 cases h
 exact zT Tryz.results41
 refine zj (zk (zn (zs (zd ?_))))
 obtain ⟨x8,h9,h9a,h9b,h⟩:=zX h
 obtain ⟨x10,h11,h11a,h11b,h⟩:=zX h
 refine yU ?_
 refine yd (zn (zs (zs (zr ?_))))
 refine zU ?_
 obtain ⟨r12,h13,h⟩:=zB h
 refine zc (value_Valid_con x8 _ h13) ?_
 refine zU ?_
 rcases zI h with ⟨h14,h⟩ | ⟨h14,h⟩
 refine zw 49 false ?_
 refine zg ?_
 obtain ⟨r15,h16,h⟩:=zB h
 refine zc (value_Valid_con x10 _ h16) ?_
 refine zg ?_
 refine zU ?_
 rcases zI h with ⟨h17,h⟩ | ⟨h17,h⟩
 refine zw 54 false ?_
 refine zg ?_
 obtain ⟨r18,h19,h⟩:=zB h
 refine zc (similarity_valid_con c3 _ h19) ?_
 refine zg ?_
 refine zU (zl (zn ?_))
 rcases zI h with ⟨h20,h⟩ | ⟨h20,h⟩
 refine zj (zk (zn (zs ?_)))
 obtain ⟨t21,h22,h⟩:=zB h
 refine zJ (fun (o23:Bool)=>tE (cX Tryz.f41 X w False hT) .normal ⟨[(5,.loc 5 1 0 0),(8,.loc 8 1 0 0),(9,.loc 9 1 0 0),(66,.p (.bool o23))],[(5,.arr 95 3 1 [.p (encSimilar c3)]),(8,.arr 142 3 1 [.p (encValue x8)]),(9,.arr 142 3 1 [.p (encValue x10)])]⟩) t21 ?_ ?_
 replace h:=h22
 clear h22
 refine zr ?_
 refine zU ?_
 rcases zI h with ⟨h24,h⟩ | ⟨h24,h⟩
 refine zw 62 true ?_
 refine zh ?_
 refine zU (zl ?_)
 cases h
 exact ⟨rfl,zE⟩
 replace h:=h.symm
 refine zw 62 false ?_
 refine zg ?_
 refine zg ?_
 refine zg ?_
 refine zU (zl ?_)
 cases h
 exact ⟨rfl,zE⟩
 try simp only at h
 refine zA (zn ?_)
 rcases zI h with ⟨h25,h⟩ | ⟨h25,h⟩
 refine zi (zs (zr ?_))
 refine zU (zl (zn (zq (zt ?_))))
 cases h
 exact zT Tryz.results41
 refine zj (zk (zn (zs (zd ?_))))
 refine yU ?_
 refine yd (zn (zs (zs (zr ?_))))
 refine zU (zl (zn (zb (zs (zr ?_)))))
 refine zU (zl (zn ?_))
 rcases zI h with ⟨h26,h⟩ | ⟨h26,h⟩
 refine zi (zs (zr ?_))
 refine zU ?_
 obtain ⟨r27,h28,h⟩:=zB h
 refine zc (similarity_Within_con x8.Str x10.Str c3.Limit _ h28) ?_
 refine zU (zl (zn (zq (yr (zt ?_)))))
 cases h
 exact zT Tryz.results41
 refine zj (zs (zr ?_))
 refine zU (zl (zn ?_))
 rcases zI h with ⟨h29,h⟩ | ⟨h29,h⟩
 refine zi (zs (zr ?_))
 refine zU ?_
 obtain ⟨r30,h31,h⟩:=zB h
 refine zc (similarity_Common_con x8.Str x10.Str 2 _ h31) ?_
 refine zU (zl (zn (zs (zr ?_))))
 refine zU ?_
 rcases zI h with ⟨h32,h⟩ | ⟨h32,h⟩
 replace h:=h.symm
 refine zw 95 true ?_
 refine zg ?_
 refine zg ?_
 refine zg ?_
 refine zg ?_
 refine zg ?_
 refine zg ?_
 refine zg ?_
 refine zg ?_
 refine zg ?_
 refine zU (zl (zn (zq (yr (zt ?_)))))
 cases h
 exact zT Tryz.results41
 refine zw 95 false ?_
 refine zh ?_
 refine zU (zl (zn (zq (yr (zt ?_)))))
 cases h
 exact zT Tryz.results41
 refine zj (zs (zr ?_))
 refine zU (zl (zn ?_))
 rcases zI h with ⟨h33,h⟩ | ⟨h33,h⟩
 refine zi (zs (zr ?_))
 refine zU (zl (zn (zs (zd ?_))))
 obtain ⟨h34,h⟩:=ite_some h
 obtain ⟨h35,h⟩:=ite_some h
 obtain ⟨h36,h⟩:=ite_some h
 obtain ⟨h37,h⟩:=ite_some h
 refine yU ?_
 refine yd (zn (zq (yr (zt ?_))))
 cases h
 exact zT Tryz.results41
 refine zj (zk (yn (zn (zs (zr ?_)))))
 refine zU (zl (zn (zq ?_)))
 cases h
 exact zT Tryz.results41
 refine zi (zs (zr ?_))
 refine zU (zl (zn (zq (zt ?_))))
 cases h
 exact zT Tryz.results41
 refine zw 54 true ?_
 refine zh ?_
 refine zU (zl (zn ?_))
 refine zi (zs (zr ?_))
 refine zU (zl (zn (zq (zt ?_))))
 cases h
 exact zT Tryz.results41
 refine zw 49 true ?_
 refine zh ?_
 refine zU ?_
 refine zh ?_
 refine zU (zl (zn ?_))
 refine zi (zs (zr ?_))
 refine zU (zl (zn (zq (zt ?_))))
 cases h
 exact zT Tryz.results41
set_option maxHeartbeats 4000000 in
theorem slices_IndexFunc_int_con {D:Prop} (s1:List Int) (f2:Int→Option (Bool)) (f2_k:FuncId) (f2_cs:List PV) (f2_h:∀(y3:Int) (r4:Bool),f2 y3=some r4→Con D Tryz.prog f2_k ((.int .i64 y3) :: f2_cs) (.bool r4)) (r5:Int) (h:slices_IndexFunc_int s1 f2=some r5):Con D Tryz.prog 84 [(.slc (List.map (PV.int .i64) s1)),.func (.func f2_k) f2_cs] (.int .i64 r5):=by
 refine zP Tryz.call84 Tryz.func84 rfl Tryz.ntmps84 fun X w hT=>?_
 simp only [slices_IndexFunc_int] at h
 refine zs (zr ?_)
 refine zU (zl (zn (zs (zs (zr ?_)))))
 refine zU (zl (zn (zb ?_)))
 obtain ⟨o6,h7,h⟩:=zB h
 refine zO (fun (s:Int)=>⟨[(0,.p (.slc (List.map (PV.int .i64) s1))),(1,.p (.func (.func f2_k) f2_cs)),(7,.p (.int .i64 (s1.length:Int))),(8,.p (.int .i64 s))],[]⟩) (fun (o:(Unit) ⊕ (Int))=>match o with | .inl o8=>tE (cX Tryz.f84 X w D hT) (.exit 0) ⟨[],[]⟩ | .inr o9=>tR Tryz.prog Tryz.f84 (.int .i64 o9)) h7 ?_ ?_
 clear h h7
 intro t10 x h
 simp only [slices_IndexFunc_int_l1] at h
 refine zs (zr ?_)
 refine zU (zl (zn (zs ?_)))
 rcases zI h with ⟨h11,h⟩ | ⟨h11,h⟩
 refine zi (zk (zn (zs (zb (zs (zr ?_))))))
 refine zU (zl (zn (zs (zr ?_))))
 obtain ⟨x12,h13,h13a,h13b,h⟩:=zX h
 refine zU ?_
 obtain ⟨r14,h15,h⟩:=zB h
 refine zc (f2_h x12 _ h15) ?_
 refine zl (zn ?_)
 rcases zI h with ⟨h16,h⟩ | ⟨h16,h⟩
 refine zi (zs (zr ?_))
 refine zU (zl (zn (zq (yr (zt ?_)))))
 cases h
 exact ⟨rfl,zT Tryz.results84⟩
 refine zj (zk (yn (zn (zr ?_))))
 refine zU (zl ?_)
 cases h
 exact ⟨rfl,zE⟩
 refine zj (zx (ze ?_))
 cases h
 exact ⟨rfl,zE⟩
 rcases o6 with ⟨⟩ | r17
 try simp only at h
 refine zA (yh (zn (zs (zr ?_))))
 refine zU (zl (zn (zq ?_)))
 cases h
 exact zT Tryz.results84
 try simp only at h
 refine zZ fun s hq=>?_
 refine yr (zt ?_)
 cases h
 exact hq
set_option maxHeartbeats 4000000 in
theorem slices_ContainsFunc_int_con {D:Prop} (s1:List Int) (f2:Int→Option (Bool)) (f2_k:FuncId) (f2_cs:List PV) (f2_h:∀(y3:Int) (r4:Bool),f2 y3=some r4→Con D Tryz.prog f2_k ((.int .i64 y3) :: f2_cs) (.bool r4)) (r5:Bool) (h:slices_ContainsFunc_int s1 f2=some r5):Con D Tryz.prog 42 [(.slc (List.map (PV.int .i64) s1)),.func (.func f2_k) f2_cs] (.bool r5):=by
 refine zP Tryz.call42 Tryz.func42 rfl Tryz.ntmps42 fun X w hT=>?_
 simp only [slices_ContainsFunc_int] at h
 refine zs (zr ?_)
 refine zU (zl (zn (zs (zr ?_))))
 refine zU ?_
 obtain ⟨r6,h7,h⟩:=zB h
 refine zc (slices_IndexFunc_int_con s1 f2 f2_k f2_cs f2_h _ h7) ?_
 refine zU (zl (zn (zq ?_)))
 cases h
 exact zT Tryz.results42
set_option maxHeartbeats 4000000 in
theorem linkage_Valid_1_con {D:Prop} (a1:Int) (c2:Int) (r3:Bool) (h:linkage_Valid_1 a1 c2=some r3):Con D Tryz.prog 43 [(.int .i64 a1),.imm [.int .i64 c2]] (.bool r3):=by
 refine zP Tryz.call43 Tryz.func43 rfl Tryz.ntmps43 fun X w hT=>?_
 simp only [linkage_Valid_1] at h
 refine zs (zr ?_)
 refine zU (zl (zn (zs (zr ?_))))
 refine zU ?_
 rcases zI h with ⟨h4,h⟩ | ⟨h4,h⟩
 refine zw 6 true ?_
 refine zh ?_
 refine zU (zl (zn (zq ?_)))
 cases h
 exact zT Tryz.results43
 replace h:=h.symm
 refine zw 6 false ?_
 refine zg ?_
 refine zg ?_
 refine zg ?_
 refine zU (zl (zn (zq ?_)))
 cases h
 exact zT Tryz.results43
set_option maxHeartbeats 4000000 in
theorem linkage_Valid_2_con {D:Prop} (s1:Int) (r2:Bool) (h:linkage_Valid_2 s1=some r2):Con D Tryz.prog 47 [(.int .i64 s1)] (.bool r2):=by
 refine zP Tryz.call47 Tryz.func47 rfl Tryz.ntmps47 fun X w hT=>?_
 simp only [linkage_Valid_2] at h
 refine zs (zr ?_)
 refine zU (zl (zn (zs (zr ?_))))
 refine zU ?_
 rcases zI h with ⟨h3,h⟩ | ⟨h3,h⟩
 refine zw 5 true ?_
 refine zh ?_
 refine zU (zl (zn (zq ?_)))
 cases h
 exact zT Tryz.results47
 replace h:=h.symm
 refine zw 5 false ?_
 refine zg ?_
 refine zg ?_
 refine zU (zl (zn (zq ?_)))
 cases h
 exact zT Tryz.results47
set_option maxRecDepth 20000 in
set_option maxHeartbeats 4000000 in
theorem linkage_Valid_con (n1:Int) (l2:Linkage) (r3:Int) (h:linkage_Valid n1 l2=some r3):Con False Tryz.prog 14 [(.int .i64 n1),(encLinkage l2)] (.int .i64 r3):=by
 refine zP Tryz.call14 Tryz.func14 rfl Tryz.ntmps14 fun X w hT=>?_
 simp only [linkage_Valid] at h
 refine zs (zr ?_)
 refine zU (zl (zn (zs (zs (zr ?_)))))
 refine zU ?_
 rcases zI h with ⟨h4,h⟩ | ⟨h4,h⟩
 have h4T:=eq_true h4
 refine zw 15 true ?_
 refine zh ?_
 refine zU (zl (zn ?_))
 refine zi (zs (zr ?_))
 refine zU (zl (zn (zq (zt ?_))))
 cases h
 exact zT Tryz.results14
 have h4T:=eq_false h4
 refine zw 15 false ?_
 refine zg ?_
 refine zg ?_
 refine zU (zl (zn ?_))
 rcases zI h with ⟨h5,h⟩ | ⟨h5,h⟩
 have h5T:=eq_true h5
 refine zi (zs (zr ?_))
 refine zU (zl (zn (zq (zt ?_))))
 cases h
 exact zT Tryz.results14
 have h5T:=eq_false h5
 refine zj (zk (zn (zs (zs (zr ?_)))))
 refine zU (zl (zn ?_))
 rcases zI h with ⟨h6,h⟩ | ⟨h6,h⟩
 have h6T:=eq_true h6
 refine zi (zs (zr ?_))
 refine zU (zl (zn (zq (zt ?_))))
 cases h
 exact zT Tryz.results14
 have h6T:=eq_false h6
 refine zj (zk (zn (zs (zr ?_))))
 obtain ⟨h7,h⟩:=ite_some h
 obtain ⟨h8,h⟩:=ite_some h
 refine zU (zl (zn (zs (zs ?_))))
 obtain ⟨l9,h10,h⟩:=zB h
 replace h10:=Option.some.inj h10
 refine awp_le (st':=⟨[(2,.loc 2 1 0 0),(3,.loc 3 1 0 0),(5,.loc 5 1 0 0)],[(2,.arr 3 1 1 [.p (.int .i64 n1)]),(3,.arr 25 3 1 [.p (encLinkage l2)]),(5,.arr 66 2 1 [.agg [.p (.int .i64 0),.own 24 1 0 l9.length]]),(24,.arr 142 3 1 (List.map AV.p (List.map encValue l9)))]⟩) (by simp only [go_sem,seval,h4T,h5T,h6T,←h10];all_goals ((repeat' refine And.intro ?_ ?_) <;> first | rfl | (simp;done) | (simp;rfl) | (simp [*];done) | (simp [*];rfl))) ?_
 clear h10
 refine zr ?_
 refine zU (zl (zn (zb ?_)))
 obtain ⟨o11,h12,h⟩:=zB h
 refine zO (fun (s:Int)=>⟨[(2,.loc 2 1 0 0),(3,.loc 3 1 0 0),(5,.loc 5 1 0 0),(27,.p (.slc (List.map (encL encSimilar) l2.Rules))),(28,.p (.int .i64 (l2.Rules.length:Int))),(29,.p (.int .i64 s))],[(2,.arr 3 1 1 [.p (.int .i64 n1)]),(3,.arr 25 3 1 [.p (encLinkage l2)]),(5,.arr 66 2 1 [.agg [.p (.int .i64 0),.own 24 1 0 l9.length]]),(24,.arr 142 3 1 (List.map AV.p (List.map encValue l9)))]⟩) (fun (o:(Unit) ⊕ (Int))=>match o with | .inl o13=>tE (cX Tryz.f14 X w False hT) (.exit 0) ⟨[(2,.loc 2 1 0 0),(3,.loc 3 1 0 0)],[(2,.arr 3 1 1 [.p (.int .i64 n1)]),(3,.arr 25 3 1 [.p (encLinkage l2)])]⟩ | .inr o14=>tR Tryz.prog Tryz.f14 (.int .i64 o14)) h12 ?_ ?_
 clear h h4 h4T h5 h5T h6 h6T h7 h8 h12
 intro t15 x h
 simp only [linkage_Valid_l4] at h
 refine zs (zr ?_)
 refine zU (zl (zn (zs ?_)))
 rcases zI h with ⟨h16,h⟩ | ⟨h16,h⟩
 refine zi (zk (zn (zs (zb (zs (zr ?_))))))
 obtain ⟨x17,h18,h18a,h18b,h⟩:=zX h
 refine zU (zl (zn (zs (zs (zr ?_)))))
 refine zU ?_
 rcases zI h with ⟨h19,h⟩ | ⟨h19,h⟩
 refine zw 36 true ?_
 refine zh ?_
 refine zU (zl (zn ?_))
 refine zi (zs (zr ?_))
 refine zU (zl (zn (zq (zt (yr (zt ?_))))))
 cases h
 exact ⟨rfl,zT Tryz.results14⟩
 refine zw 36 false ?_
 refine zg ?_
 refine zg ?_
 refine zg ?_
 refine zU (zl (zn ?_))
 rcases zI h with ⟨h20,h⟩ | ⟨h20,h⟩
 refine zi (zs (zr ?_))
 refine zU (zl (zn (zq (zt (yr (zt ?_))))))
 cases h
 exact ⟨rfl,zT Tryz.results14⟩
 refine zj (zk (zn (zs (zr ?_))))
 refine zU (zl (zn (zb ?_)))
 obtain ⟨o21,h22,h⟩:=zB h
 refine zO (fun (s:Int)=>⟨[(2,.loc 2 1 0 0),(3,.loc 3 1 0 0),(5,.loc 5 1 0 0),(27,.p (.slc (List.map (encL encSimilar) l2.Rules))),(28,.p (.int .i64 (l2.Rules.length:Int))),(29,.p (.int .i64 t15)),(41,.p (.slc (List.map encSimilar x17))),(42,.p (.int .i64 (x17.length:Int))),(43,.p (.int .i64 s))],[(2,.arr 3 1 1 [.p (.int .i64 n1)]),(3,.arr 25 3 1 [.p (encLinkage l2)]),(5,.arr 66 2 1 [.agg [.p (.int .i64 0),.own 24 1 0 l9.length]]),(24,.arr 142 3 1 (List.map AV.p (List.map encValue l9)))]⟩) (fun (o:(Unit) ⊕ (Int))=>match o with | .inl o23=>tE (cX Tryz.f14 X w False hT) (.exit 2) ⟨[(2,.loc 2 1 0 0),(3,.loc 3 1 0 0),(5,.loc 5 1 0 0),(27,.p (.slc (List.map (encL encSimilar) l2.Rules))),(28,.p (.int .i64 (l2.Rules.length:Int))),(29,.p (.int .i64 t15))],[(2,.arr 3 1 1 [.p (.int .i64 n1)]),(3,.arr 25 3 1 [.p (encLinkage l2)]),(5,.arr 66 2 1 [.agg [.p (.int .i64 0),.own 24 1 0 l9.length]]),(24,.arr 142 3 1 (List.map AV.p (List.map encValue l9)))]⟩ | .inr o24=>tR Tryz.prog Tryz.f14 (.int .i64 o24)) h22 ?_ ?_
 clear h h16 h18 h18a h18b h19 h20 h22
 intro t25 x h
 simp only [linkage_Valid_l3] at h
 refine zs (zr ?_)
 refine zU (zl (zn (zs ?_)))
 rcases zI h with ⟨h26,h⟩ | ⟨h26,h⟩
 refine zi (zk (zn (zs (zb (zs (zr ?_))))))
 obtain ⟨x27,h28,h28a,h28b,h⟩:=zX h
 refine zU (zl (zn (zs (zr ?_))))
 refine zU ?_
 obtain ⟨r29,h30,h⟩:=zB h
 refine zc (similarity_Match_con (Row.mk 0 l9) (Row.mk 0 l9) x27 _ h30) ?_
 refine zU (zl (zn (zs (zr ?_))))
 refine zU (zl (zn ?_))
 rcases zI h with ⟨h31,h⟩ | ⟨h31,h⟩
 refine zi (zs (zr ?_))
 refine zU (zl (zn (zq (yr (zt ?_)))))
 cases h
 exact ⟨rfl,zT Tryz.results14⟩
 refine zj (zk (yn (zn (zr ?_))))
 refine zU (zl ?_)
 cases h
 exact ⟨rfl,zE⟩
 refine zj (zx (ze ?_))
 cases h
 exact ⟨rfl,zE⟩
 rcases o21 with ⟨⟩ | r32
 try simp only at h
 refine zA (yh (yn (zn (zr ?_))))
 refine zU (zl ?_)
 cases h
 exact ⟨rfl,zE⟩
 try simp only at h
 refine zZ fun s hq=>?_
 refine yr (yr (zt ?_))
 cases h
 refine ⟨rfl,?_⟩
 exact hq
 refine zj (zx (ze ?_))
 cases h
 exact ⟨rfl,zE⟩
 rcases o11 with ⟨⟩ | r33
 try simp only at h
 refine zA (yh (zn (zs (zs (zr ?_)))))
 refine zU ?_
 obtain ⟨r34,h35,h⟩:=zB h
 refine zc (slices_ContainsFunc_int_con l2.Block (fun (y36:Int)=>linkage_Valid_1 y36 n1) 43 [.imm [.int .i64 n1]] (fun y36 r h=>linkage_Valid_1_con y36 n1 r h) _ h35) ?_
 refine zl (zn ?_)
 rcases zI h with ⟨h37,h⟩ | ⟨h37,h⟩
 refine zi (zs (zr ?_))
 refine zU (zl (zn (zq (zt ?_))))
 cases h
 exact zT Tryz.results14
 have h37F:=Bool.eq_false_iff.2 h37
 refine zj (zk (zn (zs (zr ?_))))
 refine zU ?_
 obtain ⟨h38,h⟩:=ite_some h
 refine zM ⟨[(2,.loc 2 1 0 0),(3,.loc 3 1 0 0),(64,.p (.slc (List.map (PV.int .i64) l2.Block)))],[(2,.arr 3 1 1 [.p (.int .i64 n1)]),(3,.arr 25 3 1 [.p (encLinkage l2)])]⟩ ?_
 refine AL_inline (avs:=[.p (.slc (List.map (PV.int .i64) l2.Block))]) 83 rfl (guard_none rfl) rfl Tryz.func44 rfl Tryz.call44 Tryz.ntmps44 (by simp) (by simp only [go_sem,seval,h4T,h5T,h6T,h37F,h38];all_goals rfl) ?_
 intro i39 w40 h41
 refine awp_post (T:=fun e s'=>(e=.normal∨e=.ret)∧Le ⟨Tryz.prog,8,83,X,[(2,.arr 3 1 1 [.p (.int .i64 n1)]),(3,.arr 25 3 1 [.p (encLinkage l2)])],i39,w40,False,h41⟩ s' ⟨[(2,.own 88 1 0 (l2.Block).length)],[(2,.arr 3 1 1 [.p (.int .i64 n1)]),(3,.arr 25 3 1 [.p (encLinkage l2)]),(88,.arr 3 1 1 (List.map AV.p (List.map (PV.int .i64) l2.Block)))]⟩) ?_ ?_
 show AWp _ _ _ ⟨[(0,.p (.slc (List.map (PV.int .i64) l2.Block)))],[(2,.arr 3 1 1 [.p (.int .i64 n1)]),(3,.arr 25 3 1 [.p (encLinkage l2)])]⟩
 refine zs (zr ?_)
 refine zU (zl (zn (zs (zs (zr ?_)))))
 refine zW 1 ?_
 refine AL_nileq (by simp only [go_sem,seval,h4T,h5T,h6T,h37F,h38];exact rfl) (by simp only [go_sem,seval,h4T,h5T,h6T,h37F,h38]) Tryz.underlying23 rfl ?_
 intro b hb
 refine zl (zn ?_)
 cases b
 refine zj (zk (zn (zs (zr ?_))))
 refine zU (zl (zn (zq ?_)))
 refine ⟨.inr rfl,?_⟩
 exact zV
 refine zi ?_
 have h42:l2.Block=[]:=by
   rcases hz:l2.Block with _ | ⟨x,z⟩
   · rfl
   · rw [hz] at hb;exact absurd (hb (by simp)) (by simp)
 refine zs (zr ?_)
 refine zU (zl (zn (zq (zt ?_))))
 refine ⟨.inr rfl,?_⟩
 exact zV
 intro e s' hT
 obtain ⟨he,hle⟩:=hT
 refine Wk.to hle ?_
 refine inlQ_any he (by simp only [Tryz.results44];simp only [go_sem,seval,h4T,h5T,h6T,h37F,h38];exact rfl) ?_
 clear hle he
 refine zU (zl (zn (zs (zr ?_))))
 refine zU ?_
 refine zM ⟨[(2,.loc 2 1 0 0),(3,.loc 3 1 0 0),(12,.own 88 1 0 (l2.Block).length),(66,.own 88 1 0 (l2.Block).length)],[(2,.arr 3 1 1 [.p (.int .i64 n1)]),(3,.arr 25 3 1 [.p (encLinkage l2)]),(88,.arr 3 1 1 (List.map AV.p (List.map (PV.int .i64) l2.Block)))]⟩ ?_
 obtain ⟨l43,h44,h⟩:=zB h
 refine zSI srt45 h44 ?_
 have h45:=srtIF_len h44
 refine zM ⟨[(2,.loc 2 1 0 0),(3,.loc 3 1 0 0),(12,.own 88 1 0 l43.length),(67,.p (.tup []))],[(2,.arr 3 1 1 [.p (.int .i64 n1)]),(3,.arr 25 3 1 [.p (encLinkage l2)]),(88,.arr 3 1 1 (List.map AV.p (List.map (PV.int .i64) l43)))]⟩ ?_
 clear h45
 refine zl (zn (zs (zs ?_)))
 refine zL ⟨[(2,.loc 2 1 0 0),(3,.loc 3 1 0 0),(12,.own 88 1 0 l43.length)],[(2,.arr 3 1 1 [.p (.int .i64 n1)]),(3,.arr 25 3 1 [.p (encLinkage l2)]),(88,.arr 3 1 1 (List.map AV.p (List.map (PV.int .i64) l43)))]⟩ ?_
 refine zH [3] mixed (fun i46 w47 h48 r49 h50 h51=>?_)
 refine zHm 0 ?_
 refine zHf 3 ?_
 refine zHl 4 3 h50 ?_
 refine zHb 5 rfl ?_
 obtain ⟨l52,h53,h⟩:=zB h
 refine zHc cpt46 1 h51 h53 ?_
 have h54:=cptF_len h53
 refine zHb 2 rfl ?_
 refine zHq 6 ?_
 refine zHe ?_
 refine zn ?_
 rcases zI h with ⟨h55,h⟩ | ⟨h55,h⟩
 refine zi (zs (zr ?_))
 refine zU (zl (zn (zq (zt ?_))))
 cases h
 exact zT Tryz.results14
 refine zj (zk (zn (zs (zs (zr ?_)))))
 refine zU (zl (zn ?_))
 rcases zI h with ⟨h56,h⟩ | ⟨h56,h⟩
 refine zi (zs (zr ?_))
 refine zU (zl (zn (zq (zt ?_))))
 cases h
 exact zT Tryz.results14
 refine zj (zk (zn (zs (zs (zr ?_)))))
 refine zU ?_
 obtain ⟨r57,h58,h⟩:=zB h
 refine zc (slices_ContainsFunc_int_con l2.Survive (fun (y59:Int)=>linkage_Valid_2 y59) 47 [] (fun y59 r h=>linkage_Valid_2_con y59 r h) _ h58) ?_
 refine zl (zn ?_)
 rcases zI h with ⟨h60,h⟩ | ⟨h60,h⟩
 refine zi (zs (zr ?_))
 refine zU (zl (zn (zq (zt ?_))))
 cases h
 exact zT Tryz.results14
 refine zj (zk (zn (zs (zr ?_))))
 refine zU (zl (zn (zq ?_)))
 cases h
 exact zT Tryz.results14
 try simp only at h
 refine zZ fun s hq=>?_
 refine yr (zt ?_)
 cases h
 exact hq
set_option maxRecDepth 20000 in
set_option maxHeartbeats 4000000 in
theorem table_isName_con {D:Prop} (s1:List UInt8) (r2:Bool) (h:table_isName s1=some r2):Con D Tryz.prog 152 [(.str s1)] (.bool r2):=by
 refine zP Tryz.call152 Tryz.func152 rfl Tryz.ntmps152 fun X w hT=>?_
 simp only [table_isName] at h
 refine zs (zr ?_)
 refine zU (zl (zn (zs (zs (zr ?_)))))
 refine zU ?_
 rcases zI h with ⟨h3,h⟩ | ⟨h3,h⟩
 refine zw 8 true ?_
 refine zh ?_
 refine zU ?_
 refine zh ?_
 refine zU (zl (zn ?_))
 refine zi (zs (zr ?_))
 refine zU (zl (zn (zq (zt ?_))))
 cases h
 exact zT Tryz.results152
 refine zw 8 false ?_
 refine zg ?_
 refine zg ?_
 refine zg ?_
 refine zU ?_
 rcases zI h with ⟨h4,h⟩ | ⟨h4,h⟩
 refine zw 13 true ?_
 refine zh ?_
 refine zU (zl (zn ?_))
 refine zi (zs (zr ?_))
 refine zU (zl (zn (zq (zt ?_))))
 cases h
 exact zT Tryz.results152
 refine zw 13 false ?_
 refine zg ?_
 refine zg ?_
 refine zU (zl (zn ?_))
 rcases zI h with ⟨h5,h⟩ | ⟨h5,h⟩
 refine zi (zs (zr ?_))
 refine zU (zl (zn (zq (zt ?_))))
 cases h
 exact zT Tryz.results152
 refine zj (zk (zn (zs (zs (zr ?_)))))
 refine zU (zl (zn (zb ?_)))
 obtain ⟨o6,h7,h⟩:=zB h
 refine zO (fun (s:Int)=>⟨[(0,.p (.str s1)),(18,.p (.int .i64 (s1.length:Int))),(19,.p (.int .i64 s))],[]⟩) (fun (o:(Unit) ⊕ (Bool))=>match o with | .inl o8=>tE (cX Tryz.f152 X w D hT) (.exit 0) ⟨[],[]⟩ | .inr o9=>tR Tryz.prog Tryz.f152 (.bool o9)) h7 ?_ ?_
 clear h h3 h4 h5 h7
 intro t10 x h
 simp only [table_isName_l1] at h
 refine zs (zr ?_)
 refine zU (zl (zn (zs ?_)))
 rcases zI h with ⟨h11,h⟩ | ⟨h11,h⟩
 refine zi (zk (zn (zs (zb (zs (zr ?_))))))
 refine zU (zl (zn (zs (zr ?_))))
 obtain ⟨c12,h13,h13a,h13b,h⟩:=zX h
 refine zU (zl (zn ?_))
 obtain ⟨l14,h15,h⟩:=zB h
 refine zJ (fun (o16:Bool)=>tE (cX Tryz.f152 X w D hT) .normal ⟨[(0,.p (.str s1)),(3,.p (.int .i64 t10)),(4,.p (.int .u8 ((c12.toNat:Nat):Int))),(5,.p (.bool o16)),(18,.p (.int .i64 (s1.length:Int))),(19,.p (.int .i64 t10))],[]⟩) l14 ?_ ?_
 replace h:=h15
 clear h15
 refine zr ?_
 refine zU ?_
 rcases zI h with ⟨h17,h⟩ | ⟨h17,h⟩
 refine zw 27 true ?_
 refine zg ?_
 refine zg ?_
 refine zU ?_
 rcases zI h with ⟨h18,h⟩ | ⟨h18,h⟩
 refine zw 31 true ?_
 refine zh ?_
 refine zU ?_
 refine zh ?_
 refine zU (zl ?_)
 cases h
 exact ⟨rfl,zE⟩
 refine zw 31 false ?_
 refine zg ?_
 refine zg ?_
 refine zg ?_
 rcases zI h with ⟨h19,h⟩ | ⟨h19,h⟩
 refine zw 34 true ?_
 refine zg ?_
 refine zg ?_
 refine zg ?_
 refine zU ?_
 rcases zI h with ⟨h20,h⟩ | ⟨h20,h⟩
 refine zw 39 true ?_
 refine zh ?_
 refine zU (zl ?_)
 cases h
 exact ⟨rfl,zE⟩
 replace h:=h.symm
 refine zw 39 false ?_
 refine zg ?_
 refine zg ?_
 refine zU (zl ?_)
 cases h
 exact ⟨rfl,zE⟩
 replace h:=h.symm
 refine zw 34 false ?_
 refine zh ?_
 refine zg ?_
 refine zU ?_
 refine zg ?_
 refine zg ?_
 refine zU (zl ?_)
 cases h
 exact ⟨rfl,zE⟩
 refine zw 27 false ?_
 refine zh ?_
 refine zU ?_
 refine zg ?_
 refine zg ?_
 refine zg ?_
 rcases zI h with ⟨h21,h⟩ | ⟨h21,h⟩
 refine zw 34 true ?_
 refine zg ?_
 refine zg ?_
 refine zg ?_
 refine zU ?_
 rcases zI h with ⟨h22,h⟩ | ⟨h22,h⟩
 refine zw 39 true ?_
 refine zh ?_
 refine zU (zl ?_)
 cases h
 exact ⟨rfl,zE⟩
 replace h:=h.symm
 refine zw 39 false ?_
 refine zg ?_
 refine zg ?_
 refine zU (zl ?_)
 cases h
 exact ⟨rfl,zE⟩
 replace h:=h.symm
 refine zw 34 false ?_
 refine zh ?_
 refine zg ?_
 refine zU ?_
 refine zg ?_
 refine zg ?_
 refine zU (zl ?_)
 cases h
 exact ⟨rfl,zE⟩
 try simp only at h
 refine zA (zn (zs (zr ?_)))
 refine zU ?_
 rcases zI h with ⟨h23,h⟩ | ⟨h23,h⟩
 refine zw 45 false ?_
 refine zh ?_
 refine zU (zl (zn ?_))
 refine zj (zk (yn (zn (zr ?_))))
 refine zU (zl ?_)
 cases h
 exact ⟨rfl,zE⟩
 refine zw 45 true ?_
 refine zg ?_
 refine zg ?_
 refine zg ?_
 rcases zI h with ⟨h24,h⟩ | ⟨h24,h⟩
 replace h:=h.symm
 refine zw 48 true ?_
 refine zh ?_
 refine zg ?_
 refine zg ?_
 refine zh ?_
 refine zg ?_
 refine zU (zl (zn ?_))
 refine zi (zs (zr ?_))
 refine zU (zl (zn (zq (yr (zt ?_)))))
 cases h
 exact ⟨rfl,zT Tryz.results152⟩
 refine zw 48 false ?_
 refine zg ?_
 refine zg ?_
 refine zg ?_
 refine zg ?_
 rcases zI h with ⟨h25,h⟩ | ⟨h25,h⟩
 replace h:=h.symm
 refine zw 52 true ?_
 refine zh ?_
 refine zg ?_
 refine zU (zl (zn ?_))
 refine zi (zs (zr ?_))
 refine zU (zl (zn (zq (yr (zt ?_)))))
 cases h
 exact ⟨rfl,zT Tryz.results152⟩
 refine zw 52 false ?_
 refine zg ?_
 refine zg ?_
 refine zg ?_
 refine zU (zl (zn ?_))
 rcases zI h with ⟨h26,h⟩ | ⟨h26,h⟩
 refine zi (zs (zr ?_))
 refine zU (zl (zn (zq (yr (zt ?_)))))
 cases h
 exact ⟨rfl,zT Tryz.results152⟩
 refine zj (zk (yn (zn (zr ?_))))
 refine zU (zl ?_)
 cases h
 exact ⟨rfl,zE⟩
 refine zj (zx (ze ?_))
 cases h
 exact ⟨rfl,zE⟩
 rcases o6 with ⟨⟩ | r27
 try simp only at h
 refine zA (yh (zn (zs (zr ?_))))
 refine zU (zl (zn (zq ?_)))
 cases h
 exact zT Tryz.results152
 try simp only at h
 refine zZ fun s hq=>?_
 refine yr (zt ?_)
 cases h
 exact hq
set_option maxHeartbeats 4000000 in
theorem slices_Index_string_con {D:Prop} (s1:List (List UInt8)) (v2:List UInt8) (r3:Int) (h:slices_Index_string s1 v2=some r3):Con D Tryz.prog 206 [(.slc (List.map PV.str s1)),(.str v2)] (.int .i64 r3):=by
 refine zP Tryz.call206 Tryz.func206 rfl Tryz.ntmps206 fun X w hT=>?_
 simp only [slices_Index_string] at h
 refine zs (zr ?_)
 refine zU (zl (zn (zs (zs (zr ?_)))))
 refine zU (zl (zn (zb ?_)))
 obtain ⟨o4,h5,h⟩:=zB h
 refine zO (fun (s:Int)=>⟨[(0,.p (.slc (List.map PV.str s1))),(1,.p (.str v2)),(7,.p (.int .i64 (s1.length:Int))),(8,.p (.int .i64 s))],[]⟩) (fun (o:(Unit) ⊕ (Int))=>match o with | .inl o6=>tE (cX Tryz.f206 X w D hT) (.exit 0) ⟨[],[]⟩ | .inr o7=>tR Tryz.prog Tryz.f206 (.int .i64 o7)) h5 ?_ ?_
 clear h h5
 intro t8 x h
 simp only [slices_Index_string_l1] at h
 refine zs (zr ?_)
 refine zU (zl (zn (zs ?_)))
 rcases zI h with ⟨h9,h⟩ | ⟨h9,h⟩
 refine zi (zk (zn (zs (zb (zs (zr ?_))))))
 refine zU (zl (zn (zs (zr ?_))))
 obtain ⟨x10,h11,h11a,h11b,h⟩:=zX h
 refine zU (zl (zn ?_))
 rcases zI h with ⟨h12,h⟩ | ⟨h12,h⟩
 refine zi (zs (zr ?_))
 refine zU (zl (zn (zq (yr (zt ?_)))))
 cases h
 exact ⟨rfl,zT Tryz.results206⟩
 refine zj (zk (yn (zn (zr ?_))))
 refine zU (zl ?_)
 cases h
 exact ⟨rfl,zE⟩
 refine zj (zx (ze ?_))
 cases h
 exact ⟨rfl,zE⟩
 rcases o4 with ⟨⟩ | r13
 try simp only at h
 refine zA (yh (zn (zs (zr ?_))))
 refine zU (zl (zn (zq ?_)))
 cases h
 exact zT Tryz.results206
 try simp only at h
 refine zZ fun s hq=>?_
 refine yr (zt ?_)
 cases h
 exact hq
set_option maxHeartbeats 4000000 in
theorem slices_Contains_string_con {D:Prop} (s1:List (List UInt8)) (v2:List UInt8) (r3:Bool) (h:slices_Contains_string s1 v2=some r3):Con D Tryz.prog 153 [(.slc (List.map PV.str s1)),(.str v2)] (.bool r3):=by
 refine zP Tryz.call153 Tryz.func153 rfl Tryz.ntmps153 fun X w hT=>?_
 simp only [slices_Contains_string] at h
 refine zs (zr ?_)
 refine zU (zl (zn (zs (zr ?_))))
 refine zU ?_
 obtain ⟨r4,h5,h⟩:=zB h
 refine zc (slices_Index_string_con s1 v2 _ h5) ?_
 refine zU (zl (zn (zq ?_)))
 cases h
 exact zT Tryz.results153
set_option maxHeartbeats 4000000 in
theorem slices_IndexFunc_Value_con {D:Prop} (s1:List Value) (f2:Value→Option (Bool)) (f2_k:FuncId) (f2_cs:List PV) (f2_h:∀(y3:Value) (r4:Bool),f2 y3=some r4→Con D Tryz.prog f2_k ((encValue y3) :: f2_cs) (.bool r4)) (r5:Int) (h:slices_IndexFunc_Value s1 f2=some r5):Con D Tryz.prog 239 [(.slc (List.map encValue s1)),.func (.func f2_k) f2_cs] (.int .i64 r5):=by
 refine zP Tryz.call239 Tryz.func239 rfl Tryz.ntmps239 fun X w hT=>?_
 simp only [slices_IndexFunc_Value] at h
 refine zs (zr ?_)
 refine zU (zl (zn (zs (zs (zr ?_)))))
 refine zU (zl (zn (zb ?_)))
 obtain ⟨o6,h7,h⟩:=zB h
 refine zO (fun (s:Int)=>⟨[(0,.p (.slc (List.map encValue s1))),(1,.p (.func (.func f2_k) f2_cs)),(7,.p (.int .i64 (s1.length:Int))),(8,.p (.int .i64 s))],[]⟩) (fun (o:(Unit) ⊕ (Int))=>match o with | .inl o8=>tE (cX Tryz.f239 X w D hT) (.exit 0) ⟨[],[]⟩ | .inr o9=>tR Tryz.prog Tryz.f239 (.int .i64 o9)) h7 ?_ ?_
 clear h h7
 intro t10 x h
 simp only [slices_IndexFunc_Value_l1] at h
 refine zs (zr ?_)
 refine zU (zl (zn (zs ?_)))
 rcases zI h with ⟨h11,h⟩ | ⟨h11,h⟩
 refine zi (zk (zn (zs (zb (zs (zr ?_))))))
 refine zU (zl (zn (zs (zr ?_))))
 obtain ⟨x12,h13,h13a,h13b,h⟩:=zX h
 refine zU ?_
 obtain ⟨r14,h15,h⟩:=zB h
 refine zc (f2_h x12 _ h15) ?_
 refine zl (zn ?_)
 rcases zI h with ⟨h16,h⟩ | ⟨h16,h⟩
 refine zi (zs (zr ?_))
 refine zU (zl (zn (zq (yr (zt ?_)))))
 cases h
 exact ⟨rfl,zT Tryz.results239⟩
 refine zj (zk (yn (zn (zr ?_))))
 refine zU (zl ?_)
 cases h
 exact ⟨rfl,zE⟩
 refine zj (zx (ze ?_))
 cases h
 exact ⟨rfl,zE⟩
 rcases o6 with ⟨⟩ | r17
 try simp only at h
 refine zA (yh (zn (zs (zr ?_))))
 refine zU (zl (zn (zq ?_)))
 cases h
 exact zT Tryz.results239
 try simp only at h
 refine zZ fun s hq=>?_
 refine yr (zt ?_)
 cases h
 exact hq
set_option maxHeartbeats 4000000 in
theorem slices_ContainsFunc_Value_con {D:Prop} (s1:List Value) (f2:Value→Option (Bool)) (f2_k:FuncId) (f2_cs:List PV) (f2_h:∀(y3:Value) (r4:Bool),f2 y3=some r4→Con D Tryz.prog f2_k ((encValue y3) :: f2_cs) (.bool r4)) (r5:Bool) (h:slices_ContainsFunc_Value s1 f2=some r5):Con D Tryz.prog 207 [(.slc (List.map encValue s1)),.func (.func f2_k) f2_cs] (.bool r5):=by
 refine zP Tryz.call207 Tryz.func207 rfl Tryz.ntmps207 fun X w hT=>?_
 simp only [slices_ContainsFunc_Value] at h
 refine zs (zr ?_)
 refine zU (zl (zn (zs (zr ?_))))
 refine zU ?_
 obtain ⟨r6,h7,h⟩:=zB h
 refine zc (slices_IndexFunc_Value_con s1 f2 f2_k f2_cs f2_h _ h7) ?_
 refine zU (zl (zn (zq ?_)))
 cases h
 exact zT Tryz.results207
set_option maxHeartbeats 4000000 in
theorem table_validValues_1_con {D:Prop} (v1:Value) (r2:Bool) (h:table_validValues_1 v1=some r2):Con D Tryz.prog 208 [(encValue v1)] (.bool r2):=by
 refine zP Tryz.call208 Tryz.func208 rfl Tryz.ntmps208 fun X w hT=>?_
 simp only [table_validValues_1] at h
 refine zs (zr ?_)
 refine zU (zl (zn (zs (zr ?_))))
 refine zU ?_
 obtain ⟨r3,h4,h⟩:=zB h
 refine zc (value_Valid_con v1 _ h4) ?_
 refine zU (zl (zn (zq ?_)))
 cases h
 exact zT Tryz.results208
set_option maxHeartbeats 4000000 in
theorem table_validValues_con {D:Prop} (l1:List Value) (r2:Bool) (h:table_validValues l1=some r2):Con D Tryz.prog 154 [(.slc (List.map encValue l1))] (.bool r2):=by
 refine zP Tryz.call154 Tryz.func154 rfl Tryz.ntmps154 fun X w hT=>?_
 simp only [table_validValues] at h
 refine zs (zr ?_)
 refine zU (zl (zn (zs (zr ?_))))
 refine zU ?_
 obtain ⟨r3,h4,h⟩:=zB h
 refine zc (slices_ContainsFunc_Value_con l1 (fun (y5:Value)=>table_validValues_1 y5) 208 [] (fun y5 r h=>table_validValues_1_con y5 r h) _ h4) ?_
 refine zU (zl (zn (zq ?_)))
 cases h
 exact zT Tryz.results154
set_option maxHeartbeats 4000000 in
theorem table_Valid_con {D:Prop} (t1:Table) (r2:Int) (h:table_Valid t1=some r2):Con D Tryz.prog 89 [(encTable t1)] (.int .i64 r2):=by
 refine zP Tryz.call89 Tryz.func89 rfl Tryz.ntmps89 fun X w hT=>?_
 simp only [table_Valid] at h
 refine zs (zr ?_)
 refine zU (zl (zn (zs (zs (zr ?_)))))
 refine zU ?_
 obtain ⟨r3,h4,h⟩:=zB h
 refine zc (table_isName_con t1.Name _ h4) ?_
 refine zU (zl (zn ?_))
 rcases zI h with ⟨h5,h⟩ | ⟨h5,h⟩
 refine zj (zk (zn (zs (zs (zr ?_)))))
 refine zU ?_
 rcases zI h with ⟨h6,h⟩ | ⟨h6,h⟩
 refine zw 16 true ?_
 refine zh ?_
 refine zU (zl (zn ?_))
 refine zi (zs (zr ?_))
 refine zU (zl (zn (zq (zt ?_))))
 cases h
 exact zT Tryz.results89
 refine zw 16 false ?_
 refine zg ?_
 refine zg ?_
 refine zg ?_
 refine zg ?_
 refine zU (zl (zn ?_))
 rcases zI h with ⟨h7,h⟩ | ⟨h7,h⟩
 refine zi (zs (zr ?_))
 refine zU (zl (zn (zq (zt ?_))))
 cases h
 exact zT Tryz.results89
 refine zj (zk (zn (zs (zs (zr ?_)))))
 refine zU (zl (zn (zb ?_)))
 obtain ⟨o8,h9,h⟩:=zB h
 refine zO (fun (s:Int)=>⟨[(1,.loc 1 1 0 0),(23,.p (.slc (List.map PV.str t1.Attrs))),(24,.p (.int .i64 (t1.Attrs.length:Int))),(25,.p (.int .i64 s))],[(1,.arr 41 3 1 [.p (encTable t1)])]⟩) (fun (o:(Unit) ⊕ (Int))=>match o with | .inl o10=>tE (cX Tryz.f89 X w D hT) (.exit 0) ⟨[(1,.loc 1 1 0 0)],[(1,.arr 41 3 1 [.p (encTable t1)])]⟩ | .inr o11=>tR Tryz.prog Tryz.f89 (.int .i64 o11)) h9 ?_ ?_
 clear h h4 h5 h6 h7 h9
 intro t12 x h
 simp only [table_Valid_l1] at h
 refine zs (zr ?_)
 refine zU (zl (zn (zs ?_)))
 rcases zI h with ⟨h13,h⟩ | ⟨h13,h⟩
 refine zi (zk (zn (zs (zb (zs (zr ?_))))))
 obtain ⟨x14,h15,h15a,h15b,h⟩:=zX h
 refine zU (zl (zn (zs (zr ?_))))
 refine zU ?_
 obtain ⟨r16,h17,h⟩:=zB h
 refine zc (table_isName_con x14 _ h17) ?_
 refine zU ?_
 rcases zI h with ⟨h18,h⟩ | ⟨h18,h⟩
 refine zw 33 false ?_
 refine zg ?_
 refine zg ?_
 refine zg ?_
 obtain ⟨h19,h⟩:=ite_some h
 obtain ⟨h20,h⟩:=ite_some h
 refine zg ?_
 refine zg ?_
 obtain ⟨r21,h22,h⟩:=zB h
 refine zc (slices_Contains_string_con (t1.Attrs.take (t12.toNat)) x14 _ h22) ?_
 refine zU (zl (zn ?_))
 rcases zI h with ⟨h23,h⟩ | ⟨h23,h⟩
 refine zi (zs (zr ?_))
 refine zU (zl (zn (zq (yr (zt ?_)))))
 cases h
 exact ⟨rfl,zT Tryz.results89⟩
 refine zj (zk (yn (zn (zr ?_))))
 refine zU (zl ?_)
 cases h
 exact ⟨rfl,zE⟩
 refine zw 33 true ?_
 refine zh ?_
 refine zU (zl (zn ?_))
 refine zi (zs (zr ?_))
 refine zU (zl (zn (zq (yr (zt ?_)))))
 cases h
 exact ⟨rfl,zT Tryz.results89⟩
 refine zj (zx (ze ?_))
 cases h
 exact ⟨rfl,zE⟩
 rcases o8 with ⟨⟩ | r24
 try simp only at h
 refine zA (yh (zn (zs (zr ?_))))
 refine zU (zl (zn (zs (zs (zr ?_)))))
 refine zU (zl (zn (zb ?_)))
 obtain ⟨o25,h26,h⟩:=zB h
 refine zO (fun (s:Int×Int)=>⟨[(1,.loc 1 1 0 0),(5,.p (.int .i64 s.1)),(43,.p (.slc (List.map encRow t1.Rows))),(44,.p (.int .i64 (t1.Rows.length:Int))),(45,.p (.int .i64 s.2))],[(1,.arr 41 3 1 [.p (encTable t1)])]⟩) (fun (o:(Unit) ⊕ (Int))=>match o with | .inl o27=>tE (cX Tryz.f89 X w D hT) (.exit 2) ⟨[],[]⟩ | .inr o28=>tR Tryz.prog Tryz.f89 (.int .i64 o28)) h26 ?_ ?_
 clear h h4 h5 h6 h7 h9 h26
 intro s x h
 obtain ⟨l29,t30⟩:=s
 simp only [table_Valid_l2] at h
 dsimp only
 refine zs (zr ?_)
 refine zU (zl (zn (zs ?_)))
 rcases zI h with ⟨h31,h⟩ | ⟨h31,h⟩
 refine zi (zk (zn (zs (zb (zs (zr ?_))))))
 obtain ⟨x32,h33,h33a,h33b,h⟩:=zX h
 refine zU (zl (zn (zs (zb (zs (zr ?_))))))
 refine zU (zl (zn ?_))
 rcases zI h with ⟨h34,h⟩ | ⟨h34,h⟩
 refine zi (zs (zr ?_))
 refine zU (zl (zn (zq (yr (zt (yr (zt ?_)))))))
 cases h
 exact ⟨rfl,zT Tryz.results89⟩
 refine zj (zs (zr ?_))
 refine zU (zl (zn ?_))
 rcases zI h with ⟨h35,h⟩ | ⟨h35,h⟩
 refine zi (zs (zr ?_))
 refine zU (zl (zn (zq (yr (zt (yr (zt ?_)))))))
 cases h
 exact ⟨rfl,zT Tryz.results89⟩
 refine zj (zs (zr ?_))
 refine zU ?_
 obtain ⟨r36,h37,h⟩:=zB h
 refine zc (table_validValues_con x32.Values _ h37) ?_
 refine zU (zl (zn ?_))
 rcases zI h with ⟨h38,h⟩ | ⟨h38,h⟩
 refine zj (zk (yn (zn (zr ?_))))
 refine zU (zl (yn (zn (zr ?_))))
 refine zU (zl ?_)
 cases h
 exact ⟨rfl,zE⟩
 refine zi (zs (zr ?_))
 refine zU (zl (zn (zq (yr (zt (yr (zt ?_)))))))
 cases h
 exact ⟨rfl,zT Tryz.results89⟩
 refine zj (zx (ze ?_))
 cases h
 exact ⟨rfl,zE⟩
 rcases o25 with ⟨⟩ | r39
 try simp only at h
 refine zA (yh (zn (zs (zr ?_))))
 refine zU (zl (zn (zq ?_)))
 cases h
 exact zT Tryz.results89
 try simp only at h
 refine zZ fun s hq=>?_
 refine yr (zt ?_)
 cases h
 exact hq
 try simp only at h
 refine zZ fun s hq=>?_
 refine yr (zt ?_)
 cases h
 exact hq
 refine zi (zs (zr ?_))
 refine zU (zl (zn (zq (zt ?_))))
 cases h
 exact zT Tryz.results89
set_option maxHeartbeats 4000000 in
theorem linkage_limits_con (t1:Table) (l2:Linkage) (r3:Int) (h:linkage_limits t1 l2=some r3):Con False Tryz.prog 51 [(encTable t1),(encLinkage l2)] (.int .i64 r3):=by
 refine zP Tryz.call51 Tryz.func51 rfl Tryz.ntmps51 fun X w hT=>?_
 simp only [linkage_limits] at h
 refine zs (zr ?_)
 refine zU (zl (zn (zs (zs (zr ?_)))))
 refine zU ?_
 obtain ⟨r4,h5,h⟩:=zB h
 refine zc (table_Valid_con t1 _ h5) ?_
 refine zU (zl (zn (zs (zr ?_))))
 refine zU (zl (zn ?_))
 rcases zI h with ⟨h6,h⟩ | ⟨h6,h⟩
 refine zi (zs (zr ?_))
 refine zU (zl (zn (zq (zt ?_))))
 cases h
 exact zT Tryz.results51
 refine zj (zk (zn (zs (zs (zr ?_)))))
 refine zU ?_
 obtain ⟨r7,h8,h⟩:=zB h
 refine zc (linkage_Valid_con (t1.Attrs.length:Int) l2 _ h8) ?_
 refine zU (zl (zn (zs (zr ?_))))
 refine zU (zl (zn ?_))
 rcases zI h with ⟨h9,h⟩ | ⟨h9,h⟩
 refine zi (zs (zr ?_))
 refine zU (zl (zn (zq (zt ?_))))
 cases h
 exact zT Tryz.results51
 refine zj (zk (zn (zs (zs (zr ?_)))))
 refine zU (zl (zn ?_))
 rcases zI h with ⟨h10,h⟩ | ⟨h10,h⟩
 refine zi (zs (zr ?_))
 refine zU (zl (zn (zq (zt ?_))))
 cases h
 exact zT Tryz.results51
 refine zj (zk (zn (zs (zr ?_))))
 refine zU (zl (zn (zq ?_)))
 cases h
 exact zT Tryz.results51
set_option maxHeartbeats 4000000 in
theorem slices_IndexFunc_Similar_con {D:Prop} (s1:List (List Similar)) (f2:(List Similar)→Option (Bool)) (f2_k:FuncId) (f2_cs:List PV) (f2_h:∀(y3:List Similar) (r4:Bool),f2 y3=some r4→Con D Tryz.prog f2_k ((.slc (List.map encSimilar y3)) :: f2_cs) (.bool r4)) (r5:Int) (h:slices_IndexFunc_Similar s1 f2=some r5):Con D Tryz.prog 111 [(.slc (List.map (encL encSimilar) s1)),.func (.func f2_k) f2_cs] (.int .i64 r5):=by
 refine zP Tryz.call111 Tryz.func111 rfl Tryz.ntmps111 fun X w hT=>?_
 simp only [slices_IndexFunc_Similar] at h
 refine zs (zr ?_)
 refine zU (zl (zn (zs (zs (zr ?_)))))
 refine zU (zl (zn (zb ?_)))
 obtain ⟨o6,h7,h⟩:=zB h
 refine zO (fun (s:Int)=>⟨[(0,.p (.slc (List.map (encL encSimilar) s1))),(1,.p (.func (.func f2_k) f2_cs)),(7,.p (.int .i64 (s1.length:Int))),(8,.p (.int .i64 s))],[]⟩) (fun (o:(Unit) ⊕ (Int))=>match o with | .inl o8=>tE (cX Tryz.f111 X w D hT) (.exit 0) ⟨[],[]⟩ | .inr o9=>tR Tryz.prog Tryz.f111 (.int .i64 o9)) h7 ?_ ?_
 clear h h7
 intro t10 x h
 simp only [slices_IndexFunc_Similar_l1] at h
 refine zs (zr ?_)
 refine zU (zl (zn (zs ?_)))
 rcases zI h with ⟨h11,h⟩ | ⟨h11,h⟩
 refine zi (zk (zn (zs (zb (zs (zr ?_))))))
 refine zU (zl (zn (zs (zr ?_))))
 obtain ⟨x12,h13,h13a,h13b,h⟩:=zX h
 refine zU ?_
 obtain ⟨r14,h15,h⟩:=zB h
 refine zc (f2_h x12 _ h15) ?_
 refine zl (zn ?_)
 rcases zI h with ⟨h16,h⟩ | ⟨h16,h⟩
 refine zi (zs (zr ?_))
 refine zU (zl (zn (zq (yr (zt ?_)))))
 cases h
 exact ⟨rfl,zT Tryz.results111⟩
 refine zj (zk (yn (zn (zr ?_))))
 refine zU (zl ?_)
 cases h
 exact ⟨rfl,zE⟩
 refine zj (zx (ze ?_))
 cases h
 exact ⟨rfl,zE⟩
 rcases o6 with ⟨⟩ | r17
 try simp only at h
 refine zA (yh (zn (zs (zr ?_))))
 refine zU (zl (zn (zq ?_)))
 cases h
 exact zT Tryz.results111
 try simp only at h
 refine zZ fun s hq=>?_
 refine yr (zt ?_)
 cases h
 exact hq
set_option maxHeartbeats 4000000 in
theorem slices_IndexFunc_Similar_2_con {D:Prop} (s1:List Similar) (f2:Similar→Option (Bool)) (f2_k:FuncId) (f2_cs:List PV) (f2_h:∀(y3:Similar) (r4:Bool),f2 y3=some r4→Con D Tryz.prog f2_k ((encSimilar y3) :: f2_cs) (.bool r4)) (r5:Int) (h:slices_IndexFunc_Similar_2 s1 f2=some r5):Con D Tryz.prog 173 [(.slc (List.map encSimilar s1)),.func (.func f2_k) f2_cs] (.int .i64 r5):=by
 refine zP Tryz.call173 Tryz.func173 rfl Tryz.ntmps173 fun X w hT=>?_
 simp only [slices_IndexFunc_Similar_2] at h
 refine zs (zr ?_)
 refine zU (zl (zn (zs (zs (zr ?_)))))
 refine zU (zl (zn (zb ?_)))
 obtain ⟨o6,h7,h⟩:=zB h
 refine zO (fun (s:Int)=>⟨[(0,.p (.slc (List.map encSimilar s1))),(1,.p (.func (.func f2_k) f2_cs)),(7,.p (.int .i64 (s1.length:Int))),(8,.p (.int .i64 s))],[]⟩) (fun (o:(Unit) ⊕ (Int))=>match o with | .inl o8=>tE (cX Tryz.f173 X w D hT) (.exit 0) ⟨[],[]⟩ | .inr o9=>tR Tryz.prog Tryz.f173 (.int .i64 o9)) h7 ?_ ?_
 clear h h7
 intro t10 x h
 simp only [slices_IndexFunc_Similar_2_l1] at h
 refine zs (zr ?_)
 refine zU (zl (zn (zs ?_)))
 rcases zI h with ⟨h11,h⟩ | ⟨h11,h⟩
 refine zi (zk (zn (zs (zb (zs (zr ?_))))))
 refine zU (zl (zn (zs (zr ?_))))
 obtain ⟨x12,h13,h13a,h13b,h⟩:=zX h
 refine zU ?_
 obtain ⟨r14,h15,h⟩:=zB h
 refine zc (f2_h x12 _ h15) ?_
 refine zl (zn ?_)
 rcases zI h with ⟨h16,h⟩ | ⟨h16,h⟩
 refine zi (zs (zr ?_))
 refine zU (zl (zn (zq (yr (zt ?_)))))
 cases h
 exact ⟨rfl,zT Tryz.results173⟩
 refine zj (zk (yn (zn (zr ?_))))
 refine zU (zl ?_)
 cases h
 exact ⟨rfl,zE⟩
 refine zj (zx (ze ?_))
 cases h
 exact ⟨rfl,zE⟩
 rcases o6 with ⟨⟩ | r17
 try simp only at h
 refine zA (yh (zn (zs (zr ?_))))
 refine zU (zl (zn (zq ?_)))
 cases h
 exact zT Tryz.results173
 try simp only at h
 refine zZ fun s hq=>?_
 refine yr (zt ?_)
 cases h
 exact hq
set_option maxHeartbeats 4000000 in
theorem slices_ContainsFunc_Similar_con {D:Prop} (s1:List Similar) (f2:Similar→Option (Bool)) (f2_k:FuncId) (f2_cs:List PV) (f2_h:∀(y3:Similar) (r4:Bool),f2 y3=some r4→Con D Tryz.prog f2_k ((encSimilar y3) :: f2_cs) (.bool r4)) (r5:Bool) (h:slices_ContainsFunc_Similar s1 f2=some r5):Con D Tryz.prog 113 [(.slc (List.map encSimilar s1)),.func (.func f2_k) f2_cs] (.bool r5):=by
 refine zP Tryz.call113 Tryz.func113 rfl Tryz.ntmps113 fun X w hT=>?_
 simp only [slices_ContainsFunc_Similar] at h
 refine zs (zr ?_)
 refine zU (zl (zn (zs (zr ?_))))
 refine zU ?_
 obtain ⟨r6,h7,h⟩:=zB h
 refine zc (slices_IndexFunc_Similar_2_con s1 f2 f2_k f2_cs f2_h _ h7) ?_
 refine zU (zl (zn (zq ?_)))
 cases h
 exact zT Tryz.results113
set_option maxHeartbeats 4000000 in
theorem linkage_holds_1_1_con (c1:Similar) (c2:Row) (c3:Row) (r4:Bool) (h:linkage_holds_1_1 c1 c2 c3=some r4):Con False Tryz.prog 114 [(encSimilar c1),.imm [.int .i64 c2.ID,.slc (List.map encValue c2.Values)],.imm [.int .i64 c3.ID,.slc (List.map encValue c3.Values)]] (.bool r4):=by
 refine zP Tryz.call114 Tryz.func114 rfl Tryz.ntmps114 fun X w hT=>?_
 simp only [linkage_holds_1_1] at h
 refine zs (zr ?_)
 refine zU (zl (zn (zs (zr ?_))))
 refine zU ?_
 obtain ⟨r5,h6,h⟩:=zB h
 refine zc (similarity_Match_con c2 c3 c1 _ h6) ?_
 refine zU (zl (zn (zs (zr ?_))))
 refine zU (zl (zn (zq ?_)))
 cases h
 exact zT Tryz.results114
set_option maxHeartbeats 4000000 in
theorem linkage_holds_1_con (r1:List Similar) (c2:Row) (c3:Row) (r4:Bool) (h:linkage_holds_1 r1 c2 c3=some r4):Con False Tryz.prog 112 [(.slc (List.map encSimilar r1)),.imm [.int .i64 c2.ID,.slc (List.map encValue c2.Values)],.imm [.int .i64 c3.ID,.slc (List.map encValue c3.Values)]] (.bool r4):=by
 refine zP Tryz.call112 Tryz.func112 rfl Tryz.ntmps112 fun X w hT=>?_
 simp only [linkage_holds_1] at h
 refine zs (zr ?_)
 refine zU (zl (zn (zs (zr ?_))))
 refine zU ?_
 obtain ⟨r5,h6,h⟩:=zB h
 refine zc (slices_ContainsFunc_Similar_con r1 (fun (y7:Similar)=>linkage_holds_1_1 y7 c2 c3) 114 [.imm [.int .i64 c2.ID,.slc (List.map encValue c2.Values)],.imm [.int .i64 c3.ID,.slc (List.map encValue c3.Values)]] (fun y7 r h=>linkage_holds_1_1_con y7 c2 c3 r h) _ h6) ?_
 refine zU (zl (zn (zq ?_)))
 cases h
 exact zT Tryz.results112
set_option maxHeartbeats 4000000 in
theorem linkage_holds_con (l1:Linkage) (a2:Row) (b3:Row) (r4:Int) (h:linkage_holds l1 a2 b3=some r4):Con False Tryz.prog 73 [(encLinkage l1),(encRow a2),(encRow b3)] (.int .i64 r4):=by
 refine zP Tryz.call73 Tryz.func73 rfl Tryz.ntmps73 fun X w hT=>?_
 simp only [linkage_holds] at h
 refine zs (zr ?_)
 refine zU (zl (zn (zs (zr ?_))))
 refine zU ?_
 obtain ⟨r5,h6,h⟩:=zB h
 refine zc (slices_IndexFunc_Similar_con l1.Rules (fun (y7:List Similar)=>linkage_holds_1 y7 a2 b3) 112 [.imm [.int .i64 a2.ID,.slc (List.map encValue a2.Values)],.imm [.int .i64 b3.ID,.slc (List.map encValue b3.Values)]] (fun y7 r h=>linkage_holds_1_con y7 a2 b3 r h) _ h6) ?_
 refine zU (zl (zn (zq ?_)))
 cases h
 exact zT Tryz.results73
set_option maxRecDepth 20000 in
set_option maxHeartbeats 4000000 in
theorem linkage_compared_1_con {D:Prop} (k1:Int) (c2:Row) (c3:Row) (r4:Bool) (h:linkage_compared_1 k1 c2 c3=some r4):Con D Tryz.prog 155 [(.int .i64 k1),.imm [.int .i64 c2.ID,.slc (List.map encValue c2.Values)],.imm [.int .i64 c3.ID,.slc (List.map encValue c3.Values)]] (.bool r4):=by
 refine zP Tryz.call155 Tryz.func155 rfl Tryz.ntmps155 fun X w hT=>?_
 simp only [linkage_compared_1] at h
 refine zs (zr ?_)
 refine zU (zl (zn (zs (zd ?_))))
 obtain ⟨x5,h6,h6a,h6b,h⟩:=zX h
 obtain ⟨x7,h8,h8a,h8b,h⟩:=zX h
 refine yU ?_
 refine yd (zn (zq ?_))
 cases h
 exact zT Tryz.results155
set_option maxHeartbeats 4000000 in
theorem linkage_compared_con {D:Prop} (l1:Linkage) (a2:Row) (b3:Row) (r4:Bool) (h:linkage_compared l1 a2 b3=some r4):Con D Tryz.prog 90 [(encLinkage l1),(encRow a2),(encRow b3)] (.bool r4):=by
 refine zP Tryz.call90 Tryz.func90 rfl Tryz.ntmps90 fun X w hT=>?_
 simp only [linkage_compared] at h
 refine zs (zr ?_)
 refine zU (zl (zn (zs (zr ?_))))
 refine zU ?_
 rcases zI h with ⟨h5,h⟩ | ⟨h5,h⟩
 refine zw 11 true ?_
 refine zh ?_
 refine zU (zl (zn (zq ?_)))
 cases h
 exact zT Tryz.results90
 refine zw 11 false ?_
 refine zg ?_
 refine zg ?_
 refine zg ?_
 obtain ⟨r6,h7,h⟩:=zB h
 refine zc (slices_ContainsFunc_int_con l1.Block (fun (y8:Int)=>linkage_compared_1 y8 a2 b3) 155 [.imm [.int .i64 a2.ID,.slc (List.map encValue a2.Values)],.imm [.int .i64 b3.ID,.slc (List.map encValue b3.Values)]] (fun y8 r h=>linkage_compared_1_con y8 a2 b3 r h) _ h7) ?_
 refine zU (zl (zn (zq ?_)))
 cases h
 exact zT Tryz.results90
set_option maxHeartbeats 4000000 in
theorem linkage_matches_con (t1:Table) (l2:Linkage) (r3:List Arr2_int) (h:linkage_matches t1 l2=some r3):Con False Tryz.prog 52 [(encTable t1),(encLinkage l2)] (.slc (List.map encArr2_int r3)):=by
 refine zP Tryz.call52 Tryz.func52 rfl Tryz.ntmps52 fun X w hT=>?_
 simp only [linkage_matches] at h
 refine zs (zr ?_)
 refine zU (zl (zn (zs (zr ?_))))
 refine zU (zl (zn (zs (zs (zr ?_)))))
 refine zU (zl (zn (zb ?_)))
 obtain ⟨o4,h5,h⟩:=zB h
 refine zO (fun (s:List Arr2_int×Int)=>⟨[(2,.loc 2 1 0 0),(3,.loc 3 1 0 0),(5,.own 48 1 0 s.1.length),(11,.p (.slc (List.map encRow t1.Rows))),(12,.p (.int .i64 (t1.Rows.length:Int))),(13,.p (.int .i64 s.2))],[(2,.arr 41 3 1 [.p (encTable t1)]),(3,.arr 25 3 1 [.p (encLinkage l2)]),(48,.arr 108 2 1 (List.map AV.p (List.map encArr2_int s.1)))]⟩) (fun (o6:List Arr2_int)=>tE (cX Tryz.f52 X w False hT) (.exit 0) ⟨[(5,.own 48 1 0 o6.length)],[(48,.arr 108 2 1 (List.map AV.p (List.map encArr2_int o6)))]⟩) h5 ?_ ?_
 clear h h5
 intro s x h
 obtain ⟨o7,t8⟩:=s
 simp only [linkage_matches_l4] at h
 dsimp only
 refine zs (zr ?_)
 refine zU (zl (zn (zs ?_)))
 rcases zI h with ⟨h9,h⟩ | ⟨h9,h⟩
 refine zi (zk (zn (zs (zb (zs (zr ?_))))))
 obtain ⟨x10,h11,h11a,h11b,h⟩:=zX h
 refine zU (zl (zn (zs (zr ?_))))
 refine zU (zl (zn (zb ?_)))
 obtain ⟨o12,h13,h⟩:=zB h
 refine zO (fun (s:List Arr2_int×Int)=>⟨[(2,.loc 2 1 0 0),(3,.loc 3 1 0 0),(5,.own 48 1 0 s.1.length),(6,.p (.int .i64 t8)),(7,.loc 7 1 0 0),(8,.p (.int .i64 s.2)),(11,.p (.slc (List.map encRow t1.Rows))),(12,.p (.int .i64 (t1.Rows.length:Int))),(13,.p (.int .i64 t8))],[(2,.arr 41 3 1 [.p (encTable t1)]),(3,.arr 25 3 1 [.p (encLinkage l2)]),(7,.arr 66 2 1 [.p (encRow x10)]),(48,.arr 108 2 1 (List.map AV.p (List.map encArr2_int s.1)))]⟩) (fun (o14:List Arr2_int)=>tE (cX Tryz.f52 X w False hT) (.exit 2) ⟨[(2,.loc 2 1 0 0),(3,.loc 3 1 0 0),(5,.own 48 1 0 o14.length),(11,.p (.slc (List.map encRow t1.Rows))),(12,.p (.int .i64 (t1.Rows.length:Int))),(13,.p (.int .i64 t8))],[(2,.arr 41 3 1 [.p (encTable t1)]),(3,.arr 25 3 1 [.p (encLinkage l2)]),(48,.arr 108 2 1 (List.map AV.p (List.map encArr2_int o14)))]⟩) h13 ?_ ?_
 clear h h9 h11 h11a h11b h13
 intro s x h
 obtain ⟨o15,k16⟩:=s
 simp only [linkage_matches_l3] at h
 dsimp only
 refine zs (zs (zr ?_))
 refine zU (zl (zn ?_))
 rcases zI h with ⟨h17,h⟩ | ⟨h17,h⟩
 refine zi (zk (zn (zs (zb (zs (zr ?_))))))
 obtain ⟨x18,h19,h19a,h19b,h⟩:=zX h
 refine zU (zl (zn ?_))
 obtain ⟨t20,h21,h⟩:=zB h
 refine zJ (fun (o22:Bool)=>tE (cX Tryz.f52 X w False hT) .normal ⟨[(2,.loc 2 1 0 0),(3,.loc 3 1 0 0),(5,.own 48 1 0 o15.length),(6,.p (.int .i64 t8)),(7,.loc 7 1 0 0),(8,.p (.int .i64 k16)),(11,.p (.slc (List.map encRow t1.Rows))),(12,.p (.int .i64 (t1.Rows.length:Int))),(13,.p (.int .i64 t8)),(42,.p (.bool o22))],[(2,.arr 41 3 1 [.p (encTable t1)]),(3,.arr 25 3 1 [.p (encLinkage l2)]),(7,.arr 66 2 1 [.p (encRow x10)]),(48,.arr 108 2 1 (List.map AV.p (List.map encArr2_int o15)))]⟩) t20 ?_ ?_
 replace h:=h21
 clear h21
 refine zr ?_
 refine zU ?_
 obtain ⟨r23,h24,h⟩:=zB h
 refine zc (linkage_compared_con l2 x10 x18 _ h24) ?_
 refine zU ?_
 rcases zI h with ⟨h25,h⟩ | ⟨h25,h⟩
 refine zw 36 true ?_
 refine zg ?_
 refine zg ?_
 refine zg ?_
 obtain ⟨r26,h27,h⟩:=zB h
 replace h:=h.symm
 refine zc (linkage_holds_con l2 x10 x18 _ h27) ?_
 refine zg ?_
 refine zU (zl ?_)
 cases h
 exact ⟨rfl,zE⟩
 refine zw 36 false ?_
 refine zh ?_
 refine zU (zl ?_)
 cases h
 exact ⟨rfl,zE⟩
 try simp only at h
 refine zA (zn ?_)
 rcases zI h with ⟨h28,h⟩ | ⟨h28,h⟩
 refine zi (zr ?_)
 obtain ⟨h29,h⟩:=ite_some h
 refine zU (zl (yn (zn (zr ?_))))
 refine zU (zl ?_)
 cases h
 exact ⟨rfl,zE⟩
 refine zj (zk (yn (zn (zr ?_))))
 refine zU (zl ?_)
 cases h
 exact ⟨rfl,zE⟩
 refine zj (zx (ze ?_))
 cases h
 exact ⟨rfl,zE⟩
 try simp only at h
 refine zA (yh (yn (zn (zr ?_))))
 refine zU (zl ?_)
 cases h
 exact ⟨rfl,zE⟩
 refine zj (zx (ze ?_))
 cases h
 exact ⟨rfl,zE⟩
 try simp only at h
 refine zA (yh (zn (zs (zr ?_))))
 refine zU (zl (zn (zq ?_)))
 cases h
 exact zT Tryz.results52
set_option maxRecDepth 20000 in
set_option maxHeartbeats 4000000 in
theorem linkage_Matches_con (t1:Table) (l2:Linkage) (r3:List Arr2_int64×Int) (h:linkage_Matches t1 l2=some r3):Con False Tryz.prog 17 [(encTable t1),(encLinkage l2)] (.tup [(.slc (List.map encArr2_int64 r3.1)),(.int .i64 r3.2)]):=by
 refine zP Tryz.call17 Tryz.func17 rfl Tryz.ntmps17 fun X w hT=>?_
 simp only [linkage_Matches] at h
 refine zs (zr ?_)
 refine zU (zl (zn (zs (zs (zr ?_)))))
 refine zU ?_
 obtain ⟨r4,h5,h⟩:=zB h
 refine zc (linkage_limits_con t1 l2 _ h5) ?_
 refine zU (zl (zn (zs (zr ?_))))
 refine zU (zl (zn ?_))
 rcases zI h with ⟨h6,h⟩ | ⟨h6,h⟩
 refine zi (zs (zr ?_))
 refine zU (zl (zn (zq (zt ?_))))
 cases h
 exact zT Tryz.results17
 refine zj (zk (zn (zs (zr ?_))))
 refine zU (zl (zn (zs (zs (zr ?_)))))
 refine zU ?_
 obtain ⟨r7,h8,h⟩:=zB h
 refine zc (linkage_matches_con t1 l2 _ h8) ?_
 refine zU (zl (zn (zb ?_)))
 obtain ⟨o9,h10,h⟩:=zB h
 refine zO (fun (s:List Arr2_int64×Int)=>⟨[(2,.loc 2 1 0 0),(7,.own 41 1 0 s.1.length),(18,.p (.slc (List.map encArr2_int r7))),(19,.p (.int .i64 (r7.length:Int))),(20,.p (.int .i64 s.2))],[(2,.arr 41 3 1 [.p (encTable t1)]),(41,.arr 58 2 1 (List.map AV.p (List.map encArr2_int64 s.1)))]⟩) (fun (o11:List Arr2_int64)=>tE (cX Tryz.f17 X w False hT) (.exit 0) ⟨[(7,.own 41 1 0 o11.length)],[(41,.arr 58 2 1 (List.map AV.p (List.map encArr2_int64 o11)))]⟩) h10 ?_ ?_
 clear h h5 h6 h8 h10
 intro s x h
 obtain ⟨o12,t13⟩:=s
 simp only [linkage_Matches_l1] at h
 dsimp only
 refine zs (zr ?_)
 refine zU (zl (zn (zs ?_)))
 rcases zI h with ⟨h14,h⟩ | ⟨h14,h⟩
 refine zi (zk (zn (zs (zb (zs (zr ?_))))))
 obtain ⟨x15,h16,h16a,h16b,h⟩:=zX h
 refine zU (zl (zn (zd ?_)))
 obtain ⟨x17,h18,h18a,h18b,h⟩:=zX h
 obtain ⟨x19,h20,h20a,h20b,h⟩:=zX h
 obtain ⟨h21,h⟩:=ite_some h
 refine yU ?_
 refine yd (yn (zn (zr ?_)))
 refine zU (zl ?_)
 cases h
 exact ⟨rfl,zE⟩
 refine zj (zx (ze ?_))
 cases h
 exact ⟨rfl,zE⟩
 try simp only at h
 refine zA (yh (zn (zs (zr ?_))))
 refine zU (zl (zn (zq ?_)))
 cases h
 exact zT Tryz.results17
set_option maxHeartbeats 4000000 in
theorem drossref56_SamePairs_con {D:Prop} (a1:List Arr2_int64) (b2:List Arr2_int64) (r3:Bool) (h:drossref56_SamePairs a1 b2=some r3):Con D Tryz.prog 18 [(.slc (List.map encArr2_int64 a1)),(.slc (List.map encArr2_int64 b2))] (.bool r3):=by
 refine zP Tryz.call18 Tryz.func18 rfl Tryz.ntmps18 fun X w hT=>?_
 simp only [drossref56_SamePairs] at h
 refine zs (zr ?_)
 refine zU (zl (zn (zs (zs (zr ?_)))))
 refine zU (zl (zn ?_))
 rcases zI h with ⟨h4,h⟩ | ⟨h4,h⟩
 refine zi (zs (zr ?_))
 refine zU (zl (zn (zq (zt ?_))))
 cases h
 exact zT Tryz.results18
 refine zj (zk (zn (zs (zs (zr ?_)))))
 refine zU (zl (zn (zb ?_)))
 obtain ⟨o5,h6,h⟩:=zB h
 refine zO (fun (s:Int)=>⟨[(0,.p (.slc (List.map encArr2_int64 a1))),(1,.p (.slc (List.map encArr2_int64 b2))),(5,.p (.int .i64 s))],[]⟩) (fun (o:(Unit) ⊕ (Bool))=>match o with | .inl o7=>tE (cX Tryz.f18 X w D hT) (.exit 0) ⟨[],[]⟩ | .inr o8=>tR Tryz.prog Tryz.f18 (.bool o8)) h6 ?_ ?_
 clear h h4 h6
 intro i9 x h
 simp only [drossref56_SamePairs_l1] at h
 refine zs (zs (zr ?_))
 refine zU (zl (zn ?_))
 rcases zI h with ⟨h10,h⟩ | ⟨h10,h⟩
 refine zi (zk (zn (zs (zb (zs (zd ?_))))))
 obtain ⟨x11,h12,h12a,h12b,h⟩:=zX h
 obtain ⟨x13,h14,h14a,h14b,h⟩:=zX h
 refine yU ?_
 refine yd (zn ?_)
 rcases zI h with ⟨h15,h⟩ | ⟨h15,h⟩
 refine zj (zk (yn (zn (zr ?_))))
 refine zU (zl ?_)
 cases h
 exact ⟨rfl,zE⟩
 refine zi (zs (zr ?_))
 refine zU (zl (zn (zq (yr (zt ?_)))))
 cases h
 exact ⟨rfl,zT Tryz.results18⟩
 refine zj (zx (ze ?_))
 cases h
 exact ⟨rfl,zE⟩
 rcases o5 with ⟨⟩ | r16
 try simp only at h
 refine zA (yh (zn (zs (zr ?_))))
 refine zU (zl (zn (zq ?_)))
 cases h
 exact zT Tryz.results18
 try simp only at h
 refine zZ fun s hq=>?_
 refine yr (zt ?_)
 cases h
 exact hq
set_option maxHeartbeats 4000000 in
theorem graph_Valid_con {D:Prop} (n1:Int) (e2:List Arr2_int) (r3:Int) (h:graph_Valid n1 e2=some r3):Con D Tryz.prog 92 [(.int .i64 n1),(.slc (List.map encArr2_int e2))] (.int .i64 r3):=by
 refine zP Tryz.call92 Tryz.func92 rfl Tryz.ntmps92 fun X w hT=>?_
 simp only [graph_Valid] at h
 refine zs (zr ?_)
 refine zU (zl (zn (zs (zb ?_))))
 obtain ⟨t4,h5,h⟩:=zB h
 refine zJ (fun (o6:Bool)=>tE (cX Tryz.f92 X w D hT) .normal ⟨[(0,.p (.int .i64 n1)),(1,.p (.slc (List.map encArr2_int e2))),(7,.p (.bool o6))],[]⟩) t4 ?_ ?_
 replace h:=h5
 clear h5
 refine zr ?_
 refine zU ?_
 rcases zI h with ⟨h7,h⟩ | ⟨h7,h⟩
 refine zw 10 true ?_
 refine zh ?_
 refine zU (zl ?_)
 cases h
 exact ⟨rfl,zE⟩
 replace h:=h.symm
 refine zw 10 false ?_
 refine zg ?_
 refine zg ?_
 refine zg ?_
 refine zU (zl ?_)
 cases h
 exact ⟨rfl,zE⟩
 try simp only at h
 refine zA (zn ?_)
 rcases zI h with ⟨h8,h⟩ | ⟨h8,h⟩
 refine zi (zs (zr ?_))
 refine zU (zl (zn (zq (yr (zt ?_)))))
 cases h
 exact zT Tryz.results92
 refine zj (zs (zr ?_))
 refine zU (zl (zn ?_))
 rcases zI h with ⟨h9,h⟩ | ⟨h9,h⟩
 refine zi (zs (zr ?_))
 refine zU (zl (zn (zq (yr (zt ?_)))))
 cases h
 exact zT Tryz.results92
 refine zj (zk (yn (zn (zs (zs (zr ?_))))))
 refine zU (zl (zn (zb ?_)))
 obtain ⟨o10,h11,h⟩:=zB h
 refine zO (fun (s:Int)=>⟨[(0,.p (.int .i64 n1)),(18,.p (.slc (List.map encArr2_int e2))),(19,.p (.int .i64 (e2.length:Int))),(20,.p (.int .i64 s))],[]⟩) (fun (o:(Unit) ⊕ (Int))=>match o with | .inl o12=>tE (cX Tryz.f92 X w D hT) (.exit 1) ⟨[],[]⟩ | .inr o13=>tR Tryz.prog Tryz.f92 (.int .i64 o13)) h11 ?_ ?_
 clear h h8 h9 h11
 intro t14 x h
 simp only [graph_Valid_l1] at h
 refine zs (zr ?_)
 refine zU (zl (zn (zs ?_)))
 rcases zI h with ⟨h15,h⟩ | ⟨h15,h⟩
 refine zi (zk (zn (zs (zb (zs (zr ?_))))))
 obtain ⟨x16,h17,h17a,h17b,h⟩:=zX h
 refine zU (zl (zn (zs (zr ?_))))
 refine zU ?_
 rcases zI h with ⟨h18,h⟩ | ⟨h18,h⟩
 refine zw 30 true ?_
 refine zh ?_
 refine zU (zl (zn ?_))
 refine zi (zs (zr ?_))
 refine zU (zl (zn (zq (yr (zt ?_)))))
 cases h
 exact ⟨rfl,zT Tryz.results92⟩
 refine zw 30 false ?_
 refine zg ?_
 refine zg ?_
 refine zg ?_
 refine zg ?_
 refine zg ?_
 refine zg ?_
 refine zg ?_
 refine zU (zl (zn ?_))
 rcases zI h with ⟨h19,h⟩ | ⟨h19,h⟩
 refine zi (zs (zr ?_))
 refine zU (zl (zn (zq (yr (zt ?_)))))
 cases h
 exact ⟨rfl,zT Tryz.results92⟩
 refine zj (zk (yn (zn (zr ?_))))
 refine zU (zl ?_)
 cases h
 exact ⟨rfl,zE⟩
 refine zj (zx (ze ?_))
 cases h
 exact ⟨rfl,zE⟩
 rcases o10 with ⟨⟩ | r20
 try simp only at h
 refine zA (yh (zn (zs (zr ?_))))
 refine zU (zl (zn (zq ?_)))
 cases h
 exact zT Tryz.results92
 try simp only at h
 refine zZ fun s hq=>?_
 refine yr (zt ?_)
 cases h
 exact hq
set_option maxRecDepth 20000 in
set_option maxHeartbeats 4000000 in
theorem graph_neighbours_con {D:Prop} (n1:Int) (e2:List Arr2_int) (r3:List (List Int)) (h:graph_neighbours n1 e2=some r3):Con D Tryz.prog 93 [(.int .i64 n1),(.slc (List.map encArr2_int e2))] (.slc (List.map (encL (PV.int .i64)) r3)):=by
 refine zP Tryz.call93 Tryz.func93 rfl Tryz.ntmps93 fun X w hT=>?_
 simp only [graph_neighbours] at h
 refine zs (zr ?_)
 refine zU (zl (zn (zs (zr ?_))))
 obtain ⟨h4,h⟩:=ite_some h
 obtain ⟨h5,h⟩:=ite_some h
 refine zW 2 ?_
 refine zM ⟨[(1,.p (.slc (List.map encArr2_int e2))),(10,.own 10 1 0 ((List.replicate (n1).toNat ([]:List Int))).length)],((10,.arr 23 1 1 (famR 10 3 1 1 (PV.int .i64) (List.replicate (n1).toNat ([]:List Int)))) :: famL 10 3 1 1 (PV.int .i64) (List.replicate (n1).toNat ([]:List Int)) [])⟩ ?_
 refine zU (zl (zn (zs (zs (zr ?_)))))
 refine zU (zl (zn (zb ?_)))
 obtain ⟨o6,h7,h⟩:=zB h
 refine zO (fun (s:List (List Int)×Int)=>⟨[(5,.own 10 1 0 s.1.length),(11,.p (.slc (List.map encArr2_int e2))),(12,.p (.int .i64 (e2.length:Int))),(13,.p (.int .i64 s.2))],((10,.arr 23 1 1 (famR 10 3 1 1 (PV.int .i64) s.1)) :: famL 10 3 1 1 (PV.int .i64) s.1 [])⟩) (fun (o8:List (List Int))=>tE (cX Tryz.f93 X w D hT) (.exit 0) ⟨[(5,.own 10 1 0 o8.length)],((10,.arr 23 1 1 (famR 10 3 1 1 (PV.int .i64) o8)) :: famL 10 3 1 1 (PV.int .i64) o8 [])⟩) h7 ?_ ?_
 clear h h4 h5 h7
 intro s x h
 obtain ⟨o9,t10⟩:=s
 simp only [graph_neighbours_l1] at h
 dsimp only
 refine zs (zr ?_)
 refine zU (zl (zn (zs ?_)))
 rcases zI h with ⟨h11,h⟩ | ⟨h11,h⟩
 refine zi (zk (zn (zs (zb (zs (zr ?_))))))
 obtain ⟨x12,h13,h13a,h13b,h⟩:=zX h
 refine zU (zl (zn (zd ?_)))
 obtain ⟨x14,h15,h15a,h15b,h⟩:=zX h
 obtain ⟨h16,h⟩:=ite_some h
 refine yU ?_
 refine ydS ?_
 refine yn (zn ?_)
 refine zL ⟨[(5,.own 10 1 0 ((o9.set x12.x0.toNat (x14++[x12.x1]))).length),(11,.p (.slc (List.map encArr2_int e2))),(12,.p (.int .i64 (e2.length:Int))),(13,.p (.int .i64 t10))],((10,.arr 23 1 1 (famR 10 3 1 1 (PV.int .i64) (o9.set x12.x0.toNat (x14++[x12.x1])))) :: famL 10 3 1 1 (PV.int .i64) (o9.set x12.x0.toNat (x14++[x12.x1])) [])⟩ ?_
 refine zr ?_
 refine zU (zl ?_)
 cases h
 exact ⟨rfl,zE⟩
 refine zj (zx (ze ?_))
 cases h
 exact ⟨rfl,zE⟩
 try simp only at h
 refine zA (yh (zn (zs (zs (zr ?_)))))
 refine zU (zl (zn (zb ?_)))
 obtain ⟨o17,h18,h⟩:=zB h
 refine zO (fun (s:List (List Int)×Int)=>⟨[(5,.own 10 1 0 s.1.length),(32,.p (.int .i64 ((o6.length:Nat):Int))),(33,.p (.int .i64 s.2))],((10,.arr 23 1 1 (famR 10 3 1 1 (PV.int .i64) s.1)) :: famL 10 3 1 1 (PV.int .i64) s.1 [])⟩) (fun (o19:List (List Int))=>tE (cX Tryz.f93 X w D hT) (.exit 2) ⟨[(5,.own 10 1 0 o19.length)],((10,.arr 23 1 1 (famR 10 3 1 1 (PV.int .i64) o19)) :: famL 10 3 1 1 (PV.int .i64) o19 [])⟩) h18 ?_ ?_
 clear h h4 h5 h7 h18
 intro s x h
 obtain ⟨o20,t21⟩:=s
 simp only [graph_neighbours_l2] at h
 dsimp only
 refine zs (zr ?_)
 refine zU (zl (zn (zs ?_)))
 rcases zI h with ⟨h22,h⟩ | ⟨h22,h⟩
 refine zi (zk (zn (zs (zb (zs (zr ?_))))))
 refine zU (zl (zn (zs (zr ?_))))
 obtain ⟨x23,h24,h24a,h24b,h⟩:=zX h
 refine zU ?_
 obtain ⟨l25,h26,h⟩:=zB h
 refine zSI srt45 h26 ?_
 have h27:=srtIF_len h26
 refine zM ⟨[(5,.own 10 1 0 ((o20.set t21.toNat l25)).length),(8,.p (.int .i64 t21)),(32,.p (.int .i64 ((o6.length:Nat):Int))),(33,.p (.int .i64 t21)),(40,.p (.tup []))],((10,.arr 23 1 1 (famR 10 3 1 1 (PV.int .i64) (o20.set t21.toNat l25))) :: famL 10 3 1 1 (PV.int .i64) (o20.set t21.toNat l25) [])⟩ ?_
 clear h27
 refine zl (zn (zr ?_))
 obtain ⟨x28,h29,h29a,h29b,h⟩:=zX h
 have h29B:=eq_true (by simpa only [List.length_set] using h29b)
 refine zU ?_
 obtain ⟨l30,h31,h⟩:=zB h
 refine zCI cpt46 h31 ?_
 have h32:=cptF_len h31
 refine zW 2 ?_
 refine zM ⟨[(5,.own 10 1 0 (((o20.set t21.toNat l25).set t21.toNat l30)).length),(32,.p (.int .i64 ((o6.length:Nat):Int))),(33,.p (.int .i64 t21))],((10,.arr 23 1 1 (famR 10 3 1 1 (PV.int .i64) ((o20.set t21.toNat l25).set t21.toNat l30))) :: famL 10 3 1 1 (PV.int .i64) ((o20.set t21.toNat l25).set t21.toNat l30) [])⟩ ?_
 refine zl (yn (zn (zr ?_)))
 refine zU (zl ?_)
 cases h
 exact ⟨rfl,zE⟩
 refine zj (zx (ze ?_))
 cases h
 exact ⟨rfl,zE⟩
 try simp only at h
 refine zA (yh (zn (zs (zr ?_))))
 refine zU (zl (zn (zq ?_)))
 cases h
 exact zT Tryz.results93
end Go.Proofs.YtmlegeeinnkhkaaGreat
namespace Go.Proofs
open Go Go.Ab Go.Shelf
def YtmlegeeinnkhkaaGreat.grow157_ren:Go.Shelf.Ren:=⟨fun | 4=>157 | n=>n,fun | 22=>106 | 25=>108 | 3=>3 | 4=>4 | 9=>9 | 20=>20 | 0=>0 | n=>n,fun | n=>n⟩
theorem YtmlegeeinnkhkaaGreat.grow157:Go.Proofs.Lays8.n4 Tryz.prog YtmlegeeinnkhkaaGreat.grow157_ren:={
  mixed:=by kernel_rfl
  f4:=⟨Tryz.f157.name,by decide,Tryz.func157.trans (congrArg some (by kernel_rfl))⟩
  t0:=Tryz.underlying0
  a0:=Tryz.isAgg0
  z0:=Tryz.sizeOf0
  v0:=Tryz.zeroValue0
  t3:=Tryz.underlying3
  a3:=Tryz.isAgg3
  z3:=Tryz.sizeOf3
  v3:=Tryz.zeroValue3
  t4:=Tryz.underlying4
  a4:=Tryz.isAgg4
  z4:=Tryz.sizeOf4
  v4:=Tryz.zeroValue4
  t9:=Tryz.underlying9
  a9:=Tryz.isAgg9
  z9:=Tryz.sizeOf9
  v9:=Tryz.zeroValue9
  t20:=Tryz.underlying20
  a20:=Tryz.isAgg20
  z20:=Tryz.sizeOf20
  v20:=Tryz.zeroValue20
  t22:=Tryz.underlying106
  a22:=Tryz.isAgg106
  z22:=Tryz.sizeOf106
  v22:=Tryz.zeroValue106 }
theorem YtmlegeeinnkhkaaGreat.grw157:Grw Tryz.prog 157 108 2:=⟨Tryz.call157,fun n w h0 hn=>by
  obtain ⟨m,rfl⟩:=Int.eq_ofNat_of_zero_le h0
  have hi:Tryz.prog.info? 108=some Tryz.t108:=by kernel_rfl
  obtain ⟨z,hz,hzs⟩:∃z,Tryz.t108.zero=some z∧z.cells.size=2:=⟨_,rfl,rfl⟩
  cases m with
  | zero =>
    refine (Any8.slices_Grow_room YtmlegeeinnkhkaaGreat.grow157 none 0 0 0 w (Nat.le_refl _) (by omega) (by omega) (Nat.le_refl _)).mono fun e' w' h=>?_
    obtain ⟨rfl,rfl⟩:=h
    exact ⟨_,rfl,World.ownsRow_nil _ _ _ _,RowKit.Below.refl _ _,Nat.le_refl _⟩
  | succ m =>
    have hby:Tryz.t108.bytes=16:=rfl
    refine (Any8.slices_Grow_grow YtmlegeeinnkhkaaGreat.grow157 Tryz.t108 z hi hz (by decide) none 0 0 (m+1) [] w (Nat.le_refl _) (by omega) (by rw [hby];omega) (by omega) (by simp) (fun _=>rfl) (fun a h=>by cases h)).mono fun e' w' h=>?_
    obtain ⟨rfl,rfl⟩:=h
    have hge:=grownCap_ge w (0+(m+1)) 0 108
    refine ⟨_,rfl,World.ownsRow_made w.drew _ _ (Nat.le_refl _) (grownCap_le_maxLen w (0+(m+1)) 0 108 (by unfold maxLen;omega)) ?_,(RowKit.Below.refl _ w).drew.alloc (Nat.le_refl _) _,Nat.le_succ _⟩
    simp only [Array.size_append,size_zeroCells,hzs,List.size_toArray,List.length_nil]
    generalize hG:grownCap w (0+(m+1)) 0 108=G at hge
    show 0+(0+(m+1) - 0) * 2+(grownCap w (0+(m+1)) 0 108 - (0+(m+1))) * 2=grownCap w (0+(m+1)) 0 108 * 2
    rw [hG];omega⟩
end Go.Proofs
namespace Go.Proofs.YtmlegeeinnkhkaaGreat
open Go Go.Ab
set_option maxHeartbeats 4000000 in
theorem slices_Concat__2_int_con {D:Prop} (s1:List (List Arr2_int)) (r2:List Arr2_int) (h:slices_Concat__2_int s1=some r2):Con D Tryz.prog 94 [(.slc (List.map (encL encArr2_int) s1))] (.slc (List.map encArr2_int r2)):=by
 refine zP Tryz.call94 Tryz.func94 rfl Tryz.ntmps94 fun X w hT=>?_
 simp only [slices_Concat__2_int] at h
 refine zs (zr ?_)
 refine zU (zl (zn (zs (zr ?_))))
 refine zU (zl (zn (zs (zs (zr ?_)))))
 refine zU (zl (zn (zb ?_)))
 obtain ⟨s3,h4,h⟩:=zB h
 refine zO (fun (s:Int×Int)=>⟨[(0,.p (.slc (List.map (encL encArr2_int) s1))),(3,.p (.int .i64 s.1)),(9,.p (.slc (List.map (encL encArr2_int) s1))),(10,.p (.int .i64 (s1.length:Int))),(11,.p (.int .i64 s.2))],[]⟩) (fun (o5:Int)=>tE (cX Tryz.f94 X w D hT) (.exit 0) ⟨[(0,.p (.slc (List.map (encL encArr2_int) s1))),(3,.p (.int .i64 o5))],[]⟩) h4 ?_ ?_
 clear h h4
 intro s x h
 obtain ⟨s6,t7⟩:=s
 simp only [slices_Concat__2_int_l1] at h
 dsimp only
 refine zs (zr ?_)
 refine zU (zl (zn (zs ?_)))
 rcases zI h with ⟨h8,h⟩ | ⟨h8,h⟩
 refine zi (zk (zn (zs (zb (zs (zr ?_))))))
 obtain ⟨x9,h10,h10a,h10b,h⟩:=zX h
 refine zU (zl (zn (zs (zr ?_))))
 refine zU (zl (zn (zs (zr ?_))))
 refine zU (zl (zn ?_))
 rcases zI h with ⟨h11,h⟩ | ⟨h11,h⟩
 cases h
 refine zj (zk (yn (zn (zr ?_))))
 refine zU (zl ?_)
 cases h
 exact ⟨rfl,zE⟩
 refine zj (zx (ze ?_))
 cases h
 exact ⟨rfl,zE⟩
 try simp only at h
 refine zA (yh (zn (zs (zr ?_))))
 refine zU ?_
 obtain ⟨h12,h⟩:=ite_some h
 obtain ⟨h13,h⟩:=ite_some h
 refine zN grw157 24 h12 h13 ?_
 refine zU (zl (zn (zs (zs (zr ?_)))))
 refine zU (zl (zn (zb ?_)))
 obtain ⟨n14,h15,h⟩:=zB h
 refine zO (fun (s:List Arr2_int×Int)=>⟨[(6,.own 24 1 0 s.1.length),(25,.p (.slc (List.map (encL encArr2_int) s1))),(26,.p (.int .i64 (s1.length:Int))),(27,.p (.int .i64 s.2))],[(24,.arr 108 2 1 (List.map AV.p (List.map encArr2_int s.1)))]⟩) (fun (o16:List Arr2_int)=>tE (cX Tryz.f94 X w D hT) (.exit 2) ⟨[(6,.own 24 1 0 o16.length)],[(24,.arr 108 2 1 (List.map AV.p (List.map encArr2_int o16)))]⟩) h15 ?_ ?_
 clear h h4 h12 h13 h15
 intro s x h
 obtain ⟨n17,t18⟩:=s
 simp only [slices_Concat__2_int_l2] at h
 dsimp only
 refine zs (zr ?_)
 refine zU (zl (zn (zs ?_)))
 rcases zI h with ⟨h19,h⟩ | ⟨h19,h⟩
 refine zi (zk (zn (zs (zb (zs (zr ?_))))))
 obtain ⟨x20,h21,h21a,h21b,h⟩:=zX h
 refine zU (zl (zn (zr ?_)))
 obtain ⟨h22,h⟩:=ite_some h
 refine zU (zl (yn (zn (zr ?_))))
 refine zU (zl ?_)
 cases h
 exact ⟨rfl,zE⟩
 refine zj (zx (ze ?_))
 cases h
 exact ⟨rfl,zE⟩
 try simp only at h
 refine zA (yh (zn (zs (zr ?_))))
 refine zU (zl (zn (zq ?_)))
 cases h
 exact zT Tryz.results94
set_option maxHeartbeats 4000000 in
theorem graph_reversed_con {D:Prop} (e1:List Arr2_int) (r2:List Arr2_int) (h:graph_reversed e1=some r2):Con D Tryz.prog 95 [(.slc (List.map encArr2_int e1))] (.slc (List.map encArr2_int r2)):=by
 refine zP Tryz.call95 Tryz.func95 rfl Tryz.ntmps95 fun X w hT=>?_
 simp only [graph_reversed] at h
 refine zs (zr ?_)
 refine zU (zl (zn (zs (zr ?_))))
 obtain ⟨h3,h⟩:=ite_some h
 obtain ⟨h4,h⟩:=ite_some h
 refine zU (zl (zn (zs (zs (zr ?_)))))
 refine zU (zl (zn (zb ?_)))
 obtain ⟨o5,h6,h⟩:=zB h
 refine zO (fun (s:List Arr2_int×Int)=>⟨[(3,.own 8 1 0 s.1.length),(9,.p (.slc (List.map encArr2_int e1))),(10,.p (.int .i64 (e1.length:Int))),(11,.p (.int .i64 s.2))],[(8,.arr 108 2 1 (List.map AV.p (List.map encArr2_int s.1)))]⟩) (fun (o7:List Arr2_int)=>tE (cX Tryz.f95 X w D hT) (.exit 0) ⟨[(3,.own 8 1 0 o7.length)],[(8,.arr 108 2 1 (List.map AV.p (List.map encArr2_int o7)))]⟩) h6 ?_ ?_
 clear h h3 h4 h6
 intro s x h
 obtain ⟨o8,t9⟩:=s
 simp only [graph_reversed_l1] at h
 dsimp only
 refine zs (zr ?_)
 refine zU (zl (zn (zs ?_)))
 rcases zI h with ⟨h10,h⟩ | ⟨h10,h⟩
 refine zi (zk (zn (zs (zb (zs (zr ?_))))))
 obtain ⟨x11,h12,h12a,h12b,h⟩:=zX h
 refine zU (zl (zn (zr ?_)))
 obtain ⟨x13,h14,h14a,h14b,h⟩:=zX h
 refine zU (zl (yn (zn (zr ?_))))
 refine zU (zl ?_)
 cases h
 exact ⟨rfl,zE⟩
 refine zj (zx (ze ?_))
 cases h
 exact ⟨rfl,zE⟩
 try simp only at h
 refine zA (yh (zn (zs (zr ?_))))
 refine zU (zl (zn (zq ?_)))
 cases h
 exact zT Tryz.results95
set_option maxHeartbeats 4000000 in
theorem graph_visit_con {D:Prop} (n1:List (List Int)) (f2:Int) (r3:List Int) (h:graph_visit n1 f2=some r3):Con D Tryz.prog 96 [(.slc (List.map (encL (PV.int .i64)) n1)),(.int .i64 f2)] (.slc (List.map (PV.int .i64) r3)):=by
 refine zP Tryz.call96 Tryz.func96 rfl Tryz.ntmps96 fun X w hT=>?_
 simp only [graph_visit] at h
 refine zs (zr ?_)
 refine zU (zl (zn (zs (zr ?_))))
 obtain ⟨h4,h⟩:=ite_some h
 obtain ⟨h5,h⟩:=ite_some h
 refine zU (zl (zn (zs ?_)))
 obtain ⟨l6,h7,h⟩:=zB h
 replace h7:=Option.some.inj h7
 refine awp_le (st':=⟨[(0,.p (.slc (List.map (encL (PV.int .i64)) n1))),(1,.p (.int .i64 f2)),(5,.own 12 1 0 l6.length)],[(12,.arr 4 1 1 (List.map AV.p (List.map PV.bool l6)))]⟩) (by simp only [go_sem,seval,←h7];all_goals ((repeat' refine And.intro ?_ ?_) <;> first | rfl | (simp;done) | (simp;rfl) | (simp [*];done) | (simp [*];rfl))) ?_
 clear h7
 refine zr ?_
 obtain ⟨x8,h9,h9a,h9b,h⟩:=zX h
 refine zU (zl (zn (zs (zr ?_))))
 refine zU (zl (zn (zs (zs (zr ?_)))))
 refine zU (zl (zn (zb ?_)))
 obtain ⟨o10,h11,h⟩:=zB h
 refine zO (fun (s:List Bool×List Int×Int)=>⟨[(0,.p (.slc (List.map (encL (PV.int .i64)) n1))),(5,.own 12 1 0 s.1.length),(6,.own 17 1 0 s.2.1.length),(7,.p (.int .i64 s.2.2))],[(12,.arr 4 1 1 (List.map AV.p (List.map PV.bool s.1))),(17,.arr 3 1 1 (List.map AV.p (List.map (PV.int .i64) s.2.1)))]⟩) (fun (o12:List Int)=>tE (cX Tryz.f96 X w D hT) (.exit 0) ⟨[(6,.own 17 1 0 o12.length)],[(17,.arr 3 1 1 (List.map AV.p (List.map (PV.int .i64) o12)))]⟩) h11 ?_ ?_
 clear h h4 h5 h9 h9a h9b h11
 intro s x h
 obtain ⟨s13,o14,i15⟩:=s
 simp only [graph_visit_l4] at h
 dsimp only
 refine zs (zs (zr ?_))
 refine zU (zl (zn ?_))
 rcases zI h with ⟨h16,h⟩ | ⟨h16,h⟩
 refine zi (zk (zn (zs (zb (zs (zr ?_))))))
 obtain ⟨x17,h18,h18a,h18b,h⟩:=zX h
 obtain ⟨x19,h20,h20a,h20b,h⟩:=zX h
 refine zU (zl (zn (zb ?_)))
 obtain ⟨o21,h22,h⟩:=zB h
 refine zO (fun (s:List Bool×List Int×Int)=>⟨[(0,.p (.slc (List.map (encL (PV.int .i64)) n1))),(5,.own 12 1 0 s.1.length),(6,.own 17 1 0 s.2.1.length),(7,.p (.int .i64 i15)),(30,.p (.slc (List.map (PV.int .i64) x19))),(31,.p (.int .i64 (x19.length:Int))),(32,.p (.int .i64 s.2.2))],[(12,.arr 4 1 1 (List.map AV.p (List.map PV.bool s.1))),(17,.arr 3 1 1 (List.map AV.p (List.map (PV.int .i64) s.2.1)))]⟩) (fun (o23:List Bool×List Int)=>tE (cX Tryz.f96 X w D hT) (.exit 2) ⟨[(0,.p (.slc (List.map (encL (PV.int .i64)) n1))),(5,.own 12 1 0 o23.1.length),(6,.own 17 1 0 o23.2.length),(7,.p (.int .i64 i15))],[(12,.arr 4 1 1 (List.map AV.p (List.map PV.bool o23.1))),(17,.arr 3 1 1 (List.map AV.p (List.map (PV.int .i64) o23.2)))]⟩) h22 ?_ ?_
 clear h h16 h18 h18a h18b h20 h20a h20b h22
 intro s x h
 obtain ⟨s24,o25,t26⟩:=s
 simp only [graph_visit_l3] at h
 dsimp only
 refine zs (zr ?_)
 refine zU (zl (zn (zs ?_)))
 rcases zI h with ⟨h27,h⟩ | ⟨h27,h⟩
 refine zi (zk (zn (zs (zb (zs (zr ?_))))))
 obtain ⟨x28,h29,h29a,h29b,h⟩:=zX h
 refine zU (zl (zn (zs (zr ?_))))
 obtain ⟨x30,h31,h31a,h31b,h⟩:=zX h
 refine zU (zl (zn ?_))
 rcases zI h with ⟨h32,h⟩ | ⟨h32,h⟩
 refine zj (zk (yn (zn (zr ?_))))
 refine zU (zl ?_)
 cases h
 exact ⟨rfl,zE⟩
 refine zi (zs (zr ?_))
 refine zU (zl (zn (zr ?_)))
 obtain ⟨h33,h⟩:=ite_some h
 refine zU (zl (yn (zn (zr ?_))))
 refine zU (zl ?_)
 cases h
 exact ⟨rfl,zE⟩
 refine zj (zx (ze ?_))
 cases h
 exact ⟨rfl,zE⟩
 obtain ⟨s34,o35⟩:=o21
 try simp only at h
 refine zA (yh (yn (zn (zr ?_))))
 refine zU (zl ?_)
 cases h
 exact ⟨rfl,zE⟩
 refine zj (zx (ze ?_))
 cases h
 exact ⟨rfl,zE⟩
 try simp only at h
 refine zA (yh (zn (zs (zr ?_))))
 refine zU ?_
 refine zM ⟨[(6,.own 17 1 0 o10.length),(49,.own 17 1 0 o10.length)],[(17,.arr 3 1 1 (List.map AV.p (List.map (PV.int .i64) o10)))]⟩ ?_
 obtain ⟨l36,h37,h⟩:=zB h
 refine zSI srt45 h37 ?_
 have h38:=srtIF_len h37
 refine zM ⟨[(6,.own 17 1 0 l36.length),(50,.p (.tup []))],[(17,.arr 3 1 1 (List.map AV.p (List.map (PV.int .i64) l36)))]⟩ ?_
 clear h38
 refine zl (zn (zs (zr ?_)))
 refine zU (zl (zn (zq ?_)))
 cases h
 exact zT Tryz.results96
set_option maxHeartbeats 4000000 in
theorem graph_Components_con {D:Prop} (n1:Int) (e2:List Arr2_int) (r3:List (List Int)×Int) (h:graph_Components n1 e2=some r3):Con D Tryz.prog 54 [(.int .i64 n1),(.slc (List.map encArr2_int e2))] (.tup [(.slc (List.map (encL (PV.int .i64)) r3.1)),(.int .i64 r3.2)]):=by
 refine zP Tryz.call54 Tryz.func54 rfl Tryz.ntmps54 fun X w hT=>?_
 simp only [graph_Components] at h
 refine zs (zr ?_)
 refine zU (zl (zn (zs (zs (zr ?_)))))
 refine zU ?_
 obtain ⟨r4,h5,h⟩:=zB h
 refine zc (graph_Valid_con n1 e2 _ h5) ?_
 refine zU (zl (zn (zs (zr ?_))))
 refine zU (zl (zn ?_))
 rcases zI h with ⟨h6,h⟩ | ⟨h6,h⟩
 refine zi (zs (zr ?_))
 refine zU (zl (zn (zq (zt ?_))))
 cases h
 exact zT Tryz.results54
 refine zj (zk (zn (zs (zr ?_))))
 refine zU ?_
 obtain ⟨r7,h8,h⟩:=zB h
 refine zc (graph_reversed_con e2 _ h8) ?_
 refine zU ?_
 refine zM ⟨[(0,.p (.int .i64 n1)),(20,.p (.int .i64 n1)),(24,.p (.slc (List.map (encL encArr2_int) [e2,r7])))],[]⟩ ?_
 obtain ⟨r9,h10,h⟩:=zB h
 refine zc (slices_Concat__2_int_con [e2,r7] _ h10) ?_
 obtain ⟨r11,h12,h⟩:=zB h
 refine zc (graph_neighbours_con n1 r9 _ h12) ?_
 refine zU (zl (zn (zs (zr ?_))))
 obtain ⟨h13,h⟩:=ite_some h
 obtain ⟨h14,h⟩:=ite_some h
 refine zU (zl (zn (zs (zr ?_))))
 refine zU (zl (zn (zs (zs (zr ?_)))))
 refine zU (zl (zn (zb ?_)))
 obtain ⟨o15,h16,h⟩:=zB h
 refine zO (fun (s:List Bool×List (List Int)×Int)=>⟨[(7,.p (.slc (List.map (encL (PV.int .i64)) r11))),(8,.own 28 1 0 s.1.length),(9,.own 53 1 0 s.2.1.length),(29,.p (.int .i64 n1)),(30,.p (.int .i64 s.2.2))],[(28,.arr 4 1 1 (List.map AV.p (List.map PV.bool s.1))),(53,.arr 23 1 1 (List.map AV.p (List.map (encL (PV.int .i64)) s.2.1)))]⟩) (fun (o17:List (List Int))=>tE (cX Tryz.f54 X w D hT) (.exit 0) ⟨[(9,.own 53 1 0 o17.length)],[(53,.arr 23 1 1 (List.map AV.p (List.map (encL (PV.int .i64)) o17)))]⟩) h16 ?_ ?_
 clear h h5 h6 h8 h10 h12 h13 h14 h16
 intro s x h
 obtain ⟨d18,o19,t20⟩:=s
 simp only [graph_Components_l4] at h
 dsimp only
 refine zs (zr ?_)
 refine zU (zl (zn (zs ?_)))
 rcases zI h with ⟨h21,h⟩ | ⟨h21,h⟩
 refine zi (zk (zn (zs (zb (zs (zr ?_))))))
 refine zU (zl (zn (zs (zs (zr ?_)))))
 obtain ⟨x22,h23,h23a,h23b,h⟩:=zX h
 refine zU (zl (zn ?_))
 rcases zI h with ⟨h24,h⟩ | ⟨h24,h⟩
 refine zi (zx (ze (yh (zn (zr ?_)))))
 refine zU (zl ?_)
 cases h
 exact ⟨rfl,zE⟩
 refine zj (zk (zn (zs (zr ?_))))
 refine zU ?_
 obtain ⟨r25,h26,h⟩:=zB h
 refine zc (graph_visit_con r11 t20 _ h26) ?_
 refine zU (zl (zn (zs (zs (zr ?_)))))
 refine zU (zl (zn (zb ?_)))
 obtain ⟨d27,h28,h⟩:=zB h
 refine zO (fun (s:List Bool×Int)=>⟨[(7,.p (.slc (List.map (encL (PV.int .i64)) r11))),(8,.own 28 1 0 s.1.length),(9,.own 53 1 0 o19.length),(11,.p (.slc (List.map (PV.int .i64) r25))),(29,.p (.int .i64 n1)),(30,.p (.int .i64 t20)),(40,.p (.slc (List.map (PV.int .i64) r25))),(41,.p (.int .i64 (r25.length:Int))),(42,.p (.int .i64 s.2))],[(28,.arr 4 1 1 (List.map AV.p (List.map PV.bool s.1))),(53,.arr 23 1 1 (List.map AV.p (List.map (encL (PV.int .i64)) o19)))]⟩) (fun (o29:List Bool)=>tE (cX Tryz.f54 X w D hT) (.exit 2) ⟨[(7,.p (.slc (List.map (encL (PV.int .i64)) r11))),(8,.own 28 1 0 o29.length),(9,.own 53 1 0 o19.length),(11,.p (.slc (List.map (PV.int .i64) r25))),(29,.p (.int .i64 n1)),(30,.p (.int .i64 t20))],[(28,.arr 4 1 1 (List.map AV.p (List.map PV.bool o29))),(53,.arr 23 1 1 (List.map AV.p (List.map (encL (PV.int .i64)) o19)))]⟩) h28 ?_ ?_
 clear h h21 h23 h23a h23b h24 h26 h28
 intro s x h
 obtain ⟨d30,t31⟩:=s
 simp only [graph_Components_l3] at h
 dsimp only
 refine zs (zr ?_)
 refine zU (zl (zn (zs ?_)))
 rcases zI h with ⟨h32,h⟩ | ⟨h32,h⟩
 refine zi (zk (zn (zs (zb (zs (zr ?_))))))
 obtain ⟨x33,h34,h34a,h34b,h⟩:=zX h
 refine zU (zl (zn (zr ?_)))
 obtain ⟨x35,h36,h36a,h36b,h⟩:=zX h
 refine zU (zl (yn (zn (zr ?_))))
 refine zU (zl ?_)
 cases h
 exact ⟨rfl,zE⟩
 refine zj (zx (ze ?_))
 cases h
 exact ⟨rfl,zE⟩
 try simp only at h
 refine zA (yh (zn (zr ?_)))
 obtain ⟨h37,h⟩:=ite_some h
 refine zU (zl (yn (zn (zr ?_))))
 refine zU (zl ?_)
 cases h
 exact ⟨rfl,zE⟩
 refine zj (zx (ze ?_))
 cases h
 exact ⟨rfl,zE⟩
 try simp only at h
 refine zA (yh (zn (zs (zr ?_))))
 refine zU (zl (zn (zq ?_)))
 cases h
 exact zT Tryz.results54
end Go.Proofs.YtmlegeeinnkhkaaGreat
namespace Go.Proofs
open Go Go.Ab Go.Shelf
def YtmlegeeinnkhkaaGreat.clone44_ren:Go.Shelf.Ren:=⟨fun | 41=>44 | n=>n,fun | 22=>23 | 23=>3 | 4=>4 | n=>n,fun | n=>n⟩
theorem YtmlegeeinnkhkaaGreat.clone44:Go.Proofs.SlLaysE0.n41 Tryz.prog YtmlegeeinnkhkaaGreat.clone44_ren:={
  mixed:=by kernel_rfl
  f41:=⟨Tryz.f44.name,by decide,Tryz.func44.trans (congrArg some (by kernel_rfl))⟩
  t4:=Tryz.underlying4
  a4:=Tryz.isAgg4
  z4:=Tryz.sizeOf4
  v4:=Tryz.zeroValue4
  t22:=Tryz.underlying23
  a22:=Tryz.isAgg23
  z22:=Tryz.sizeOf23
  v22:=Tryz.zeroValue23 }
def YtmlegeeinnkhkaaGreat.clone124_ren:Go.Shelf.Ren:=⟨fun | 41=>124 | n=>n,fun | 22=>63 | 23=>2 | 4=>4 | n=>n,fun | n=>n⟩
theorem YtmlegeeinnkhkaaGreat.clone124:Go.Proofs.SlLaysE0.n41 Tryz.prog YtmlegeeinnkhkaaGreat.clone124_ren:={
  mixed:=by kernel_rfl
  f41:=⟨Tryz.f124.name,by decide,Tryz.func124.trans (congrArg some (by kernel_rfl))⟩
  t4:=Tryz.underlying4
  a4:=Tryz.isAgg4
  z4:=Tryz.sizeOf4
  v4:=Tryz.zeroValue4
  t22:=Tryz.underlying63
  a22:=Tryz.isAgg63
  z22:=Tryz.sizeOf63
  v22:=Tryz.zeroValue63 }
def YtmlegeeinnkhkaaGreat.clone246_ren:Go.Shelf.Ren:=⟨fun | 41=>246 | n=>n,fun | 22=>64 | 23=>142 | 4=>4 | n=>n,fun | n=>n⟩
theorem YtmlegeeinnkhkaaGreat.clone246:Go.Proofs.SlLaysE0.n41 Tryz.prog YtmlegeeinnkhkaaGreat.clone246_ren:={
  mixed:=by kernel_rfl
  f41:=⟨Tryz.f246.name,by decide,Tryz.func246.trans (congrArg some (by kernel_rfl))⟩
  t4:=Tryz.underlying4
  a4:=Tryz.isAgg4
  z4:=Tryz.sizeOf4
  v4:=Tryz.zeroValue4
  t22:=Tryz.underlying64
  a22:=Tryz.isAgg64
  z22:=Tryz.sizeOf64
  v22:=Tryz.zeroValue64 }
theorem YtmlegeeinnkhkaaGreat.cln44:Cln Tryz.prog 44 3 1 8:=AbE.cln YtmlegeeinnkhkaaGreat.clone44 Tryz.call44 Tryz.t3 _ _ _ (by kernel_rfl) rfl rfl rfl rfl (by decide)
theorem YtmlegeeinnkhkaaGreat.cln124:Cln Tryz.prog 124 2 1 8:=AbE.cln YtmlegeeinnkhkaaGreat.clone124 Tryz.call124 Tryz.t2 _ _ _ (by kernel_rfl) rfl rfl rfl rfl (by decide)
theorem YtmlegeeinnkhkaaGreat.cln246:Cln Tryz.prog 246 142 3 32:=AbE.cln YtmlegeeinnkhkaaGreat.clone246 Tryz.call246 Tryz.t142 _ _ _ (by kernel_rfl) rfl rfl rfl rfl (by decide)
end Go.Proofs
namespace Go.Proofs.YtmlegeeinnkhkaaGreat
open Go Go.Ab
set_option maxRecDepth 20000 in
set_option maxHeartbeats 4000000 in
theorem cluster_Valid_con {D:Prop} (n1:Int) (l2:List Pair) (r3:Int) (h:cluster_Valid n1 l2=some r3):Con D Tryz.prog 158 [(.int .i64 n1),(.slc (List.map encPair l2))] (.int .i64 r3):=by
 refine zP Tryz.call158 Tryz.func158 rfl Tryz.ntmps158 fun X w hT=>?_
 simp only [cluster_Valid] at h
 refine zs (zr ?_)
 refine zU (zl (zn (zs (zb ?_))))
 obtain ⟨t4,h5,h⟩:=zB h
 refine zJ (fun (o6:Bool)=>tE (cX Tryz.f158 X w D hT) .normal ⟨[(0,.p (.int .i64 n1)),(1,.p (.slc (List.map encPair l2))),(9,.p (.bool o6))],[]⟩) t4 ?_ ?_
 replace h:=h5
 clear h5
 refine zr ?_
 refine zU ?_
 rcases zI h with ⟨h7,h⟩ | ⟨h7,h⟩
 refine zw 12 true ?_
 refine zh ?_
 refine zU (zl ?_)
 cases h
 exact ⟨rfl,zE⟩
 replace h:=h.symm
 refine zw 12 false ?_
 refine zg ?_
 refine zg ?_
 refine zU (zl ?_)
 cases h
 exact ⟨rfl,zE⟩
 try simp only at h
 refine zA (zn ?_)
 rcases zI h with ⟨h8,h⟩ | ⟨h8,h⟩
 refine zi (zs (zr ?_))
 refine zU (zl (zn (zq (yr (zt ?_)))))
 cases h
 exact zT Tryz.results158
 refine zj (zs (zr ?_))
 refine zU (zl (zn ?_))
 rcases zI h with ⟨h9,h⟩ | ⟨h9,h⟩
 refine zi (zs (zr ?_))
 refine zU (zl (zn (zq (yr (zt ?_)))))
 cases h
 exact zT Tryz.results158
 refine zj (zk (yn (zn (zs (zr ?_)))))
 refine zU (zl (zn (zs (zs (zr ?_)))))
 refine zU (zl (zn (zb ?_)))
 obtain ⟨o10,h11,h⟩:=zB h
 refine zO (fun (s:(List (Arr2_int×Bool))×Int)=>⟨[(0,.p (.int .i64 n1)),(5,.mapo 20 1),(21,.p (.slc (List.map encPair l2))),(22,.p (.int .i64 (l2.length:Int))),(23,.p (.int .i64 s.2))],[(20,.map 1 (List.map AV.p (encK encArr2_int s.1)) (List.map AV.p (encW PV.bool s.1)))]⟩) (fun (o:(Unit) ⊕ (Int))=>match o with | .inl o12=>tE (cX Tryz.f158 X w D hT) (.exit 1) ⟨[],[]⟩ | .inr o13=>tR Tryz.prog Tryz.f158 (.int .i64 o13)) h11 ?_ ?_
 clear h h8 h9 h11
 intro s x h
 obtain ⟨s14,t15⟩:=s
 simp only [cluster_Valid_l1] at h
 dsimp only
 refine zs (zr ?_)
 refine zU (zl (zn (zs ?_)))
 rcases zI h with ⟨h16,h⟩ | ⟨h16,h⟩
 refine zi (zk (zn (zs (zb (zs (zr ?_))))))
 obtain ⟨x17,h18,h18a,h18b,h⟩:=zX h
 refine zU (zl (zn (zs (zr ?_))))
 refine zU (zl (zn (zs (zs (zr ?_)))))
 refine zU ?_
 rcases zI h with ⟨h19,h⟩ | ⟨h19,h⟩
 refine zw 35 true ?_
 refine zh ?_
 refine zU ?_
 refine zh ?_
 refine zU ?_
 refine zh ?_
 refine zU ?_
 refine zh ?_
 refine zU ?_
 refine zh ?_
 refine zU (zl (zn ?_))
 refine zi (zs (zr ?_))
 refine zU (zl (zn (zq (zt (yr (zt ?_))))))
 cases h
 exact ⟨rfl,zT Tryz.results158⟩
 refine zw 35 false ?_
 refine zg ?_
 refine zg ?_
 refine zg ?_
 refine zg ?_
 refine zg ?_
 refine zU ?_
 rcases zI h with ⟨h20,h⟩ | ⟨h20,h⟩
 refine zw 42 true ?_
 refine zh ?_
 refine zU ?_
 refine zh ?_
 refine zU ?_
 refine zh ?_
 refine zU ?_
 refine zh ?_
 refine zU (zl (zn ?_))
 refine zi (zs (zr ?_))
 refine zU (zl (zn (zq (zt (yr (zt ?_))))))
 cases h
 exact ⟨rfl,zT Tryz.results158⟩
 refine zw 42 false ?_
 refine zg ?_
 refine zg ?_
 refine zg ?_
 refine zg ?_
 refine zU ?_
 rcases zI h with ⟨h21,h⟩ | ⟨h21,h⟩
 refine zw 48 true ?_
 refine zh ?_
 refine zU ?_
 refine zh ?_
 refine zU ?_
 refine zh ?_
 refine zU (zl (zn ?_))
 refine zi (zs (zr ?_))
 refine zU (zl (zn (zq (zt (yr (zt ?_))))))
 cases h
 exact ⟨rfl,zT Tryz.results158⟩
 refine zw 48 false ?_
 refine zg ?_
 refine zg ?_
 refine zg ?_
 refine zU ?_
 rcases zI h with ⟨h22,h⟩ | ⟨h22,h⟩
 refine zw 53 true ?_
 refine zh ?_
 refine zU ?_
 refine zh ?_
 refine zU (zl (zn ?_))
 refine zi (zs (zr ?_))
 refine zU (zl (zn (zq (zt (yr (zt ?_))))))
 cases h
 exact ⟨rfl,zT Tryz.results158⟩
 refine zw 53 false ?_
 refine zg ?_
 refine zg ?_
 refine zg ?_
 refine zU ?_
 rcases zI h with ⟨h23,h⟩ | ⟨h23,h⟩
 refine zw 58 true ?_
 refine zh ?_
 refine zU (zl (zn ?_))
 refine zi (zs (zr ?_))
 refine zU (zl (zn (zq (zt (yr (zt ?_))))))
 cases h
 exact ⟨rfl,zT Tryz.results158⟩
 refine zw 58 false ?_
 refine zg ?_
 refine zg ?_
 refine zg ?_
 refine zU (zl (zn ?_))
 rcases zI h with ⟨h24,h⟩ | ⟨h24,h⟩
 refine zi (zs (zr ?_))
 refine zU (zl (zn (zq (zt (yr (zt ?_))))))
 cases h
 exact ⟨rfl,zT Tryz.results158⟩
 refine zj (zk (zn (zr ?_)))
 refine zU (zl (yn (zn (zr ?_))))
 refine zU (zl ?_)
 cases h
 exact ⟨rfl,zE⟩
 refine zj (zx (ze ?_))
 cases h
 exact ⟨rfl,zE⟩
 rcases o10 with ⟨⟩ | r25
 try simp only at h
 refine zA (yh (zn (zs (zr ?_))))
 refine zU (zl (zn (zq ?_)))
 cases h
 exact zT Tryz.results158
 try simp only at h
 refine zZ fun s hq=>?_
 refine yr (zt ?_)
 cases h
 exact hq
set_option maxRecDepth 20000 in
set_option maxHeartbeats 4000000 in
theorem cluster_matrix_con {D:Prop} (n1:Int) (l2:List Pair) (r3:List (List Int)) (h:cluster_matrix n1 l2=some r3):Con D Tryz.prog 159 [(.int .i64 n1),(.slc (List.map encPair l2))] (.slc (List.map (encL (PV.int .i64)) r3)):=by
 refine zP Tryz.call159 Tryz.func159 rfl Tryz.ntmps159 fun X w hT=>?_
 simp only [cluster_matrix] at h
 refine zs (zr ?_)
 refine zU (zl (zn (zs (zr ?_))))
 obtain ⟨h4,h⟩:=ite_some h
 obtain ⟨h5,h⟩:=ite_some h
 refine zW 2 ?_
 refine zM ⟨[(0,.p (.int .i64 n1)),(1,.p (.slc (List.map encPair l2))),(10,.own 10 1 0 ((List.replicate (n1).toNat ([]:List Int))).length)],((10,.arr 63 1 1 (famR 10 2 1 1 (PV.int .i64) (List.replicate (n1).toNat ([]:List Int)))) :: famL 10 2 1 1 (PV.int .i64) (List.replicate (n1).toNat ([]:List Int)) [])⟩ ?_
 refine zU (zl (zn (zs (zs (zr ?_)))))
 refine zU (zl (zn (zb ?_)))
 obtain ⟨w6,h7,h⟩:=zB h
 refine zO (fun (s:List (List Int)×Int)=>⟨[(0,.p (.int .i64 n1)),(1,.p (.slc (List.map encPair l2))),(5,.own 10 1 0 s.1.length),(12,.p (.int .i64 ((((List.replicate (n1).toNat ([]:List Int))).length:Nat):Int))),(13,.p (.int .i64 s.2))],((10,.arr 63 1 1 (famR 10 2 1 1 (PV.int .i64) s.1)) :: famL 10 2 1 1 (PV.int .i64) s.1 [])⟩) (fun (o8:List (List Int))=>tE (cX Tryz.f159 X w D hT) (.exit 0) ⟨[(1,.p (.slc (List.map encPair l2))),(5,.own 10 1 0 o8.length)],((10,.arr 63 1 1 (famR 10 2 1 1 (PV.int .i64) o8)) :: famL 10 2 1 1 (PV.int .i64) o8 [])⟩) h7 ?_ ?_
 clear h h4 h5 h7
 intro s x h
 obtain ⟨w9,t10⟩:=s
 simp only [cluster_matrix_l1] at h
 dsimp only
 refine zs (zr ?_)
 refine zU (zl (zn (zs ?_)))
 rcases zI h with ⟨h11,h⟩ | ⟨h11,h⟩
 refine zi (zk (zn (zs (zb (zs (zr ?_))))))
 refine zU (zl (zn (zr ?_)))
 obtain ⟨h12,h⟩:=ite_some h
 obtain ⟨h13,h⟩:=ite_some h
 obtain ⟨x14,h15,h15a,h15b,h⟩:=zX h
 refine zW 6 ?_
 refine zSw 19 (fx 10 t10.toNat) ?_
 refine zM ⟨[(0,.p (.int .i64 n1)),(1,.p (.slc (List.map encPair l2))),(5,.own 10 1 0 ((w9.set t10.toNat (List.replicate (n1).toNat 0))).length),(12,.p (.int .i64 ((((List.replicate (n1).toNat ([]:List Int))).length:Nat):Int))),(13,.p (.int .i64 t10))],((10,.arr 63 1 1 (famR 10 2 1 1 (PV.int .i64) (w9.set t10.toNat (List.replicate (n1).toNat 0)))) :: famL 10 2 1 1 (PV.int .i64) (w9.set t10.toNat (List.replicate (n1).toNat 0)) [])⟩ ?_
 refine zl (yn (zn (zr ?_)))
 refine zU (zl ?_)
 cases h
 exact ⟨rfl,zE⟩
 refine zj (zx (ze ?_))
 cases h
 exact ⟨rfl,zE⟩
 try simp only at h
 refine zA (yh (zn (zs (zs (zr ?_)))))
 refine zU (zl (zn (zb ?_)))
 obtain ⟨w16,h17,h⟩:=zB h
 refine zO (fun (s:List (List Int)×Int)=>⟨[(5,.own 10 1 0 s.1.length),(22,.p (.slc (List.map encPair l2))),(23,.p (.int .i64 (l2.length:Int))),(24,.p (.int .i64 s.2))],((10,.arr 63 1 1 (famR 10 2 1 1 (PV.int .i64) s.1)) :: famL 10 2 1 1 (PV.int .i64) s.1 [])⟩) (fun (o18:List (List Int))=>tE (cX Tryz.f159 X w D hT) (.exit 2) ⟨[(5,.own 10 1 0 o18.length)],((10,.arr 63 1 1 (famR 10 2 1 1 (PV.int .i64) o18)) :: famL 10 2 1 1 (PV.int .i64) o18 [])⟩) h17 ?_ ?_
 clear h h4 h5 h7 h17
 intro s x h
 obtain ⟨w19,t20⟩:=s
 simp only [cluster_matrix_l2] at h
 dsimp only
 refine zs (zr ?_)
 refine zU (zl (zn (zs ?_)))
 rcases zI h with ⟨h21,h⟩ | ⟨h21,h⟩
 refine zi (zk (zn (zs (zb (zs (zr ?_))))))
 obtain ⟨x22,h23,h23a,h23b,h⟩:=zX h
 refine zU (zl (zn ?_))
 refine zdl 20 ?_
 obtain ⟨x24,h25,h25a,h25b,h⟩:=zX h
 obtain ⟨x26,h27,h27a,h27b,h⟩:=zX h
 obtain ⟨x28,h29,h29a,h29b,h⟩:=zX h
 refine yU ?_
 refine ydlS ?_
 refine zM ⟨[(5,.own 10 1 0 ((w19.set x22.I.toNat (x24.set x22.K.toNat x22.Weight))).length),(22,.p (.slc (List.map encPair l2))),(23,.p (.int .i64 (l2.length:Int))),(24,.p (.int .i64 t20)),(39,.own (fx 10 x22.K.toNat) 1 0 x26.length),(41,.p (.int .i64 x22.I)),(45,.p (.int .i64 x22.Weight))],((10,.arr 63 1 1 (famR 10 2 1 1 (PV.int .i64) (w19.set x22.I.toNat (x24.set x22.K.toNat x22.Weight)))) :: famL 10 2 1 1 (PV.int .i64) (w19.set x22.I.toNat (x24.set x22.K.toNat x22.Weight)) [])⟩ ?_
 obtain ⟨x30,h31,h31a,h31b,h⟩:=zX h
 have h31B:=eq_true (by simpa only [List.length_set] using h31b)
 obtain ⟨x32,h33,h33a,h33b,h⟩:=zX h
 obtain ⟨h34,h⟩:=ite_some h
 refine zW 2 ?_
 refine zM ⟨[(5,.own 10 1 0 (((w19.set x22.I.toNat (x24.set x22.K.toNat x22.Weight)).set x22.K.toNat (x30.set x22.I.toNat x22.Weight))).length),(22,.p (.slc (List.map encPair l2))),(23,.p (.int .i64 (l2.length:Int))),(24,.p (.int .i64 t20))],((10,.arr 63 1 1 (famR 10 2 1 1 (PV.int .i64) ((w19.set x22.I.toNat (x24.set x22.K.toNat x22.Weight)).set x22.K.toNat (x30.set x22.I.toNat x22.Weight)))) :: famL 10 2 1 1 (PV.int .i64) ((w19.set x22.I.toNat (x24.set x22.K.toNat x22.Weight)).set x22.K.toNat (x30.set x22.I.toNat x22.Weight)) [])⟩ ?_
 refine zl (yn (zn (zr ?_)))
 refine zU (zl ?_)
 cases h
 exact ⟨rfl,zE⟩
 refine zj (zx (ze ?_))
 cases h
 exact ⟨rfl,zE⟩
 try simp only at h
 refine zA (yh (zn (zs (zr ?_))))
 refine zU (zl (zn (zq ?_)))
 cases h
 exact zT Tryz.results159
set_option maxHeartbeats 4000000 in
theorem cluster_price_con {D:Prop} (w1:Int) (t2:Bool) (r3:Int) (h:cluster_price w1 t2=some r3):Con D Tryz.prog 210 [(.int .i64 w1),(.bool t2)] (.int .i64 r3):=by
 refine zP Tryz.call210 Tryz.func210 rfl Tryz.ntmps210 fun X w hT=>?_
 simp only [cluster_price] at h
 refine zs (zr ?_)
 refine zU (zl (zn (zs (zs (zr ?_)))))
 refine zU (zl (zn ?_))
 rcases zI h with ⟨h4,h⟩ | ⟨h4,h⟩
 refine zi (zs (zr ?_))
 refine zU (zl (zn (zq (zt ?_))))
 cases h
 exact zT Tryz.results210
 refine zj (zk (zn (zs (zr ?_))))
 refine zU (zl (zn (zq ?_)))
 cases h
 exact zT Tryz.results210
set_option maxRecDepth 20000 in
set_option maxHeartbeats 4000000 in
theorem cluster_Optimal_con (n1:Int) (l2:List Pair) (r3:List Int×Int×Int) (h:cluster_Optimal n1 l2=some r3):Con False Tryz.prog 97 [(.int .i64 n1),(.slc (List.map encPair l2))] (.tup [(.slc (List.map (PV.int .i64) r3.1)),(.int .i64 r3.2.1),(.int .i64 r3.2.2)]):=by
 refine zP Tryz.call97 Tryz.func97 rfl Tryz.ntmps97 fun X w hT=>?_
 simp only [cluster_Optimal] at h
 refine zs (zr ?_)
 refine zU (zl (zn (zs (zs (zr ?_)))))
 refine zU ?_
 obtain ⟨r4,h5,h⟩:=zB h
 refine zc (cluster_Valid_con n1 l2 _ h5) ?_
 refine zU (zl (zn (zs (zr ?_))))
 refine zU (zl (zn ?_))
 rcases zI h with ⟨h6,h⟩ | ⟨h6,h⟩
 refine zi (zs (zr ?_))
 refine zU (zl (zn (zq (zt ?_))))
 cases h
 exact zT Tryz.results97
 have h6F:=Bool.eq_false_iff.2 h6
 refine zj (zk (zn (zs (zs (zr ?_)))))
 refine zU (zl (zn ?_))
 rcases zI h with ⟨h7,h⟩ | ⟨h7,h⟩
 have h7T:=eq_true h7
 refine zi (zs (zr ?_))
 refine zU (zl (zn (zq (zt ?_))))
 cases h
 exact zT Tryz.results97
 have h7T:=eq_false h7
 refine zj (zk (zn (zs (zd ?_))))
 refine yU ?_
 obtain ⟨r8,h9,h⟩:=zB h
 refine yc (cluster_matrix_con n1 l2 _ h9) ?_
 obtain ⟨h10,h⟩:=ite_some h
 obtain ⟨h11,h⟩:=ite_some h
 refine yU ?_
 refine yd (zn ?_)
 obtain ⟨o12,h13,h⟩:=zB h
 refine zJ (fun (o14:List Int×Bool×Int×List Int×Int)=>tE (cX Tryz.f97 X w False hT) .normal ⟨[(8,.loc 23 1 0 0)],[(21,.arr 3 1 1 (List.map AV.p (List.map (PV.int .i64) o14.1))),(23,.arr 218 4 1 [.agg [.p (.slc (List.map (encL (PV.int .i64)) r8)),.own 21 1 0 o14.1.length,(if o14.2.1=true then .p (.slc (List.map (PV.int .i64) (o14.2.2.1 :: o14.2.2.2.1))) else .nils),.p (.int .i64 o14.2.2.2.2)]])]⟩) o12 ?_ ?_
 replace h:=h13
 clear h13
 obtain ⟨l15,h16,h⟩:=zB h
 replace h16:=Option.some.inj h16
 refine awp_le (st':=⟨[(8,.loc 23 1 0 0)],[(21,.arr 3 1 1 (List.map AV.p (List.map (PV.int .i64) l15))),(23,.arr 218 4 1 [.agg [.p (.slc (List.map (encL (PV.int .i64)) r8)),.own 21 1 0 l15.length,.nils,.p (.int .i64 0)]])]⟩) (by simp only [go_sem,seval,h6F,h7T,←h16];all_goals ((repeat' refine And.intro ?_ ?_) <;> first | rfl | (simp;done) | (simp;rfl) | (simp [*];done) | (simp [*];rfl))) ?_
 clear h16
 refine zr ?_
 refine zU ?_
 refine zM ⟨[(8,.loc 23 1 0 0),(24,.loc 23 1 0 0)],[(21,.arr 3 1 1 (List.map AV.p (List.map (PV.int .i64) l15))),(23,.arr 218 4 1 [.agg [.p (.slc (List.map (encL (PV.int .i64)) r8)),.own 21 1 0 l15.length,.nils,.p (.int .i64 0)]])]⟩ ?_
 refine AL_inline (avs:=[.loc 23 1 0 0,.p (.int .i64 0),.p (.int .i64 0),.p (.int .i64 0)]) 34 rfl (guard_none rfl) rfl Tryz.func160 rfl Tryz.call160 Tryz.ntmps160 (by simp) (by simp only [go_sem,seval,h6F,h7T];all_goals rfl) ?_
 intro i17 w18 h19
 show AWp _ _ _ ⟨[(0,.loc 23 1 0 0),(1,.p (.int .i64 0)),(2,.p (.int .i64 0)),(3,.p (.int .i64 0))],[(21,.arr 3 1 1 (List.map AV.p (List.map (PV.int .i64) l15))),(23,.arr 218 4 1 [.agg [.p (.slc (List.map (encL (PV.int .i64)) r8)),.own 21 1 0 l15.length,.nils,.p (.int .i64 0)]])]⟩
 refine zs (zs (zr ?_))
 refine zU ?_
 refine zh ?_
 refine zU (zl (zn ?_))
 refine zj (zk (zn (zs (zs (zr ?_)))))
 refine zU (zl (zn ?_))
 rcases zI h with ⟨h20,h⟩ | ⟨h20,h⟩
 refine zi (zs (zr ?_))
 refine zU ?_
 obtain ⟨h21,h⟩:=ite_some h
 refine zCo cln44 71 (PV.int .i64) l15 _ rfl ⟨by unfold maxLen;omega,by omega⟩ ?_
 obtain ⟨x22,h23,h23l,h23L,h⟩:=zY 0 h
 obtain ⟨l24,h25,h⟩:=zB h
 replace h25:=Option.some.inj h25
 replace h25:=cons_of h25 h23
 refine zM ⟨[(3,.p (.int .i64 0)),(31,.loc 23 1 0 0),(32,.loc 23 1 0 0),(37,.p (.slc (List.map (PV.int .i64) (x22 :: l24))))],[(21,.arr 3 1 1 (List.map AV.p (List.map (PV.int .i64) l15))),(23,.arr 218 4 1 [.agg [.p (.slc (List.map (encL (PV.int .i64)) r8)),.own 21 1 0 l15.length,.nils,.p (.int .i64 0)]])]⟩ ?_
 clear h25
 refine zU (zl (zn (zq (zt ?_))))
 refine inlQ_ret (by simp only [Tryz.results160];simp only [go_sem,seval,h6F,h7T,h20];exact rfl) ?_
 refine zl ?_
 cases h
 exact ⟨rfl,zE⟩
 have h20F:=Bool.eq_false_iff.2 h20
 refine zj (zk (zn (zs (zr ?_))))
 refine zU (zl (zn (zb ?_)))
 obtain ⟨o26,h27,h⟩:=zB h
 refine zO (fun (s:List Int×Bool×Int×List Int×Int×Int)=>⟨[(0,.loc 23 1 0 0),(1,.p (.int .i64 0)),(2,.p (.int .i64 0)),(3,.p (.int .i64 0)),(44,.p (.int .i64 1)),(45,.p (.int .i64 s.2.2.2.2.2))],[(21,.arr 3 1 1 (List.map AV.p (List.map (PV.int .i64) s.1))),(23,.arr 218 4 1 [.agg [.p (.slc (List.map (encL (PV.int .i64)) r8)),.own 21 1 0 s.1.length,(if s.2.1=true then .p (.slc (List.map (PV.int .i64) (s.2.2.1 :: s.2.2.2.1))) else .nils),.p (.int .i64 s.2.2.2.2.1)]])]⟩) (fun (o28:List Int×Bool×Int×List Int×Int)=>tE ⟨Tryz.prog,94,34,X,[(21,.arr 3 1 1 (List.map AV.p (List.map (PV.int .i64) l15))),(23,.arr 218 4 1 [.agg [.p (.slc (List.map (encL (PV.int .i64)) r8)),.own 21 1 0 l15.length,.nils,.p (.int .i64 0)]])],i17,w18,False,h19⟩ (.exit 0) ⟨[],[(21,.arr 3 1 1 (List.map AV.p (List.map (PV.int .i64) o28.1))),(23,.arr 218 4 1 [.agg [.p (.slc (List.map (encL (PV.int .i64)) r8)),.own 21 1 0 o28.1.length,(if o28.2.1=true then .p (.slc (List.map (PV.int .i64) (o28.2.2.1 :: o28.2.2.2.1))) else .nils),.p (.int .i64 o28.2.2.2.2)]])]⟩) h27 ?_ ?_
 clear h h5 h6 h6F h7 h7T h9 h10 h11 h20 h20F h27
 intro s x h
 obtain ⟨s29,s30,s31,s32,s33,t34⟩:=s
 simp only [cluster_Optimal_l14] at h
 dsimp only
 refine zs (zr ?_)
 refine zU (zl (zn (zs ?_)))
 rcases zI h with ⟨h35,h⟩ | ⟨h35,h⟩
 have h35T:=eq_true h35
 refine zi (zk (zn (zs (zb (zs (zr ?_))))))
 refine zU (zl (zn (zs (zr ?_))))
 refine zU (zl (zn (zs (zs (zr ?_)))))
 refine zU (zl (zn (zb ?_)))
 obtain ⟨o36,h37,h⟩:=zB h
 refine zO (fun (s:Unit)=>⟨[(0,.loc 23 1 0 0),(1,.p (.int .i64 0)),(2,.p (.int .i64 0)),(3,.p (.int .i64 0)),(8,.p (.int .i64 t34)),(9,.p (.int .i64 0)),(44,.p (.int .i64 1)),(45,.p (.int .i64 t34)),(48,.p (.int .i64 0)),(49,.p (.int .i64 0))],[(21,.arr 3 1 1 (List.map AV.p (List.map (PV.int .i64) s29))),(23,.arr 218 4 1 [.agg [.p (.slc (List.map (encL (PV.int .i64)) r8)),.own 21 1 0 s29.length,(if s30=true then .p (.slc (List.map (PV.int .i64) (s31 :: s32))) else .nils),.p (.int .i64 s33)]])]⟩) (fun (o38:Unit)=>tE ⟨Tryz.prog,94,34,X,[(21,.arr 3 1 1 (List.map AV.p (List.map (PV.int .i64) l15))),(23,.arr 218 4 1 [.agg [.p (.slc (List.map (encL (PV.int .i64)) r8)),.own 21 1 0 l15.length,.nils,.p (.int .i64 0)]])],i17,w18,False,h19⟩ (.exit 2) ⟨[(0,.loc 23 1 0 0),(1,.p (.int .i64 0)),(2,.p (.int .i64 0)),(3,.p (.int .i64 0)),(8,.p (.int .i64 t34)),(9,.p (.int .i64 0)),(44,.p (.int .i64 1)),(45,.p (.int .i64 t34))],[(21,.arr 3 1 1 (List.map AV.p (List.map (PV.int .i64) s29))),(23,.arr 218 4 1 [.agg [.p (.slc (List.map (encL (PV.int .i64)) r8)),.own 21 1 0 s29.length,(if s30=true then .p (.slc (List.map (PV.int .i64) (s31 :: s32))) else .nils),.p (.int .i64 s33)]])]⟩) h37 ?_ ?_
 clear h h35 h35T h37
 intro s x h
 simp only [cluster_Optimal_l1] at h
 refine zs (zr ?_)
 refine zU (zl (zn (zs ?_)))
 refine zj (zx (ze ?_))
 cases h
 exact ⟨rfl,zE⟩
 cases o36
 try simp only at h
 refine zA (yh (zn (zs (zr ?_))))
 obtain ⟨x39,h40,h40l,h40L,h⟩:=zY 0 h
 refine zU (zl (zn (zr ?_)))
 refine zU ?_
 refine zM ⟨[(0,.loc 23 1 0 0),(1,.p (.int .i64 0)),(2,.p (.int .i64 0)),(3,.p (.int .i64 0)),(44,.p (.int .i64 1)),(45,.p (.int .i64 t34)),(82,.loc 23 1 0 0),(84,.p (.int .i64 1)),(88,.p (.int .i64 (if (IntKind.i64.wrap (t34+1)) > 0 then (IntKind.i64.wrap (t34+1)) else 0))),(91,.p (.int .i64 0))],[(21,.arr 3 1 1 (List.map AV.p (List.map (PV.int .i64) (s29.set 0 t34)))),(23,.arr 218 4 1 [.agg [.p (.slc (List.map (encL (PV.int .i64)) r8)),.own 21 1 0 ((s29.set 0 t34)).length,(if s30=true then .p (.slc (List.map (PV.int .i64) (s31 :: s32))) else .nils),.p (.int .i64 s33)]])]⟩ ?_
 refine AL_inline (avs:=[.loc 23 1 0 0,.p (.int .i64 1),.p (.int .i64 (if (IntKind.i64.wrap (t34+1)) > 0 then (IntKind.i64.wrap (t34+1)) else 0)),.p (.int .i64 0)]) 128 rfl (guard_none rfl) rfl Tryz.func160 rfl Tryz.call160 Tryz.ntmps160 (by simp) (by simp only [go_sem,seval,h35T];all_goals rfl) ?_
 intro i41 w42 h43
 obtain ⟨u44,h45,h⟩:=zB h
 replace h45:=Option.some.inj h45
 refine awp_le (st':=⟨[(0,.loc 23 1 0 0),(1,.p (.int .i64 1)),(2,.p (.int .i64 u44)),(3,.p (.int .i64 0))],[(21,.arr 3 1 1 (List.map AV.p (List.map (PV.int .i64) (s29.set 0 t34)))),(23,.arr 218 4 1 [.agg [.p (.slc (List.map (encL (PV.int .i64)) r8)),.own 21 1 0 ((s29.set 0 t34)).length,(if s30=true then .p (.slc (List.map (PV.int .i64) (s31 :: s32))) else .nils),.p (.int .i64 s33)]])]⟩) (by simp only [go_sem,seval,h35T,←h45];all_goals ((repeat' refine And.intro ?_ ?_) <;> first | rfl | (simp;done) | (simp;rfl) | (simp [*];done) | (simp [*];rfl))) ?_
 clear h45
 obtain ⟨o46,h47,h⟩:=zB h
 refine zJ (fun (o:(Unit) ⊕ (Unit))=>match o with | .inl o48=>tE ⟨Tryz.prog,94,128,X,[(21,.arr 3 1 1 (List.map AV.p (List.map (PV.int .i64) (s29.set 0 t34)))),(23,.arr 218 4 1 [.agg [.p (.slc (List.map (encL (PV.int .i64)) r8)),.own 21 1 0 ((s29.set 0 t34)).length,(if s30=true then .p (.slc (List.map (PV.int .i64) (s31 :: s32))) else .nils),.p (.int .i64 s33)]])],i41,w42,False,h43⟩ .normal ⟨[(0,.loc 23 1 0 0),(1,.p (.int .i64 1)),(2,.p (.int .i64 u44)),(3,.p (.int .i64 0))],[(21,.arr 3 1 1 (List.map AV.p (List.map (PV.int .i64) (s29.set 0 t34)))),(23,.arr 218 4 1 [.agg [.p (.slc (List.map (encL (PV.int .i64)) r8)),.own 21 1 0 ((s29.set 0 t34)).length,(if s30=true then .p (.slc (List.map (PV.int .i64) (s31 :: s32))) else .nils),.p (.int .i64 s33)]])]⟩ | .inr o49=>tE ⟨Tryz.prog,94,128,X,[(21,.arr 3 1 1 (List.map AV.p (List.map (PV.int .i64) (s29.set 0 t34)))),(23,.arr 218 4 1 [.agg [.p (.slc (List.map (encL (PV.int .i64)) r8)),.own 21 1 0 ((s29.set 0 t34)).length,(if s30=true then .p (.slc (List.map (PV.int .i64) (s31 :: s32))) else .nils),.p (.int .i64 s33)]])],i41,w42,False,h43⟩ .ret ⟨[],[(21,.arr 3 1 1 (List.map AV.p (List.map (PV.int .i64) (s29.set 0 t34)))),(23,.arr 218 4 1 [.agg [.p (.slc (List.map (encL (PV.int .i64)) r8)),.own 21 1 0 ((s29.set 0 t34)).length,(if s30=true then .p (.slc (List.map (PV.int .i64) (s31 :: s32))) else .nils),.p (.int .i64 s33)]])]⟩) o46 ?_ ?_
 replace h:=h47
 clear h47
 refine zs (zr ?_)
 refine zW 4 ?_
 rcases zI h with ⟨h50,h⟩ | ⟨h50,h⟩
 refine zU ?_
 refine zg ?_
 refine zg ?_
 refine zg ?_
 refine zg ?_
 refine zg ?_
 refine zg ?_
 refine zU (zl (zn ?_))
 rcases zI h with ⟨h51,h⟩ | ⟨h51,h⟩
 refine zi (zq ?_)
 cases h
 exact ⟨rfl,zE⟩
 refine zj (zk ?_)
 cases h
 exact ⟨rfl,zE⟩
 refine zU ?_
 refine zh ?_
 refine zU (zl (zn ?_))
 refine zj (zk ?_)
 cases h
 exact ⟨rfl,zE⟩
 rcases o46 with ⟨⟩ | ⟨⟩
 try simp only at h
 refine zA (zn (zs (zs (zr ?_))))
 refine zU (zl (zn ?_))
 rcases zI h with ⟨h52,h⟩ | ⟨h52,h⟩
 refine zi (zs (zr ?_))
 refine zU ?_
 obtain ⟨h53,h⟩:=ite_some h
 refine zCo cln44 165 (PV.int .i64) (s29.set 0 t34) _ rfl ⟨by unfold maxLen;omega,by omega⟩ ?_
 obtain ⟨x54,h55,h55l,h55L,h⟩:=zY 0 h
 obtain ⟨l56,h57,h⟩:=zB h
 replace h57:=Option.some.inj h57
 replace h57:=cons_of h57 h55
 refine zM ⟨[(3,.p (.int .i64 0)),(31,.loc 23 1 0 0),(32,.loc 23 1 0 0),(37,.p (.slc (List.map (PV.int .i64) (x54 :: l56))))],[(21,.arr 3 1 1 (List.map AV.p (List.map (PV.int .i64) (s29.set 0 t34)))),(23,.arr 218 4 1 [.agg [.p (.slc (List.map (encL (PV.int .i64)) r8)),.own 21 1 0 ((s29.set 0 t34)).length,(if s30=true then .p (.slc (List.map (PV.int .i64) (s31 :: s32))) else .nils),.p (.int .i64 s33)]])]⟩ ?_
 clear h57
 refine zU (zl (zn (zq (zt ?_))))
 refine inlQ_ret (by simp only [Tryz.results160];simp only [go_sem,seval,h35T,h52];exact rfl) ?_
 refine zl (yn (zn (zr ?_)))
 refine zU (zl ?_)
 cases h
 exact ⟨rfl,zE⟩
 have h52F:=Bool.eq_false_iff.2 h52
 refine zj (zk (zn (zs (zr ?_))))
 refine zU (zl (zn (zb ?_)))
 obtain ⟨o58,h59,h⟩:=zB h
 refine zO (fun (s:List Int×Bool×Int×List Int×Int×Int)=>⟨[(0,.loc 23 1 0 0),(1,.p (.int .i64 1)),(2,.p (.int .i64 u44)),(3,.p (.int .i64 0)),(44,.p (.int .i64 (IntKind.i64.wrap (u44+1)))),(45,.p (.int .i64 s.2.2.2.2.2))],[(21,.arr 3 1 1 (List.map AV.p (List.map (PV.int .i64) s.1))),(23,.arr 218 4 1 [.agg [.p (.slc (List.map (encL (PV.int .i64)) r8)),.own 21 1 0 s.1.length,(if s.2.1=true then .p (.slc (List.map (PV.int .i64) (s.2.2.1 :: s.2.2.2.1))) else .nils),.p (.int .i64 s.2.2.2.2.1)]])]⟩) (fun (o60:List Int×Bool×Int×List Int×Int)=>tE ⟨Tryz.prog,94,128,X,[(21,.arr 3 1 1 (List.map AV.p (List.map (PV.int .i64) (s29.set 0 t34)))),(23,.arr 218 4 1 [.agg [.p (.slc (List.map (encL (PV.int .i64)) r8)),.own 21 1 0 ((s29.set 0 t34)).length,(if s30=true then .p (.slc (List.map (PV.int .i64) (s31 :: s32))) else .nils),.p (.int .i64 s33)]])],i41,w42,False,h43⟩ (.exit 0) ⟨[],[(21,.arr 3 1 1 (List.map AV.p (List.map (PV.int .i64) o60.1))),(23,.arr 218 4 1 [.agg [.p (.slc (List.map (encL (PV.int .i64)) r8)),.own 21 1 0 o60.1.length,(if o60.2.1=true then .p (.slc (List.map (PV.int .i64) (o60.2.2.1 :: o60.2.2.2.1))) else .nils),.p (.int .i64 o60.2.2.2.2)]])]⟩) h59 ?_ ?_
 clear h h35 h35T h37 h40 h40l h40L h52 h52F h59
 intro s x h
 obtain ⟨s61,s62,s63,s64,s65,t66⟩:=s
 simp only [cluster_Optimal_l13] at h
 dsimp only
 refine zs (zr ?_)
 refine zU (zl (zn (zs ?_)))
 rcases zI h with ⟨h67,h⟩ | ⟨h67,h⟩
 have h67T:=eq_true h67
 refine zi (zk (zn (zs (zb (zs (zr ?_))))))
 refine zU (zl (zn (zs (zr ?_))))
 refine zU (zl (zn (zs (zs (zr ?_)))))
 refine zU (zl (zn (zb ?_)))
 obtain ⟨m68,h69,h⟩:=zB h
 refine zO (fun (s:Int×Int)=>⟨[(0,.loc 23 1 0 0),(1,.p (.int .i64 1)),(2,.p (.int .i64 u44)),(3,.p (.int .i64 0)),(8,.p (.int .i64 t66)),(9,.p (.int .i64 s.1)),(44,.p (.int .i64 (IntKind.i64.wrap (u44+1)))),(45,.p (.int .i64 t66)),(48,.p (.int .i64 1)),(49,.p (.int .i64 s.2))],[(21,.arr 3 1 1 (List.map AV.p (List.map (PV.int .i64) s61))),(23,.arr 218 4 1 [.agg [.p (.slc (List.map (encL (PV.int .i64)) r8)),.own 21 1 0 s61.length,(if s62=true then .p (.slc (List.map (PV.int .i64) (s63 :: s64))) else .nils),.p (.int .i64 s65)]])]⟩) (fun (o70:Int)=>tE ⟨Tryz.prog,94,128,X,[(21,.arr 3 1 1 (List.map AV.p (List.map (PV.int .i64) (s29.set 0 t34)))),(23,.arr 218 4 1 [.agg [.p (.slc (List.map (encL (PV.int .i64)) r8)),.own 21 1 0 ((s29.set 0 t34)).length,(if s30=true then .p (.slc (List.map (PV.int .i64) (s31 :: s32))) else .nils),.p (.int .i64 s33)]])],i41,w42,False,h43⟩ (.exit 2) ⟨[(0,.loc 23 1 0 0),(1,.p (.int .i64 1)),(2,.p (.int .i64 u44)),(3,.p (.int .i64 0)),(8,.p (.int .i64 t66)),(9,.p (.int .i64 o70)),(44,.p (.int .i64 (IntKind.i64.wrap (u44+1)))),(45,.p (.int .i64 t66))],[(21,.arr 3 1 1 (List.map AV.p (List.map (PV.int .i64) s61))),(23,.arr 218 4 1 [.agg [.p (.slc (List.map (encL (PV.int .i64)) r8)),.own 21 1 0 s61.length,(if s62=true then .p (.slc (List.map (PV.int .i64) (s63 :: s64))) else .nils),.p (.int .i64 s65)]])]⟩) h69 ?_ ?_
 clear h h67 h67T h69
 intro s x h
 obtain ⟨m71,t72⟩:=s
 simp only [cluster_Optimal_l2] at h
 dsimp only
 refine zs (zr ?_)
 refine zU (zl (zn (zs ?_)))
 rcases zI h with ⟨h73,h⟩ | ⟨h73,h⟩
 refine zi (zk (zn (zs (zb (zs (zr ?_))))))
 refine zU (zl (zn (zd ?_)))
 obtain ⟨x74,h75,h75a,h75b,h⟩:=zX h
 obtain ⟨x76,h77,h77l,h77L,h⟩:=zY 1 h
 obtain ⟨x78,h79,h79a,h79b,h⟩:=zX h
 refine yU ?_
 obtain ⟨r80,h81,h⟩:=zB h
 refine yc (cluster_price_con x76 (x78 == t66) _ h81) ?_
 refine yU ?_
 refine yd (yn (zn (zr ?_)))
 refine zU (zl ?_)
 cases h
 exact ⟨rfl,zE⟩
 refine zj (zx (ze ?_))
 cases h
 exact ⟨rfl,zE⟩
 try simp only at h
 refine zA (yh (zn (zs (zr ?_))))
 obtain ⟨x82,h83,h83l,h83L,h⟩:=zY 1 h
 refine zU (zl (zn (zr ?_)))
 refine zU ?_
 refine zM ⟨[(0,.loc 23 1 0 0),(1,.p (.int .i64 1)),(2,.p (.int .i64 u44)),(3,.p (.int .i64 0)),(44,.p (.int .i64 (IntKind.i64.wrap (u44+1)))),(45,.p (.int .i64 t66)),(82,.loc 23 1 0 0),(84,.p (.int .i64 2)),(88,.p (.int .i64 (if (IntKind.i64.wrap (t66+1)) > u44 then (IntKind.i64.wrap (t66+1)) else u44))),(91,.p (.int .i64 (IntKind.i64.wrap (0+m68))))],[(21,.arr 3 1 1 (List.map AV.p (List.map (PV.int .i64) (s61.set 1 t66)))),(23,.arr 218 4 1 [.agg [.p (.slc (List.map (encL (PV.int .i64)) r8)),.own 21 1 0 ((s61.set 1 t66)).length,(if s62=true then .p (.slc (List.map (PV.int .i64) (s63 :: s64))) else .nils),.p (.int .i64 s65)]])]⟩ ?_
 refine AL_inline (avs:=[.loc 23 1 0 0,.p (.int .i64 2),.p (.int .i64 (if (IntKind.i64.wrap (t66+1)) > u44 then (IntKind.i64.wrap (t66+1)) else u44)),.p (.int .i64 (IntKind.i64.wrap (0+m68)))]) 222 rfl (guard_none rfl) rfl Tryz.func160 rfl Tryz.call160 Tryz.ntmps160 (by simp) (by simp only [go_sem,seval,h67T];all_goals rfl) ?_
 intro i84 w85 h86
 obtain ⟨u87,h88,h⟩:=zB h
 replace h88:=Option.some.inj h88
 obtain ⟨c89,h90,h⟩:=zB h
 replace h90:=Option.some.inj h90
 refine awp_le (st':=⟨[(0,.loc 23 1 0 0),(1,.p (.int .i64 2)),(2,.p (.int .i64 u87)),(3,.p (.int .i64 c89))],[(21,.arr 3 1 1 (List.map AV.p (List.map (PV.int .i64) (s61.set 1 t66)))),(23,.arr 218 4 1 [.agg [.p (.slc (List.map (encL (PV.int .i64)) r8)),.own 21 1 0 ((s61.set 1 t66)).length,(if s62=true then .p (.slc (List.map (PV.int .i64) (s63 :: s64))) else .nils),.p (.int .i64 s65)]])]⟩) (by simp only [go_sem,seval,h67T,←h88,←h90];all_goals ((repeat' refine And.intro ?_ ?_) <;> first | rfl | (simp;done) | (simp;rfl) | (simp [*];done) | (simp [*];rfl))) ?_
 clear h88 h90
 obtain ⟨o91,h92,h⟩:=zB h
 refine zJ (fun (o:(Unit) ⊕ (Unit))=>match o with | .inl o93=>tE ⟨Tryz.prog,94,222,X,[(21,.arr 3 1 1 (List.map AV.p (List.map (PV.int .i64) (s61.set 1 t66)))),(23,.arr 218 4 1 [.agg [.p (.slc (List.map (encL (PV.int .i64)) r8)),.own 21 1 0 ((s61.set 1 t66)).length,(if s62=true then .p (.slc (List.map (PV.int .i64) (s63 :: s64))) else .nils),.p (.int .i64 s65)]])],i84,w85,False,h86⟩ .normal ⟨[(0,.loc 23 1 0 0),(1,.p (.int .i64 2)),(2,.p (.int .i64 u87)),(3,.p (.int .i64 c89))],[(21,.arr 3 1 1 (List.map AV.p (List.map (PV.int .i64) (s61.set 1 t66)))),(23,.arr 218 4 1 [.agg [.p (.slc (List.map (encL (PV.int .i64)) r8)),.own 21 1 0 ((s61.set 1 t66)).length,(if s62=true then .p (.slc (List.map (PV.int .i64) (s63 :: s64))) else .nils),.p (.int .i64 s65)]])]⟩ | .inr o94=>tE ⟨Tryz.prog,94,222,X,[(21,.arr 3 1 1 (List.map AV.p (List.map (PV.int .i64) (s61.set 1 t66)))),(23,.arr 218 4 1 [.agg [.p (.slc (List.map (encL (PV.int .i64)) r8)),.own 21 1 0 ((s61.set 1 t66)).length,(if s62=true then .p (.slc (List.map (PV.int .i64) (s63 :: s64))) else .nils),.p (.int .i64 s65)]])],i84,w85,False,h86⟩ .ret ⟨[],[(21,.arr 3 1 1 (List.map AV.p (List.map (PV.int .i64) (s61.set 1 t66)))),(23,.arr 218 4 1 [.agg [.p (.slc (List.map (encL (PV.int .i64)) r8)),.own 21 1 0 ((s61.set 1 t66)).length,(if s62=true then .p (.slc (List.map (PV.int .i64) (s63 :: s64))) else .nils),.p (.int .i64 s65)]])]⟩) o91 ?_ ?_
 replace h:=h92
 clear h92
 refine zs (zr ?_)
 refine zW 4 ?_
 rcases zI h with ⟨h95,h⟩ | ⟨h95,h⟩
 refine zU ?_
 refine zg ?_
 refine zg ?_
 refine zg ?_
 refine zg ?_
 refine zg ?_
 refine zg ?_
 refine zU (zl (zn ?_))
 rcases zI h with ⟨h96,h⟩ | ⟨h96,h⟩
 refine zi (zq ?_)
 cases h
 exact ⟨rfl,zE⟩
 refine zj (zk ?_)
 cases h
 exact ⟨rfl,zE⟩
 refine zU ?_
 refine zh ?_
 refine zU (zl (zn ?_))
 refine zj (zk ?_)
 cases h
 exact ⟨rfl,zE⟩
 rcases o91 with ⟨⟩ | ⟨⟩
 try simp only at h
 refine zA (zn (zs (zs (zr ?_))))
 refine zU (zl (zn ?_))
 rcases zI h with ⟨h97,h⟩ | ⟨h97,h⟩
 refine zi (zs (zr ?_))
 refine zU ?_
 obtain ⟨h98,h⟩:=ite_some h
 refine zCo cln44 259 (PV.int .i64) (s61.set 1 t66) _ rfl ⟨by unfold maxLen;omega,by omega⟩ ?_
 obtain ⟨x99,h100,h100l,h100L,h⟩:=zY 0 h
 obtain ⟨l101,h102,h⟩:=zB h
 replace h102:=Option.some.inj h102
 replace h102:=cons_of h102 h100
 refine zM ⟨[(3,.p (.int .i64 c89)),(31,.loc 23 1 0 0),(32,.loc 23 1 0 0),(37,.p (.slc (List.map (PV.int .i64) (x99 :: l101))))],[(21,.arr 3 1 1 (List.map AV.p (List.map (PV.int .i64) (s61.set 1 t66)))),(23,.arr 218 4 1 [.agg [.p (.slc (List.map (encL (PV.int .i64)) r8)),.own 21 1 0 ((s61.set 1 t66)).length,(if s62=true then .p (.slc (List.map (PV.int .i64) (s63 :: s64))) else .nils),.p (.int .i64 s65)]])]⟩ ?_
 clear h102
 refine zU (zl (zn (zq (zt ?_))))
 refine inlQ_ret (by simp only [Tryz.results160];simp only [go_sem,seval,h67T,h97];exact rfl) ?_
 refine zl (yn (zn (zr ?_)))
 refine zU (zl ?_)
 cases h
 exact ⟨rfl,zE⟩
 have h97F:=Bool.eq_false_iff.2 h97
 refine zj (zk (zn (zs (zr ?_))))
 refine zU (zl (zn (zb ?_)))
 obtain ⟨o103,h104,h⟩:=zB h
 refine zO (fun (s:List Int×Bool×Int×List Int×Int×Int)=>⟨[(0,.loc 23 1 0 0),(1,.p (.int .i64 2)),(2,.p (.int .i64 u87)),(3,.p (.int .i64 c89)),(44,.p (.int .i64 (IntKind.i64.wrap (u87+1)))),(45,.p (.int .i64 s.2.2.2.2.2))],[(21,.arr 3 1 1 (List.map AV.p (List.map (PV.int .i64) s.1))),(23,.arr 218 4 1 [.agg [.p (.slc (List.map (encL (PV.int .i64)) r8)),.own 21 1 0 s.1.length,(if s.2.1=true then .p (.slc (List.map (PV.int .i64) (s.2.2.1 :: s.2.2.2.1))) else .nils),.p (.int .i64 s.2.2.2.2.1)]])]⟩) (fun (o105:List Int×Bool×Int×List Int×Int)=>tE ⟨Tryz.prog,94,222,X,[(21,.arr 3 1 1 (List.map AV.p (List.map (PV.int .i64) (s61.set 1 t66)))),(23,.arr 218 4 1 [.agg [.p (.slc (List.map (encL (PV.int .i64)) r8)),.own 21 1 0 ((s61.set 1 t66)).length,(if s62=true then .p (.slc (List.map (PV.int .i64) (s63 :: s64))) else .nils),.p (.int .i64 s65)]])],i84,w85,False,h86⟩ (.exit 0) ⟨[],[(21,.arr 3 1 1 (List.map AV.p (List.map (PV.int .i64) o105.1))),(23,.arr 218 4 1 [.agg [.p (.slc (List.map (encL (PV.int .i64)) r8)),.own 21 1 0 o105.1.length,(if o105.2.1=true then .p (.slc (List.map (PV.int .i64) (o105.2.2.1 :: o105.2.2.2.1))) else .nils),.p (.int .i64 o105.2.2.2.2)]])]⟩) h104 ?_ ?_
 clear h h67 h67T h69 h83 h83l h83L h97 h97F h104
 intro s x h
 obtain ⟨s106,s107,s108,s109,s110,t111⟩:=s
 simp only [cluster_Optimal_l12] at h
 dsimp only
 refine zs (zr ?_)
 refine zU (zl (zn (zs ?_)))
 rcases zI h with ⟨h112,h⟩ | ⟨h112,h⟩
 have h112T:=eq_true h112
 refine zi (zk (zn (zs (zb (zs (zr ?_))))))
 refine zU (zl (zn (zs (zr ?_))))
 refine zU (zl (zn (zs (zs (zr ?_)))))
 refine zU (zl (zn (zb ?_)))
 obtain ⟨m113,h114,h⟩:=zB h
 refine zO (fun (s:Int×Int)=>⟨[(0,.loc 23 1 0 0),(1,.p (.int .i64 2)),(2,.p (.int .i64 u87)),(3,.p (.int .i64 c89)),(8,.p (.int .i64 t111)),(9,.p (.int .i64 s.1)),(44,.p (.int .i64 (IntKind.i64.wrap (u87+1)))),(45,.p (.int .i64 t111)),(48,.p (.int .i64 2)),(49,.p (.int .i64 s.2))],[(21,.arr 3 1 1 (List.map AV.p (List.map (PV.int .i64) s106))),(23,.arr 218 4 1 [.agg [.p (.slc (List.map (encL (PV.int .i64)) r8)),.own 21 1 0 s106.length,(if s107=true then .p (.slc (List.map (PV.int .i64) (s108 :: s109))) else .nils),.p (.int .i64 s110)]])]⟩) (fun (o115:Int)=>tE ⟨Tryz.prog,94,222,X,[(21,.arr 3 1 1 (List.map AV.p (List.map (PV.int .i64) (s61.set 1 t66)))),(23,.arr 218 4 1 [.agg [.p (.slc (List.map (encL (PV.int .i64)) r8)),.own 21 1 0 ((s61.set 1 t66)).length,(if s62=true then .p (.slc (List.map (PV.int .i64) (s63 :: s64))) else .nils),.p (.int .i64 s65)]])],i84,w85,False,h86⟩ (.exit 2) ⟨[(0,.loc 23 1 0 0),(1,.p (.int .i64 2)),(2,.p (.int .i64 u87)),(3,.p (.int .i64 c89)),(8,.p (.int .i64 t111)),(9,.p (.int .i64 o115)),(44,.p (.int .i64 (IntKind.i64.wrap (u87+1)))),(45,.p (.int .i64 t111))],[(21,.arr 3 1 1 (List.map AV.p (List.map (PV.int .i64) s106))),(23,.arr 218 4 1 [.agg [.p (.slc (List.map (encL (PV.int .i64)) r8)),.own 21 1 0 s106.length,(if s107=true then .p (.slc (List.map (PV.int .i64) (s108 :: s109))) else .nils),.p (.int .i64 s110)]])]⟩) h114 ?_ ?_
 clear h h112 h112T h114
 intro s x h
 obtain ⟨m116,t117⟩:=s
 simp only [cluster_Optimal_l3] at h
 dsimp only
 refine zs (zr ?_)
 refine zU (zl (zn (zs ?_)))
 rcases zI h with ⟨h118,h⟩ | ⟨h118,h⟩
 refine zi (zk (zn (zs (zb (zs (zr ?_))))))
 refine zU (zl (zn (zd ?_)))
 obtain ⟨x119,h120,h120a,h120b,h⟩:=zX h
 obtain ⟨x121,h122,h122l,h122L,h⟩:=zY 2 h
 obtain ⟨x123,h124,h124a,h124b,h⟩:=zX h
 refine yU ?_
 obtain ⟨r125,h126,h⟩:=zB h
 refine yc (cluster_price_con x121 (x123 == t111) _ h126) ?_
 refine yU ?_
 refine yd (yn (zn (zr ?_)))
 refine zU (zl ?_)
 cases h
 exact ⟨rfl,zE⟩
 refine zj (zx (ze ?_))
 cases h
 exact ⟨rfl,zE⟩
 try simp only at h
 refine zA (yh (zn (zs (zr ?_))))
 obtain ⟨x127,h128,h128l,h128L,h⟩:=zY 2 h
 refine zU (zl (zn (zr ?_)))
 refine zU ?_
 refine zM ⟨[(0,.loc 23 1 0 0),(1,.p (.int .i64 2)),(2,.p (.int .i64 u87)),(3,.p (.int .i64 c89)),(44,.p (.int .i64 (IntKind.i64.wrap (u87+1)))),(45,.p (.int .i64 t111)),(82,.loc 23 1 0 0),(84,.p (.int .i64 3)),(88,.p (.int .i64 (if (IntKind.i64.wrap (t111+1)) > u87 then (IntKind.i64.wrap (t111+1)) else u87))),(91,.p (.int .i64 (IntKind.i64.wrap (c89+m113))))],[(21,.arr 3 1 1 (List.map AV.p (List.map (PV.int .i64) (s106.set 2 t111)))),(23,.arr 218 4 1 [.agg [.p (.slc (List.map (encL (PV.int .i64)) r8)),.own 21 1 0 ((s106.set 2 t111)).length,(if s107=true then .p (.slc (List.map (PV.int .i64) (s108 :: s109))) else .nils),.p (.int .i64 s110)]])]⟩ ?_
 refine AL_inline (avs:=[.loc 23 1 0 0,.p (.int .i64 3),.p (.int .i64 (if (IntKind.i64.wrap (t111+1)) > u87 then (IntKind.i64.wrap (t111+1)) else u87)),.p (.int .i64 (IntKind.i64.wrap (c89+m113)))]) 316 rfl (guard_none rfl) rfl Tryz.func160 rfl Tryz.call160 Tryz.ntmps160 (by simp) (by simp only [go_sem,seval,h112T];all_goals rfl) ?_
 intro i129 w130 h131
 obtain ⟨u132,h133,h⟩:=zB h
 replace h133:=Option.some.inj h133
 obtain ⟨c134,h135,h⟩:=zB h
 replace h135:=Option.some.inj h135
 refine awp_le (st':=⟨[(0,.loc 23 1 0 0),(1,.p (.int .i64 3)),(2,.p (.int .i64 u132)),(3,.p (.int .i64 c134))],[(21,.arr 3 1 1 (List.map AV.p (List.map (PV.int .i64) (s106.set 2 t111)))),(23,.arr 218 4 1 [.agg [.p (.slc (List.map (encL (PV.int .i64)) r8)),.own 21 1 0 ((s106.set 2 t111)).length,(if s107=true then .p (.slc (List.map (PV.int .i64) (s108 :: s109))) else .nils),.p (.int .i64 s110)]])]⟩) (by simp only [go_sem,seval,h112T,←h133,←h135];all_goals ((repeat' refine And.intro ?_ ?_) <;> first | rfl | (simp;done) | (simp;rfl) | (simp [*];done) | (simp [*];rfl))) ?_
 clear h133 h135
 obtain ⟨o136,h137,h⟩:=zB h
 refine zJ (fun (o:(Unit) ⊕ (Unit))=>match o with | .inl o138=>tE ⟨Tryz.prog,94,316,X,[(21,.arr 3 1 1 (List.map AV.p (List.map (PV.int .i64) (s106.set 2 t111)))),(23,.arr 218 4 1 [.agg [.p (.slc (List.map (encL (PV.int .i64)) r8)),.own 21 1 0 ((s106.set 2 t111)).length,(if s107=true then .p (.slc (List.map (PV.int .i64) (s108 :: s109))) else .nils),.p (.int .i64 s110)]])],i129,w130,False,h131⟩ .normal ⟨[(0,.loc 23 1 0 0),(1,.p (.int .i64 3)),(2,.p (.int .i64 u132)),(3,.p (.int .i64 c134))],[(21,.arr 3 1 1 (List.map AV.p (List.map (PV.int .i64) (s106.set 2 t111)))),(23,.arr 218 4 1 [.agg [.p (.slc (List.map (encL (PV.int .i64)) r8)),.own 21 1 0 ((s106.set 2 t111)).length,(if s107=true then .p (.slc (List.map (PV.int .i64) (s108 :: s109))) else .nils),.p (.int .i64 s110)]])]⟩ | .inr o139=>tE ⟨Tryz.prog,94,316,X,[(21,.arr 3 1 1 (List.map AV.p (List.map (PV.int .i64) (s106.set 2 t111)))),(23,.arr 218 4 1 [.agg [.p (.slc (List.map (encL (PV.int .i64)) r8)),.own 21 1 0 ((s106.set 2 t111)).length,(if s107=true then .p (.slc (List.map (PV.int .i64) (s108 :: s109))) else .nils),.p (.int .i64 s110)]])],i129,w130,False,h131⟩ .ret ⟨[],[(21,.arr 3 1 1 (List.map AV.p (List.map (PV.int .i64) (s106.set 2 t111)))),(23,.arr 218 4 1 [.agg [.p (.slc (List.map (encL (PV.int .i64)) r8)),.own 21 1 0 ((s106.set 2 t111)).length,(if s107=true then .p (.slc (List.map (PV.int .i64) (s108 :: s109))) else .nils),.p (.int .i64 s110)]])]⟩) o136 ?_ ?_
 replace h:=h137
 clear h137
 refine zs (zr ?_)
 refine zW 4 ?_
 rcases zI h with ⟨h140,h⟩ | ⟨h140,h⟩
 refine zU ?_
 refine zg ?_
 refine zg ?_
 refine zg ?_
 refine zg ?_
 refine zg ?_
 refine zg ?_
 refine zU (zl (zn ?_))
 rcases zI h with ⟨h141,h⟩ | ⟨h141,h⟩
 refine zi (zq ?_)
 cases h
 exact ⟨rfl,zE⟩
 refine zj (zk ?_)
 cases h
 exact ⟨rfl,zE⟩
 refine zU ?_
 refine zh ?_
 refine zU (zl (zn ?_))
 refine zj (zk ?_)
 cases h
 exact ⟨rfl,zE⟩
 rcases o136 with ⟨⟩ | ⟨⟩
 try simp only at h
 refine zA (zn (zs (zs (zr ?_))))
 refine zU (zl (zn ?_))
 rcases zI h with ⟨h142,h⟩ | ⟨h142,h⟩
 refine zi (zs (zr ?_))
 refine zU ?_
 obtain ⟨h143,h⟩:=ite_some h
 refine zCo cln44 353 (PV.int .i64) (s106.set 2 t111) _ rfl ⟨by unfold maxLen;omega,by omega⟩ ?_
 obtain ⟨x144,h145,h145l,h145L,h⟩:=zY 0 h
 obtain ⟨l146,h147,h⟩:=zB h
 replace h147:=Option.some.inj h147
 replace h147:=cons_of h147 h145
 refine zM ⟨[(3,.p (.int .i64 c134)),(31,.loc 23 1 0 0),(32,.loc 23 1 0 0),(37,.p (.slc (List.map (PV.int .i64) (x144 :: l146))))],[(21,.arr 3 1 1 (List.map AV.p (List.map (PV.int .i64) (s106.set 2 t111)))),(23,.arr 218 4 1 [.agg [.p (.slc (List.map (encL (PV.int .i64)) r8)),.own 21 1 0 ((s106.set 2 t111)).length,(if s107=true then .p (.slc (List.map (PV.int .i64) (s108 :: s109))) else .nils),.p (.int .i64 s110)]])]⟩ ?_
 clear h147
 refine zU (zl (zn (zq (zt ?_))))
 refine inlQ_ret (by simp only [Tryz.results160];simp only [go_sem,seval,h112T,h142];exact rfl) ?_
 refine zl (yn (zn (zr ?_)))
 refine zU (zl ?_)
 cases h
 exact ⟨rfl,zE⟩
 have h142F:=Bool.eq_false_iff.2 h142
 refine zj (zk (zn (zs (zr ?_))))
 refine zU (zl (zn (zb ?_)))
 obtain ⟨o148,h149,h⟩:=zB h
 refine zO (fun (s:List Int×Bool×Int×List Int×Int×Int)=>⟨[(0,.loc 23 1 0 0),(1,.p (.int .i64 3)),(2,.p (.int .i64 u132)),(3,.p (.int .i64 c134)),(44,.p (.int .i64 (IntKind.i64.wrap (u132+1)))),(45,.p (.int .i64 s.2.2.2.2.2))],[(21,.arr 3 1 1 (List.map AV.p (List.map (PV.int .i64) s.1))),(23,.arr 218 4 1 [.agg [.p (.slc (List.map (encL (PV.int .i64)) r8)),.own 21 1 0 s.1.length,(if s.2.1=true then .p (.slc (List.map (PV.int .i64) (s.2.2.1 :: s.2.2.2.1))) else .nils),.p (.int .i64 s.2.2.2.2.1)]])]⟩) (fun (o150:List Int×Bool×Int×List Int×Int)=>tE ⟨Tryz.prog,94,316,X,[(21,.arr 3 1 1 (List.map AV.p (List.map (PV.int .i64) (s106.set 2 t111)))),(23,.arr 218 4 1 [.agg [.p (.slc (List.map (encL (PV.int .i64)) r8)),.own 21 1 0 ((s106.set 2 t111)).length,(if s107=true then .p (.slc (List.map (PV.int .i64) (s108 :: s109))) else .nils),.p (.int .i64 s110)]])],i129,w130,False,h131⟩ (.exit 0) ⟨[],[(21,.arr 3 1 1 (List.map AV.p (List.map (PV.int .i64) o150.1))),(23,.arr 218 4 1 [.agg [.p (.slc (List.map (encL (PV.int .i64)) r8)),.own 21 1 0 o150.1.length,(if o150.2.1=true then .p (.slc (List.map (PV.int .i64) (o150.2.2.1 :: o150.2.2.2.1))) else .nils),.p (.int .i64 o150.2.2.2.2)]])]⟩) h149 ?_ ?_
 clear h h112 h112T h114 h128 h128l h128L h142 h142F h149
 intro s x h
 obtain ⟨s151,s152,s153,s154,s155,t156⟩:=s
 simp only [cluster_Optimal_l11] at h
 dsimp only
 refine zs (zr ?_)
 refine zU (zl (zn (zs ?_)))
 rcases zI h with ⟨h157,h⟩ | ⟨h157,h⟩
 have h157T:=eq_true h157
 refine zi (zk (zn (zs (zb (zs (zr ?_))))))
 refine zU (zl (zn (zs (zr ?_))))
 refine zU (zl (zn (zs (zs (zr ?_)))))
 refine zU (zl (zn (zb ?_)))
 obtain ⟨m158,h159,h⟩:=zB h
 refine zO (fun (s:Int×Int)=>⟨[(0,.loc 23 1 0 0),(1,.p (.int .i64 3)),(2,.p (.int .i64 u132)),(3,.p (.int .i64 c134)),(8,.p (.int .i64 t156)),(9,.p (.int .i64 s.1)),(44,.p (.int .i64 (IntKind.i64.wrap (u132+1)))),(45,.p (.int .i64 t156)),(48,.p (.int .i64 3)),(49,.p (.int .i64 s.2))],[(21,.arr 3 1 1 (List.map AV.p (List.map (PV.int .i64) s151))),(23,.arr 218 4 1 [.agg [.p (.slc (List.map (encL (PV.int .i64)) r8)),.own 21 1 0 s151.length,(if s152=true then .p (.slc (List.map (PV.int .i64) (s153 :: s154))) else .nils),.p (.int .i64 s155)]])]⟩) (fun (o160:Int)=>tE ⟨Tryz.prog,94,316,X,[(21,.arr 3 1 1 (List.map AV.p (List.map (PV.int .i64) (s106.set 2 t111)))),(23,.arr 218 4 1 [.agg [.p (.slc (List.map (encL (PV.int .i64)) r8)),.own 21 1 0 ((s106.set 2 t111)).length,(if s107=true then .p (.slc (List.map (PV.int .i64) (s108 :: s109))) else .nils),.p (.int .i64 s110)]])],i129,w130,False,h131⟩ (.exit 2) ⟨[(0,.loc 23 1 0 0),(1,.p (.int .i64 3)),(2,.p (.int .i64 u132)),(3,.p (.int .i64 c134)),(8,.p (.int .i64 t156)),(9,.p (.int .i64 o160)),(44,.p (.int .i64 (IntKind.i64.wrap (u132+1)))),(45,.p (.int .i64 t156))],[(21,.arr 3 1 1 (List.map AV.p (List.map (PV.int .i64) s151))),(23,.arr 218 4 1 [.agg [.p (.slc (List.map (encL (PV.int .i64)) r8)),.own 21 1 0 s151.length,(if s152=true then .p (.slc (List.map (PV.int .i64) (s153 :: s154))) else .nils),.p (.int .i64 s155)]])]⟩) h159 ?_ ?_
 clear h h157 h157T h159
 intro s x h
 obtain ⟨m161,t162⟩:=s
 simp only [cluster_Optimal_l4] at h
 dsimp only
 refine zs (zr ?_)
 refine zU (zl (zn (zs ?_)))
 rcases zI h with ⟨h163,h⟩ | ⟨h163,h⟩
 refine zi (zk (zn (zs (zb (zs (zr ?_))))))
 refine zU (zl (zn (zd ?_)))
 obtain ⟨x164,h165,h165a,h165b,h⟩:=zX h
 obtain ⟨x166,h167,h167l,h167L,h⟩:=zY 3 h
 obtain ⟨x168,h169,h169a,h169b,h⟩:=zX h
 refine yU ?_
 obtain ⟨r170,h171,h⟩:=zB h
 refine yc (cluster_price_con x166 (x168 == t156) _ h171) ?_
 refine yU ?_
 refine yd (yn (zn (zr ?_)))
 refine zU (zl ?_)
 cases h
 exact ⟨rfl,zE⟩
 refine zj (zx (ze ?_))
 cases h
 exact ⟨rfl,zE⟩
 try simp only at h
 refine zA (yh (zn (zs (zr ?_))))
 obtain ⟨x172,h173,h173l,h173L,h⟩:=zY 3 h
 refine zU (zl (zn (zr ?_)))
 refine zU ?_
 refine zM ⟨[(0,.loc 23 1 0 0),(1,.p (.int .i64 3)),(2,.p (.int .i64 u132)),(3,.p (.int .i64 c134)),(44,.p (.int .i64 (IntKind.i64.wrap (u132+1)))),(45,.p (.int .i64 t156)),(82,.loc 23 1 0 0),(84,.p (.int .i64 4)),(88,.p (.int .i64 (if (IntKind.i64.wrap (t156+1)) > u132 then (IntKind.i64.wrap (t156+1)) else u132))),(91,.p (.int .i64 (IntKind.i64.wrap (c134+m158))))],[(21,.arr 3 1 1 (List.map AV.p (List.map (PV.int .i64) (s151.set 3 t156)))),(23,.arr 218 4 1 [.agg [.p (.slc (List.map (encL (PV.int .i64)) r8)),.own 21 1 0 ((s151.set 3 t156)).length,(if s152=true then .p (.slc (List.map (PV.int .i64) (s153 :: s154))) else .nils),.p (.int .i64 s155)]])]⟩ ?_
 refine AL_inline (avs:=[.loc 23 1 0 0,.p (.int .i64 4),.p (.int .i64 (if (IntKind.i64.wrap (t156+1)) > u132 then (IntKind.i64.wrap (t156+1)) else u132)),.p (.int .i64 (IntKind.i64.wrap (c134+m158)))]) 410 rfl (guard_none rfl) rfl Tryz.func160 rfl Tryz.call160 Tryz.ntmps160 (by simp) (by simp only [go_sem,seval,h157T];all_goals rfl) ?_
 intro i174 w175 h176
 obtain ⟨u177,h178,h⟩:=zB h
 replace h178:=Option.some.inj h178
 obtain ⟨c179,h180,h⟩:=zB h
 replace h180:=Option.some.inj h180
 refine awp_le (st':=⟨[(0,.loc 23 1 0 0),(1,.p (.int .i64 4)),(2,.p (.int .i64 u177)),(3,.p (.int .i64 c179))],[(21,.arr 3 1 1 (List.map AV.p (List.map (PV.int .i64) (s151.set 3 t156)))),(23,.arr 218 4 1 [.agg [.p (.slc (List.map (encL (PV.int .i64)) r8)),.own 21 1 0 ((s151.set 3 t156)).length,(if s152=true then .p (.slc (List.map (PV.int .i64) (s153 :: s154))) else .nils),.p (.int .i64 s155)]])]⟩) (by simp only [go_sem,seval,h157T,←h178,←h180];all_goals ((repeat' refine And.intro ?_ ?_) <;> first | rfl | (simp;done) | (simp;rfl) | (simp [*];done) | (simp [*];rfl))) ?_
 clear h178 h180
 obtain ⟨o181,h182,h⟩:=zB h
 refine zJ (fun (o:(Unit) ⊕ (Unit))=>match o with | .inl o183=>tE ⟨Tryz.prog,94,410,X,[(21,.arr 3 1 1 (List.map AV.p (List.map (PV.int .i64) (s151.set 3 t156)))),(23,.arr 218 4 1 [.agg [.p (.slc (List.map (encL (PV.int .i64)) r8)),.own 21 1 0 ((s151.set 3 t156)).length,(if s152=true then .p (.slc (List.map (PV.int .i64) (s153 :: s154))) else .nils),.p (.int .i64 s155)]])],i174,w175,False,h176⟩ .normal ⟨[(0,.loc 23 1 0 0),(1,.p (.int .i64 4)),(2,.p (.int .i64 u177)),(3,.p (.int .i64 c179))],[(21,.arr 3 1 1 (List.map AV.p (List.map (PV.int .i64) (s151.set 3 t156)))),(23,.arr 218 4 1 [.agg [.p (.slc (List.map (encL (PV.int .i64)) r8)),.own 21 1 0 ((s151.set 3 t156)).length,(if s152=true then .p (.slc (List.map (PV.int .i64) (s153 :: s154))) else .nils),.p (.int .i64 s155)]])]⟩ | .inr o184=>tE ⟨Tryz.prog,94,410,X,[(21,.arr 3 1 1 (List.map AV.p (List.map (PV.int .i64) (s151.set 3 t156)))),(23,.arr 218 4 1 [.agg [.p (.slc (List.map (encL (PV.int .i64)) r8)),.own 21 1 0 ((s151.set 3 t156)).length,(if s152=true then .p (.slc (List.map (PV.int .i64) (s153 :: s154))) else .nils),.p (.int .i64 s155)]])],i174,w175,False,h176⟩ .ret ⟨[],[(21,.arr 3 1 1 (List.map AV.p (List.map (PV.int .i64) (s151.set 3 t156)))),(23,.arr 218 4 1 [.agg [.p (.slc (List.map (encL (PV.int .i64)) r8)),.own 21 1 0 ((s151.set 3 t156)).length,(if s152=true then .p (.slc (List.map (PV.int .i64) (s153 :: s154))) else .nils),.p (.int .i64 s155)]])]⟩) o181 ?_ ?_
 replace h:=h182
 clear h182
 refine zs (zr ?_)
 refine zW 4 ?_
 rcases zI h with ⟨h185,h⟩ | ⟨h185,h⟩
 refine zU ?_
 refine zg ?_
 refine zg ?_
 refine zg ?_
 refine zg ?_
 refine zg ?_
 refine zg ?_
 refine zU (zl (zn ?_))
 rcases zI h with ⟨h186,h⟩ | ⟨h186,h⟩
 refine zi (zq ?_)
 cases h
 exact ⟨rfl,zE⟩
 refine zj (zk ?_)
 cases h
 exact ⟨rfl,zE⟩
 refine zU ?_
 refine zh ?_
 refine zU (zl (zn ?_))
 refine zj (zk ?_)
 cases h
 exact ⟨rfl,zE⟩
 rcases o181 with ⟨⟩ | ⟨⟩
 try simp only at h
 refine zA (zn (zs (zs (zr ?_))))
 refine zU (zl (zn ?_))
 rcases zI h with ⟨h187,h⟩ | ⟨h187,h⟩
 refine zi (zs (zr ?_))
 refine zU ?_
 obtain ⟨h188,h⟩:=ite_some h
 refine zCo cln44 447 (PV.int .i64) (s151.set 3 t156) _ rfl ⟨by unfold maxLen;omega,by omega⟩ ?_
 obtain ⟨x189,h190,h190l,h190L,h⟩:=zY 0 h
 obtain ⟨l191,h192,h⟩:=zB h
 replace h192:=Option.some.inj h192
 replace h192:=cons_of h192 h190
 refine zM ⟨[(3,.p (.int .i64 c179)),(31,.loc 23 1 0 0),(32,.loc 23 1 0 0),(37,.p (.slc (List.map (PV.int .i64) (x189 :: l191))))],[(21,.arr 3 1 1 (List.map AV.p (List.map (PV.int .i64) (s151.set 3 t156)))),(23,.arr 218 4 1 [.agg [.p (.slc (List.map (encL (PV.int .i64)) r8)),.own 21 1 0 ((s151.set 3 t156)).length,(if s152=true then .p (.slc (List.map (PV.int .i64) (s153 :: s154))) else .nils),.p (.int .i64 s155)]])]⟩ ?_
 clear h192
 refine zU (zl (zn (zq (zt ?_))))
 refine inlQ_ret (by simp only [Tryz.results160];simp only [go_sem,seval,h157T,h187];exact rfl) ?_
 refine zl (yn (zn (zr ?_)))
 refine zU (zl ?_)
 cases h
 exact ⟨rfl,zE⟩
 have h187F:=Bool.eq_false_iff.2 h187
 refine zj (zk (zn (zs (zr ?_))))
 refine zU (zl (zn (zb ?_)))
 obtain ⟨o193,h194,h⟩:=zB h
 refine zO (fun (s:List Int×Bool×Int×List Int×Int×Int)=>⟨[(0,.loc 23 1 0 0),(1,.p (.int .i64 4)),(2,.p (.int .i64 u177)),(3,.p (.int .i64 c179)),(44,.p (.int .i64 (IntKind.i64.wrap (u177+1)))),(45,.p (.int .i64 s.2.2.2.2.2))],[(21,.arr 3 1 1 (List.map AV.p (List.map (PV.int .i64) s.1))),(23,.arr 218 4 1 [.agg [.p (.slc (List.map (encL (PV.int .i64)) r8)),.own 21 1 0 s.1.length,(if s.2.1=true then .p (.slc (List.map (PV.int .i64) (s.2.2.1 :: s.2.2.2.1))) else .nils),.p (.int .i64 s.2.2.2.2.1)]])]⟩) (fun (o195:List Int×Bool×Int×List Int×Int)=>tE ⟨Tryz.prog,94,410,X,[(21,.arr 3 1 1 (List.map AV.p (List.map (PV.int .i64) (s151.set 3 t156)))),(23,.arr 218 4 1 [.agg [.p (.slc (List.map (encL (PV.int .i64)) r8)),.own 21 1 0 ((s151.set 3 t156)).length,(if s152=true then .p (.slc (List.map (PV.int .i64) (s153 :: s154))) else .nils),.p (.int .i64 s155)]])],i174,w175,False,h176⟩ (.exit 0) ⟨[],[(21,.arr 3 1 1 (List.map AV.p (List.map (PV.int .i64) o195.1))),(23,.arr 218 4 1 [.agg [.p (.slc (List.map (encL (PV.int .i64)) r8)),.own 21 1 0 o195.1.length,(if o195.2.1=true then .p (.slc (List.map (PV.int .i64) (o195.2.2.1 :: o195.2.2.2.1))) else .nils),.p (.int .i64 o195.2.2.2.2)]])]⟩) h194 ?_ ?_
 clear h h157 h157T h159 h173 h173l h173L h187 h187F h194
 intro s x h
 obtain ⟨s196,s197,s198,s199,s200,t201⟩:=s
 simp only [cluster_Optimal_l10] at h
 dsimp only
 refine zs (zr ?_)
 refine zU (zl (zn (zs ?_)))
 rcases zI h with ⟨h202,h⟩ | ⟨h202,h⟩
 have h202T:=eq_true h202
 refine zi (zk (zn (zs (zb (zs (zr ?_))))))
 refine zU (zl (zn (zs (zr ?_))))
 refine zU (zl (zn (zs (zs (zr ?_)))))
 refine zU (zl (zn (zb ?_)))
 obtain ⟨m203,h204,h⟩:=zB h
 refine zO (fun (s:Int×Int)=>⟨[(0,.loc 23 1 0 0),(1,.p (.int .i64 4)),(2,.p (.int .i64 u177)),(3,.p (.int .i64 c179)),(8,.p (.int .i64 t201)),(9,.p (.int .i64 s.1)),(44,.p (.int .i64 (IntKind.i64.wrap (u177+1)))),(45,.p (.int .i64 t201)),(48,.p (.int .i64 4)),(49,.p (.int .i64 s.2))],[(21,.arr 3 1 1 (List.map AV.p (List.map (PV.int .i64) s196))),(23,.arr 218 4 1 [.agg [.p (.slc (List.map (encL (PV.int .i64)) r8)),.own 21 1 0 s196.length,(if s197=true then .p (.slc (List.map (PV.int .i64) (s198 :: s199))) else .nils),.p (.int .i64 s200)]])]⟩) (fun (o205:Int)=>tE ⟨Tryz.prog,94,410,X,[(21,.arr 3 1 1 (List.map AV.p (List.map (PV.int .i64) (s151.set 3 t156)))),(23,.arr 218 4 1 [.agg [.p (.slc (List.map (encL (PV.int .i64)) r8)),.own 21 1 0 ((s151.set 3 t156)).length,(if s152=true then .p (.slc (List.map (PV.int .i64) (s153 :: s154))) else .nils),.p (.int .i64 s155)]])],i174,w175,False,h176⟩ (.exit 2) ⟨[(0,.loc 23 1 0 0),(1,.p (.int .i64 4)),(2,.p (.int .i64 u177)),(3,.p (.int .i64 c179)),(8,.p (.int .i64 t201)),(9,.p (.int .i64 o205)),(44,.p (.int .i64 (IntKind.i64.wrap (u177+1)))),(45,.p (.int .i64 t201))],[(21,.arr 3 1 1 (List.map AV.p (List.map (PV.int .i64) s196))),(23,.arr 218 4 1 [.agg [.p (.slc (List.map (encL (PV.int .i64)) r8)),.own 21 1 0 s196.length,(if s197=true then .p (.slc (List.map (PV.int .i64) (s198 :: s199))) else .nils),.p (.int .i64 s200)]])]⟩) h204 ?_ ?_
 clear h h202 h202T h204
 intro s x h
 obtain ⟨m206,t207⟩:=s
 simp only [cluster_Optimal_l5] at h
 dsimp only
 refine zs (zr ?_)
 refine zU (zl (zn (zs ?_)))
 rcases zI h with ⟨h208,h⟩ | ⟨h208,h⟩
 refine zi (zk (zn (zs (zb (zs (zr ?_))))))
 refine zU (zl (zn (zd ?_)))
 obtain ⟨x209,h210,h210a,h210b,h⟩:=zX h
 obtain ⟨x211,h212,h212l,h212L,h⟩:=zY 4 h
 obtain ⟨x213,h214,h214a,h214b,h⟩:=zX h
 refine yU ?_
 obtain ⟨r215,h216,h⟩:=zB h
 refine yc (cluster_price_con x211 (x213 == t201) _ h216) ?_
 refine yU ?_
 refine yd (yn (zn (zr ?_)))
 refine zU (zl ?_)
 cases h
 exact ⟨rfl,zE⟩
 refine zj (zx (ze ?_))
 cases h
 exact ⟨rfl,zE⟩
 try simp only at h
 refine zA (yh (zn (zs (zr ?_))))
 obtain ⟨x217,h218,h218l,h218L,h⟩:=zY 4 h
 refine zU (zl (zn (zr ?_)))
 refine zU ?_
 refine zM ⟨[(0,.loc 23 1 0 0),(1,.p (.int .i64 4)),(2,.p (.int .i64 u177)),(3,.p (.int .i64 c179)),(44,.p (.int .i64 (IntKind.i64.wrap (u177+1)))),(45,.p (.int .i64 t201)),(82,.loc 23 1 0 0),(84,.p (.int .i64 5)),(88,.p (.int .i64 (if (IntKind.i64.wrap (t201+1)) > u177 then (IntKind.i64.wrap (t201+1)) else u177))),(91,.p (.int .i64 (IntKind.i64.wrap (c179+m203))))],[(21,.arr 3 1 1 (List.map AV.p (List.map (PV.int .i64) (s196.set 4 t201)))),(23,.arr 218 4 1 [.agg [.p (.slc (List.map (encL (PV.int .i64)) r8)),.own 21 1 0 ((s196.set 4 t201)).length,(if s197=true then .p (.slc (List.map (PV.int .i64) (s198 :: s199))) else .nils),.p (.int .i64 s200)]])]⟩ ?_
 refine AL_inline (avs:=[.loc 23 1 0 0,.p (.int .i64 5),.p (.int .i64 (if (IntKind.i64.wrap (t201+1)) > u177 then (IntKind.i64.wrap (t201+1)) else u177)),.p (.int .i64 (IntKind.i64.wrap (c179+m203)))]) 504 rfl (guard_none rfl) rfl Tryz.func160 rfl Tryz.call160 Tryz.ntmps160 (by simp) (by simp only [go_sem,seval,h202T];all_goals rfl) ?_
 intro i219 w220 h221
 obtain ⟨u222,h223,h⟩:=zB h
 replace h223:=Option.some.inj h223
 obtain ⟨c224,h225,h⟩:=zB h
 replace h225:=Option.some.inj h225
 refine awp_le (st':=⟨[(0,.loc 23 1 0 0),(1,.p (.int .i64 5)),(2,.p (.int .i64 u222)),(3,.p (.int .i64 c224))],[(21,.arr 3 1 1 (List.map AV.p (List.map (PV.int .i64) (s196.set 4 t201)))),(23,.arr 218 4 1 [.agg [.p (.slc (List.map (encL (PV.int .i64)) r8)),.own 21 1 0 ((s196.set 4 t201)).length,(if s197=true then .p (.slc (List.map (PV.int .i64) (s198 :: s199))) else .nils),.p (.int .i64 s200)]])]⟩) (by simp only [go_sem,seval,h202T,←h223,←h225];all_goals ((repeat' refine And.intro ?_ ?_) <;> first | rfl | (simp;done) | (simp;rfl) | (simp [*];done) | (simp [*];rfl))) ?_
 clear h223 h225
 obtain ⟨o226,h227,h⟩:=zB h
 refine zJ (fun (o:(Unit) ⊕ (Unit))=>match o with | .inl o228=>tE ⟨Tryz.prog,94,504,X,[(21,.arr 3 1 1 (List.map AV.p (List.map (PV.int .i64) (s196.set 4 t201)))),(23,.arr 218 4 1 [.agg [.p (.slc (List.map (encL (PV.int .i64)) r8)),.own 21 1 0 ((s196.set 4 t201)).length,(if s197=true then .p (.slc (List.map (PV.int .i64) (s198 :: s199))) else .nils),.p (.int .i64 s200)]])],i219,w220,False,h221⟩ .normal ⟨[(0,.loc 23 1 0 0),(1,.p (.int .i64 5)),(2,.p (.int .i64 u222)),(3,.p (.int .i64 c224))],[(21,.arr 3 1 1 (List.map AV.p (List.map (PV.int .i64) (s196.set 4 t201)))),(23,.arr 218 4 1 [.agg [.p (.slc (List.map (encL (PV.int .i64)) r8)),.own 21 1 0 ((s196.set 4 t201)).length,(if s197=true then .p (.slc (List.map (PV.int .i64) (s198 :: s199))) else .nils),.p (.int .i64 s200)]])]⟩ | .inr o229=>tE ⟨Tryz.prog,94,504,X,[(21,.arr 3 1 1 (List.map AV.p (List.map (PV.int .i64) (s196.set 4 t201)))),(23,.arr 218 4 1 [.agg [.p (.slc (List.map (encL (PV.int .i64)) r8)),.own 21 1 0 ((s196.set 4 t201)).length,(if s197=true then .p (.slc (List.map (PV.int .i64) (s198 :: s199))) else .nils),.p (.int .i64 s200)]])],i219,w220,False,h221⟩ .ret ⟨[],[(21,.arr 3 1 1 (List.map AV.p (List.map (PV.int .i64) (s196.set 4 t201)))),(23,.arr 218 4 1 [.agg [.p (.slc (List.map (encL (PV.int .i64)) r8)),.own 21 1 0 ((s196.set 4 t201)).length,(if s197=true then .p (.slc (List.map (PV.int .i64) (s198 :: s199))) else .nils),.p (.int .i64 s200)]])]⟩) o226 ?_ ?_
 replace h:=h227
 clear h227
 refine zs (zr ?_)
 refine zW 4 ?_
 rcases zI h with ⟨h230,h⟩ | ⟨h230,h⟩
 refine zU ?_
 refine zg ?_
 refine zg ?_
 refine zg ?_
 refine zg ?_
 refine zg ?_
 refine zg ?_
 refine zU (zl (zn ?_))
 rcases zI h with ⟨h231,h⟩ | ⟨h231,h⟩
 refine zi (zq ?_)
 cases h
 exact ⟨rfl,zE⟩
 refine zj (zk ?_)
 cases h
 exact ⟨rfl,zE⟩
 refine zU ?_
 refine zh ?_
 refine zU (zl (zn ?_))
 refine zj (zk ?_)
 cases h
 exact ⟨rfl,zE⟩
 rcases o226 with ⟨⟩ | ⟨⟩
 try simp only at h
 refine zA (zn (zs (zs (zr ?_))))
 refine zU (zl (zn ?_))
 rcases zI h with ⟨h232,h⟩ | ⟨h232,h⟩
 refine zi (zs (zr ?_))
 refine zU ?_
 obtain ⟨h233,h⟩:=ite_some h
 refine zCo cln44 541 (PV.int .i64) (s196.set 4 t201) _ rfl ⟨by unfold maxLen;omega,by omega⟩ ?_
 obtain ⟨x234,h235,h235l,h235L,h⟩:=zY 0 h
 obtain ⟨l236,h237,h⟩:=zB h
 replace h237:=Option.some.inj h237
 replace h237:=cons_of h237 h235
 refine zM ⟨[(3,.p (.int .i64 c224)),(31,.loc 23 1 0 0),(32,.loc 23 1 0 0),(37,.p (.slc (List.map (PV.int .i64) (x234 :: l236))))],[(21,.arr 3 1 1 (List.map AV.p (List.map (PV.int .i64) (s196.set 4 t201)))),(23,.arr 218 4 1 [.agg [.p (.slc (List.map (encL (PV.int .i64)) r8)),.own 21 1 0 ((s196.set 4 t201)).length,(if s197=true then .p (.slc (List.map (PV.int .i64) (s198 :: s199))) else .nils),.p (.int .i64 s200)]])]⟩ ?_
 clear h237
 refine zU (zl (zn (zq (zt ?_))))
 refine inlQ_ret (by simp only [Tryz.results160];simp only [go_sem,seval,h202T,h232];exact rfl) ?_
 refine zl (yn (zn (zr ?_)))
 refine zU (zl ?_)
 cases h
 exact ⟨rfl,zE⟩
 have h232F:=Bool.eq_false_iff.2 h232
 refine zj (zk (zn (zs (zr ?_))))
 refine zU (zl (zn (zb ?_)))
 obtain ⟨o238,h239,h⟩:=zB h
 refine zO (fun (s:List Int×Bool×Int×List Int×Int×Int)=>⟨[(0,.loc 23 1 0 0),(1,.p (.int .i64 5)),(2,.p (.int .i64 u222)),(3,.p (.int .i64 c224)),(44,.p (.int .i64 (IntKind.i64.wrap (u222+1)))),(45,.p (.int .i64 s.2.2.2.2.2))],[(21,.arr 3 1 1 (List.map AV.p (List.map (PV.int .i64) s.1))),(23,.arr 218 4 1 [.agg [.p (.slc (List.map (encL (PV.int .i64)) r8)),.own 21 1 0 s.1.length,(if s.2.1=true then .p (.slc (List.map (PV.int .i64) (s.2.2.1 :: s.2.2.2.1))) else .nils),.p (.int .i64 s.2.2.2.2.1)]])]⟩) (fun (o240:List Int×Bool×Int×List Int×Int)=>tE ⟨Tryz.prog,94,504,X,[(21,.arr 3 1 1 (List.map AV.p (List.map (PV.int .i64) (s196.set 4 t201)))),(23,.arr 218 4 1 [.agg [.p (.slc (List.map (encL (PV.int .i64)) r8)),.own 21 1 0 ((s196.set 4 t201)).length,(if s197=true then .p (.slc (List.map (PV.int .i64) (s198 :: s199))) else .nils),.p (.int .i64 s200)]])],i219,w220,False,h221⟩ (.exit 0) ⟨[],[(21,.arr 3 1 1 (List.map AV.p (List.map (PV.int .i64) o240.1))),(23,.arr 218 4 1 [.agg [.p (.slc (List.map (encL (PV.int .i64)) r8)),.own 21 1 0 o240.1.length,(if o240.2.1=true then .p (.slc (List.map (PV.int .i64) (o240.2.2.1 :: o240.2.2.2.1))) else .nils),.p (.int .i64 o240.2.2.2.2)]])]⟩) h239 ?_ ?_
 clear h h202 h202T h204 h218 h218l h218L h232 h232F h239
 intro s x h
 obtain ⟨s241,s242,s243,s244,s245,t246⟩:=s
 simp only [cluster_Optimal_l9] at h
 dsimp only
 refine zs (zr ?_)
 refine zU (zl (zn (zs ?_)))
 rcases zI h with ⟨h247,h⟩ | ⟨h247,h⟩
 have h247T:=eq_true h247
 refine zi (zk (zn (zs (zb (zs (zr ?_))))))
 refine zU (zl (zn (zs (zr ?_))))
 refine zU (zl (zn (zs (zs (zr ?_)))))
 refine zU (zl (zn (zb ?_)))
 obtain ⟨m248,h249,h⟩:=zB h
 refine zO (fun (s:Int×Int)=>⟨[(0,.loc 23 1 0 0),(1,.p (.int .i64 5)),(2,.p (.int .i64 u222)),(3,.p (.int .i64 c224)),(8,.p (.int .i64 t246)),(9,.p (.int .i64 s.1)),(44,.p (.int .i64 (IntKind.i64.wrap (u222+1)))),(45,.p (.int .i64 t246)),(48,.p (.int .i64 5)),(49,.p (.int .i64 s.2))],[(21,.arr 3 1 1 (List.map AV.p (List.map (PV.int .i64) s241))),(23,.arr 218 4 1 [.agg [.p (.slc (List.map (encL (PV.int .i64)) r8)),.own 21 1 0 s241.length,(if s242=true then .p (.slc (List.map (PV.int .i64) (s243 :: s244))) else .nils),.p (.int .i64 s245)]])]⟩) (fun (o250:Int)=>tE ⟨Tryz.prog,94,504,X,[(21,.arr 3 1 1 (List.map AV.p (List.map (PV.int .i64) (s196.set 4 t201)))),(23,.arr 218 4 1 [.agg [.p (.slc (List.map (encL (PV.int .i64)) r8)),.own 21 1 0 ((s196.set 4 t201)).length,(if s197=true then .p (.slc (List.map (PV.int .i64) (s198 :: s199))) else .nils),.p (.int .i64 s200)]])],i219,w220,False,h221⟩ (.exit 2) ⟨[(0,.loc 23 1 0 0),(1,.p (.int .i64 5)),(2,.p (.int .i64 u222)),(3,.p (.int .i64 c224)),(8,.p (.int .i64 t246)),(9,.p (.int .i64 o250)),(44,.p (.int .i64 (IntKind.i64.wrap (u222+1)))),(45,.p (.int .i64 t246))],[(21,.arr 3 1 1 (List.map AV.p (List.map (PV.int .i64) s241))),(23,.arr 218 4 1 [.agg [.p (.slc (List.map (encL (PV.int .i64)) r8)),.own 21 1 0 s241.length,(if s242=true then .p (.slc (List.map (PV.int .i64) (s243 :: s244))) else .nils),.p (.int .i64 s245)]])]⟩) h249 ?_ ?_
 clear h h247 h247T h249
 intro s x h
 obtain ⟨m251,t252⟩:=s
 simp only [cluster_Optimal_l6] at h
 dsimp only
 refine zs (zr ?_)
 refine zU (zl (zn (zs ?_)))
 rcases zI h with ⟨h253,h⟩ | ⟨h253,h⟩
 refine zi (zk (zn (zs (zb (zs (zr ?_))))))
 refine zU (zl (zn (zd ?_)))
 obtain ⟨x254,h255,h255a,h255b,h⟩:=zX h
 obtain ⟨x256,h257,h257l,h257L,h⟩:=zY 5 h
 obtain ⟨x258,h259,h259a,h259b,h⟩:=zX h
 refine yU ?_
 obtain ⟨r260,h261,h⟩:=zB h
 refine yc (cluster_price_con x256 (x258 == t246) _ h261) ?_
 refine yU ?_
 refine yd (yn (zn (zr ?_)))
 refine zU (zl ?_)
 cases h
 exact ⟨rfl,zE⟩
 refine zj (zx (ze ?_))
 cases h
 exact ⟨rfl,zE⟩
 try simp only at h
 refine zA (yh (zn (zs (zr ?_))))
 obtain ⟨x262,h263,h263l,h263L,h⟩:=zY 5 h
 refine zU (zl (zn (zr ?_)))
 refine zU ?_
 refine zM ⟨[(0,.loc 23 1 0 0),(1,.p (.int .i64 5)),(2,.p (.int .i64 u222)),(3,.p (.int .i64 c224)),(44,.p (.int .i64 (IntKind.i64.wrap (u222+1)))),(45,.p (.int .i64 t246)),(82,.loc 23 1 0 0),(84,.p (.int .i64 6)),(88,.p (.int .i64 (if (IntKind.i64.wrap (t246+1)) > u222 then (IntKind.i64.wrap (t246+1)) else u222))),(91,.p (.int .i64 (IntKind.i64.wrap (c224+m248))))],[(21,.arr 3 1 1 (List.map AV.p (List.map (PV.int .i64) (s241.set 5 t246)))),(23,.arr 218 4 1 [.agg [.p (.slc (List.map (encL (PV.int .i64)) r8)),.own 21 1 0 ((s241.set 5 t246)).length,(if s242=true then .p (.slc (List.map (PV.int .i64) (s243 :: s244))) else .nils),.p (.int .i64 s245)]])]⟩ ?_
 refine AL_inline (avs:=[.loc 23 1 0 0,.p (.int .i64 6),.p (.int .i64 (if (IntKind.i64.wrap (t246+1)) > u222 then (IntKind.i64.wrap (t246+1)) else u222)),.p (.int .i64 (IntKind.i64.wrap (c224+m248)))]) 598 rfl (guard_none rfl) rfl Tryz.func160 rfl Tryz.call160 Tryz.ntmps160 (by simp) (by simp only [go_sem,seval,h247T];all_goals rfl) ?_
 intro i264 w265 h266
 obtain ⟨u267,h268,h⟩:=zB h
 replace h268:=Option.some.inj h268
 obtain ⟨c269,h270,h⟩:=zB h
 replace h270:=Option.some.inj h270
 refine awp_le (st':=⟨[(0,.loc 23 1 0 0),(1,.p (.int .i64 6)),(2,.p (.int .i64 u267)),(3,.p (.int .i64 c269))],[(21,.arr 3 1 1 (List.map AV.p (List.map (PV.int .i64) (s241.set 5 t246)))),(23,.arr 218 4 1 [.agg [.p (.slc (List.map (encL (PV.int .i64)) r8)),.own 21 1 0 ((s241.set 5 t246)).length,(if s242=true then .p (.slc (List.map (PV.int .i64) (s243 :: s244))) else .nils),.p (.int .i64 s245)]])]⟩) (by simp only [go_sem,seval,h247T,←h268,←h270];all_goals ((repeat' refine And.intro ?_ ?_) <;> first | rfl | (simp;done) | (simp;rfl) | (simp [*];done) | (simp [*];rfl))) ?_
 clear h268 h270
 obtain ⟨o271,h272,h⟩:=zB h
 refine zJ (fun (o:(Unit) ⊕ (Unit))=>match o with | .inl o273=>tE ⟨Tryz.prog,94,598,X,[(21,.arr 3 1 1 (List.map AV.p (List.map (PV.int .i64) (s241.set 5 t246)))),(23,.arr 218 4 1 [.agg [.p (.slc (List.map (encL (PV.int .i64)) r8)),.own 21 1 0 ((s241.set 5 t246)).length,(if s242=true then .p (.slc (List.map (PV.int .i64) (s243 :: s244))) else .nils),.p (.int .i64 s245)]])],i264,w265,False,h266⟩ .normal ⟨[(0,.loc 23 1 0 0),(1,.p (.int .i64 6)),(2,.p (.int .i64 u267)),(3,.p (.int .i64 c269))],[(21,.arr 3 1 1 (List.map AV.p (List.map (PV.int .i64) (s241.set 5 t246)))),(23,.arr 218 4 1 [.agg [.p (.slc (List.map (encL (PV.int .i64)) r8)),.own 21 1 0 ((s241.set 5 t246)).length,(if s242=true then .p (.slc (List.map (PV.int .i64) (s243 :: s244))) else .nils),.p (.int .i64 s245)]])]⟩ | .inr o274=>tE ⟨Tryz.prog,94,598,X,[(21,.arr 3 1 1 (List.map AV.p (List.map (PV.int .i64) (s241.set 5 t246)))),(23,.arr 218 4 1 [.agg [.p (.slc (List.map (encL (PV.int .i64)) r8)),.own 21 1 0 ((s241.set 5 t246)).length,(if s242=true then .p (.slc (List.map (PV.int .i64) (s243 :: s244))) else .nils),.p (.int .i64 s245)]])],i264,w265,False,h266⟩ .ret ⟨[],[(21,.arr 3 1 1 (List.map AV.p (List.map (PV.int .i64) (s241.set 5 t246)))),(23,.arr 218 4 1 [.agg [.p (.slc (List.map (encL (PV.int .i64)) r8)),.own 21 1 0 ((s241.set 5 t246)).length,(if s242=true then .p (.slc (List.map (PV.int .i64) (s243 :: s244))) else .nils),.p (.int .i64 s245)]])]⟩) o271 ?_ ?_
 replace h:=h272
 clear h272
 refine zs (zr ?_)
 refine zW 4 ?_
 rcases zI h with ⟨h275,h⟩ | ⟨h275,h⟩
 refine zU ?_
 refine zg ?_
 refine zg ?_
 refine zg ?_
 refine zg ?_
 refine zg ?_
 refine zg ?_
 refine zU (zl (zn ?_))
 rcases zI h with ⟨h276,h⟩ | ⟨h276,h⟩
 refine zi (zq ?_)
 cases h
 exact ⟨rfl,zE⟩
 refine zj (zk ?_)
 cases h
 exact ⟨rfl,zE⟩
 refine zU ?_
 refine zh ?_
 refine zU (zl (zn ?_))
 refine zj (zk ?_)
 cases h
 exact ⟨rfl,zE⟩
 rcases o271 with ⟨⟩ | ⟨⟩
 try simp only at h
 refine zA (zn (zs (zs (zr ?_))))
 refine zU (zl (zn ?_))
 rcases zI h with ⟨h277,h⟩ | ⟨h277,h⟩
 refine zi (zs (zr ?_))
 refine zU ?_
 obtain ⟨h278,h⟩:=ite_some h
 refine zCo cln44 635 (PV.int .i64) (s241.set 5 t246) _ rfl ⟨by unfold maxLen;omega,by omega⟩ ?_
 obtain ⟨x279,h280,h280l,h280L,h⟩:=zY 0 h
 obtain ⟨l281,h282,h⟩:=zB h
 replace h282:=Option.some.inj h282
 replace h282:=cons_of h282 h280
 refine zM ⟨[(3,.p (.int .i64 c269)),(31,.loc 23 1 0 0),(32,.loc 23 1 0 0),(37,.p (.slc (List.map (PV.int .i64) (x279 :: l281))))],[(21,.arr 3 1 1 (List.map AV.p (List.map (PV.int .i64) (s241.set 5 t246)))),(23,.arr 218 4 1 [.agg [.p (.slc (List.map (encL (PV.int .i64)) r8)),.own 21 1 0 ((s241.set 5 t246)).length,(if s242=true then .p (.slc (List.map (PV.int .i64) (s243 :: s244))) else .nils),.p (.int .i64 s245)]])]⟩ ?_
 clear h282
 refine zU (zl (zn (zq (zt ?_))))
 refine inlQ_ret (by simp only [Tryz.results160];simp only [go_sem,seval,h247T,h277];exact rfl) ?_
 refine zl (yn (zn (zr ?_)))
 refine zU (zl ?_)
 cases h
 exact ⟨rfl,zE⟩
 have h277F:=Bool.eq_false_iff.2 h277
 refine zj (zk (zn (zs (zr ?_))))
 refine zU (zl (zn (zb ?_)))
 obtain ⟨o283,h284,h⟩:=zB h
 refine zO (fun (s:Unit)=>⟨[(0,.loc 23 1 0 0),(1,.p (.int .i64 6)),(2,.p (.int .i64 u267)),(3,.p (.int .i64 c269)),(44,.p (.int .i64 (IntKind.i64.wrap (u267+1)))),(45,.p (.int .i64 0))],[(21,.arr 3 1 1 (List.map AV.p (List.map (PV.int .i64) (s241.set 5 t246)))),(23,.arr 218 4 1 [.agg [.p (.slc (List.map (encL (PV.int .i64)) r8)),.own 21 1 0 ((s241.set 5 t246)).length,(if s242=true then .p (.slc (List.map (PV.int .i64) (s243 :: s244))) else .nils),.p (.int .i64 s245)]])]⟩) (fun (o285:Unit)=>tE ⟨Tryz.prog,94,598,X,[(21,.arr 3 1 1 (List.map AV.p (List.map (PV.int .i64) (s241.set 5 t246)))),(23,.arr 218 4 1 [.agg [.p (.slc (List.map (encL (PV.int .i64)) r8)),.own 21 1 0 ((s241.set 5 t246)).length,(if s242=true then .p (.slc (List.map (PV.int .i64) (s243 :: s244))) else .nils),.p (.int .i64 s245)]])],i264,w265,False,h266⟩ (.exit 0) ⟨[],[(21,.arr 3 1 1 (List.map AV.p (List.map (PV.int .i64) (s241.set 5 t246)))),(23,.arr 218 4 1 [.agg [.p (.slc (List.map (encL (PV.int .i64)) r8)),.own 21 1 0 ((s241.set 5 t246)).length,(if s242=true then .p (.slc (List.map (PV.int .i64) (s243 :: s244))) else .nils),.p (.int .i64 s245)]])]⟩) h284 ?_ ?_
 clear h h247 h247T h249 h263 h263l h263L h277 h277F h284
 intro s x h
 simp only [cluster_Optimal_l8] at h
 refine zs (zr ?_)
 refine zU (zl (zn (zs ?_)))
 rcases zI h with ⟨h286,h⟩ | ⟨h286,h⟩
 cases h
 refine zj (zx (ze ?_))
 cases h
 exact ⟨rfl,zE⟩
 cases o283
 try simp only at h
 refine zA (yh ?_)
 refine inlQ_n (by simp only [Tryz.results160];simp only [go_sem,seval,h247T,h277F];exact rfl) ?_
 refine zl (yn (zn (zr ?_)))
 refine zU (zl ?_)
 cases h
 exact ⟨rfl,zE⟩
 try simp only at h
 refine zA (zt ?_)
 refine inlQ_ret (by simp only [Tryz.results160];simp only [go_sem,seval,h247T];exact rfl) ?_
 refine zl (yn (zn (zr ?_)))
 refine zU (zl ?_)
 cases h
 exact ⟨rfl,zE⟩
 have h247T:=eq_false h247
 refine zj (zx (ze ?_))
 cases h
 exact ⟨rfl,zE⟩
 obtain ⟨b287,b288,b289,b290,b291⟩:=o238
 try simp only at h
 refine zA (yh ?_)
 refine inlQ_n (by simp only [Tryz.results160];simp only [go_sem,seval,h202T,h232F];exact rfl) ?_
 obtain ⟨h292,h⟩:=ite_some h
 refine zM ⟨[(0,.loc 23 1 0 0),(1,.p (.int .i64 4)),(2,.p (.int .i64 u177)),(3,.p (.int .i64 c179)),(44,.p (.int .i64 (IntKind.i64.wrap (u177+1)))),(45,.p (.int .i64 t201)),(92,.p (.tup []))],[(21,.arr 3 1 1 (List.map AV.p (List.map (PV.int .i64) b287))),(23,.arr 218 4 1 [.agg [.p (.slc (List.map (encL (PV.int .i64)) r8)),.own 21 1 0 b287.length,(if b288=true then .p (.slc (List.map (PV.int .i64) (b289 :: b290))) else .nils),.p (.int .i64 b291)]])]⟩ ?_
 clear h292
 refine zl (yn (zn (zr ?_)))
 refine zU (zl ?_)
 cases h
 exact ⟨rfl,zE⟩
 try simp only at h
 refine zA (zt ?_)
 refine inlQ_ret (by simp only [Tryz.results160];simp only [go_sem,seval,h202T];exact rfl) ?_
 refine zl (yn (zn (zr ?_)))
 refine zU (zl ?_)
 cases h
 exact ⟨rfl,zE⟩
 have h202T:=eq_false h202
 refine zj (zx (ze ?_))
 cases h
 exact ⟨rfl,zE⟩
 obtain ⟨b293,b294,b295,b296,b297⟩:=o193
 try simp only at h
 refine zA (yh ?_)
 refine inlQ_n (by simp only [Tryz.results160];simp only [go_sem,seval,h157T,h187F];exact rfl) ?_
 obtain ⟨h298,h⟩:=ite_some h
 refine zM ⟨[(0,.loc 23 1 0 0),(1,.p (.int .i64 3)),(2,.p (.int .i64 u132)),(3,.p (.int .i64 c134)),(44,.p (.int .i64 (IntKind.i64.wrap (u132+1)))),(45,.p (.int .i64 t156)),(92,.p (.tup []))],[(21,.arr 3 1 1 (List.map AV.p (List.map (PV.int .i64) b293))),(23,.arr 218 4 1 [.agg [.p (.slc (List.map (encL (PV.int .i64)) r8)),.own 21 1 0 b293.length,(if b294=true then .p (.slc (List.map (PV.int .i64) (b295 :: b296))) else .nils),.p (.int .i64 b297)]])]⟩ ?_
 clear h298
 refine zl (yn (zn (zr ?_)))
 refine zU (zl ?_)
 cases h
 exact ⟨rfl,zE⟩
 try simp only at h
 refine zA (zt ?_)
 refine inlQ_ret (by simp only [Tryz.results160];simp only [go_sem,seval,h157T];exact rfl) ?_
 refine zl (yn (zn (zr ?_)))
 refine zU (zl ?_)
 cases h
 exact ⟨rfl,zE⟩
 have h157T:=eq_false h157
 refine zj (zx (ze ?_))
 cases h
 exact ⟨rfl,zE⟩
 obtain ⟨b299,b300,b301,b302,b303⟩:=o148
 try simp only at h
 refine zA (yh ?_)
 refine inlQ_n (by simp only [Tryz.results160];simp only [go_sem,seval,h112T,h142F];exact rfl) ?_
 obtain ⟨h304,h⟩:=ite_some h
 refine zM ⟨[(0,.loc 23 1 0 0),(1,.p (.int .i64 2)),(2,.p (.int .i64 u87)),(3,.p (.int .i64 c89)),(44,.p (.int .i64 (IntKind.i64.wrap (u87+1)))),(45,.p (.int .i64 t111)),(92,.p (.tup []))],[(21,.arr 3 1 1 (List.map AV.p (List.map (PV.int .i64) b299))),(23,.arr 218 4 1 [.agg [.p (.slc (List.map (encL (PV.int .i64)) r8)),.own 21 1 0 b299.length,(if b300=true then .p (.slc (List.map (PV.int .i64) (b301 :: b302))) else .nils),.p (.int .i64 b303)]])]⟩ ?_
 clear h304
 refine zl (yn (zn (zr ?_)))
 refine zU (zl ?_)
 cases h
 exact ⟨rfl,zE⟩
 try simp only at h
 refine zA (zt ?_)
 refine inlQ_ret (by simp only [Tryz.results160];simp only [go_sem,seval,h112T];exact rfl) ?_
 refine zl (yn (zn (zr ?_)))
 refine zU (zl ?_)
 cases h
 exact ⟨rfl,zE⟩
 have h112T:=eq_false h112
 refine zj (zx (ze ?_))
 cases h
 exact ⟨rfl,zE⟩
 obtain ⟨b305,b306,b307,b308,b309⟩:=o103
 try simp only at h
 refine zA (yh ?_)
 refine inlQ_n (by simp only [Tryz.results160];simp only [go_sem,seval,h67T,h97F];exact rfl) ?_
 obtain ⟨h310,h⟩:=ite_some h
 refine zM ⟨[(0,.loc 23 1 0 0),(1,.p (.int .i64 1)),(2,.p (.int .i64 u44)),(3,.p (.int .i64 0)),(44,.p (.int .i64 (IntKind.i64.wrap (u44+1)))),(45,.p (.int .i64 t66)),(92,.p (.tup []))],[(21,.arr 3 1 1 (List.map AV.p (List.map (PV.int .i64) b305))),(23,.arr 218 4 1 [.agg [.p (.slc (List.map (encL (PV.int .i64)) r8)),.own 21 1 0 b305.length,(if b306=true then .p (.slc (List.map (PV.int .i64) (b307 :: b308))) else .nils),.p (.int .i64 b309)]])]⟩ ?_
 clear h310
 refine zl (yn (zn (zr ?_)))
 refine zU (zl ?_)
 cases h
 exact ⟨rfl,zE⟩
 try simp only at h
 refine zA (zt ?_)
 refine inlQ_ret (by simp only [Tryz.results160];simp only [go_sem,seval,h67T];exact rfl) ?_
 refine zl (yn (zn (zr ?_)))
 refine zU (zl ?_)
 cases h
 exact ⟨rfl,zE⟩
 have h67T:=eq_false h67
 refine zj (zx (ze ?_))
 cases h
 exact ⟨rfl,zE⟩
 obtain ⟨b311,b312,b313,b314,b315⟩:=o58
 try simp only at h
 refine zA (yh ?_)
 refine inlQ_n (by simp only [Tryz.results160];simp only [go_sem,seval,h35T,h52F];exact rfl) ?_
 obtain ⟨h316,h⟩:=ite_some h
 refine zM ⟨[(0,.loc 23 1 0 0),(1,.p (.int .i64 0)),(2,.p (.int .i64 0)),(3,.p (.int .i64 0)),(44,.p (.int .i64 1)),(45,.p (.int .i64 t34)),(92,.p (.tup []))],[(21,.arr 3 1 1 (List.map AV.p (List.map (PV.int .i64) b311))),(23,.arr 218 4 1 [.agg [.p (.slc (List.map (encL (PV.int .i64)) r8)),.own 21 1 0 b311.length,(if b312=true then .p (.slc (List.map (PV.int .i64) (b313 :: b314))) else .nils),.p (.int .i64 b315)]])]⟩ ?_
 clear h316
 refine zl (yn (zn (zr ?_)))
 refine zU (zl ?_)
 cases h
 exact ⟨rfl,zE⟩
 try simp only at h
 refine zA (zt ?_)
 refine inlQ_ret (by simp only [Tryz.results160];simp only [go_sem,seval,h35T];exact rfl) ?_
 refine zl (yn (zn (zr ?_)))
 refine zU (zl ?_)
 cases h
 exact ⟨rfl,zE⟩
 have h35T:=eq_false h35
 refine zj (zx (ze ?_))
 cases h
 exact ⟨rfl,zE⟩
 obtain ⟨b317,b318,b319,b320,b321⟩:=o26
 try simp only at h
 refine zA (yh ?_)
 refine inlQ_n (by simp only [Tryz.results160];simp only [go_sem,seval,h6F,h7T,h20F];exact rfl) ?_
 obtain ⟨h322,h⟩:=ite_some h
 refine zM ⟨[(8,.loc 23 1 0 0),(25,.p (.tup []))],[(21,.arr 3 1 1 (List.map AV.p (List.map (PV.int .i64) b317))),(23,.arr 218 4 1 [.agg [.p (.slc (List.map (encL (PV.int .i64)) r8)),.own 21 1 0 b317.length,(if b318=true then .p (.slc (List.map (PV.int .i64) (b319 :: b320))) else .nils),.p (.int .i64 b321)]])]⟩ ?_
 clear h322
 refine zl ?_
 cases h
 exact ⟨rfl,zE⟩
 obtain ⟨s323,s324,s325,s326,s327⟩:=o12
 try simp only at h
 refine zA (zn (zs (zd ?_)))
 refine yU ?_
 refine yd (zn ?_)
 rcases zI h with ⟨h328,h⟩ | ⟨h328,h⟩
 refine zq ?_
 cases h
 exact zT Tryz.results97
 refine zq ?_
 cases h
 exact zT Tryz.results97
set_option maxHeartbeats 4000000 in
theorem cluster_Pivot_con {D:Prop} (n1:Int) (l2:List Pair) (r3:List Int×Int) (h:cluster_Pivot n1 l2=some r3):Con D Tryz.prog 98 [(.int .i64 n1),(.slc (List.map encPair l2))] (.tup [(.slc (List.map (PV.int .i64) r3.1)),(.int .i64 r3.2)]):=by
 refine zP Tryz.call98 Tryz.func98 rfl Tryz.ntmps98 fun X w hT=>?_
 simp only [cluster_Pivot] at h
 refine zs (zr ?_)
 refine zU (zl (zn (zs (zs (zr ?_)))))
 refine zU ?_
 obtain ⟨r4,h5,h⟩:=zB h
 refine zc (cluster_Valid_con n1 l2 _ h5) ?_
 refine zU (zl (zn (zs (zr ?_))))
 refine zU (zl (zn ?_))
 rcases zI h with ⟨h6,h⟩ | ⟨h6,h⟩
 refine zi (zs (zr ?_))
 refine zU (zl (zn (zq (zt ?_))))
 cases h
 exact zT Tryz.results98
 cases h
set_option maxRecDepth 20000 in
set_option maxHeartbeats 4000000 in
theorem cluster_Normal_con {D:Prop} (l1:List Int) (r2:List Int) (h:cluster_Normal l1=some r2):Con D Tryz.prog 162 [(.slc (List.map (PV.int .i64) l1))] (.slc (List.map (PV.int .i64) r2)):=by
 refine zP Tryz.call162 Tryz.func162 rfl Tryz.ntmps162 fun X w hT=>?_
 simp only [cluster_Normal] at h
 refine zs (zr ?_)
 refine zU (zl (zn (zs (zr ?_))))
 refine zU (zl (zn (zs (zr ?_))))
 obtain ⟨h3,h⟩:=ite_some h
 obtain ⟨h4,h⟩:=ite_some h
 refine zU (zl (zn (zs (zs (zr ?_)))))
 refine zU (zl (zn (zb ?_)))
 obtain ⟨o5,h6,h⟩:=zB h
 refine zO (fun (s:(List (Int×Int))×List Int×Int)=>⟨[(3,.mapo 9 1),(4,.own 12 1 0 s.2.1.length),(13,.p (.slc (List.map (PV.int .i64) l1))),(14,.p (.int .i64 (l1.length:Int))),(15,.p (.int .i64 s.2.2))],[(9,.map 1 (List.map AV.p (encK (PV.int .i64) s.1)) (List.map AV.p (encW (PV.int .i64) s.1))),(12,.arr 3 1 1 (List.map AV.p (List.map (PV.int .i64) s.2.1)))]⟩) (fun (o7:List Int)=>tE (cX Tryz.f162 X w D hT) (.exit 0) ⟨[(4,.own 12 1 0 o7.length)],[(12,.arr 3 1 1 (List.map AV.p (List.map (PV.int .i64) o7)))]⟩) h6 ?_ ?_
 clear h h3 h4 h6
 intro s x h
 obtain ⟨n8,o9,t10⟩:=s
 simp only [cluster_Normal_l1] at h
 dsimp only
 refine zs (zr ?_)
 refine zU (zl (zn (zs ?_)))
 rcases zI h with ⟨h11,h⟩ | ⟨h11,h⟩
 refine zi (zk (zn (zs (zb (zs (zr ?_))))))
 obtain ⟨x12,h13,h13a,h13b,h⟩:=zX h
 refine zU (zl (zn (zs (zr ?_))))
 refine zU (zl (zn (zs (zs (zr ?_)))))
 refine zU (zl (zn ?_))
 rcases zI h with ⟨h14,h⟩ | ⟨h14,h⟩
 refine zj (zk (zn (zr ?_)))
 obtain ⟨x15,h16,h16a,h16b,h⟩:=zX h
 refine zU (zl (yn (zn (zr ?_))))
 refine zU (zl ?_)
 cases h
 exact ⟨rfl,zE⟩
 refine zi (zs (zr ?_))
 refine zU (zl (zn (zr ?_)))
 refine zU (zl (zn (zr ?_)))
 obtain ⟨x17,h18,h18a,h18b,h⟩:=zX h
 refine zU (zl (yn (zn (zr ?_))))
 refine zU (zl ?_)
 cases h
 exact ⟨rfl,zE⟩
 refine zj (zx (ze ?_))
 cases h
 exact ⟨rfl,zE⟩
 try simp only at h
 refine zA (yh (zn (zs (zr ?_))))
 refine zU (zl (zn (zq ?_)))
 cases h
 exact zT Tryz.results162
set_option maxRecDepth 20000 in
set_option maxHeartbeats 4000000 in
theorem linkage_divide_con (c1:List Int) (m2:List (Arr2_int×Bool)) (r3:List (List Int)×Int) (h:linkage_divide c1 m2=some r3):Con False Tryz.prog 55 [(.slc (List.map (PV.int .i64) c1)),(.mapv (encK encArr2_int m2) (encW PV.bool m2))] (.tup [(.slc (List.map (encL (PV.int .i64)) r3.1)),(.int .i64 r3.2)]):=by
 refine zP Tryz.call55 Tryz.func55 rfl Tryz.ntmps55 fun X w hT=>?_
 simp only [linkage_divide] at h
 refine zs (zr ?_)
 refine zU (zl (zn (zs (zr ?_))))
 refine zU (zl (zn (zs (zr ?_))))
 refine zU (zl (zn (zs (zs (zr ?_)))))
 refine zU (zl (zn (zb ?_)))
 obtain ⟨p4,h5,h⟩:=zB h
 refine zO (fun (s:List Pair×Int)=>⟨[(0,.p (.slc (List.map (PV.int .i64) c1))),(1,.p (.mapv (encK encArr2_int m2) (encW PV.bool m2))),(6,.p (.int .i64 (c1.length:Int))),(7,.own 48 1 0 s.1.length),(20,.p (.int .i64 (c1.length:Int))),(21,.p (.int .i64 s.2))],[(48,.arr 126 3 1 (List.map AV.p (List.map encPair s.1)))]⟩) (fun (o6:List Pair)=>tE (cX Tryz.f55 X w False hT) (.exit 0) ⟨[(0,.p (.slc (List.map (PV.int .i64) c1))),(6,.p (.int .i64 (c1.length:Int))),(7,.own 48 1 0 o6.length)],[(48,.arr 126 3 1 (List.map AV.p (List.map encPair o6)))]⟩) h5 ?_ ?_
 clear h h5
 intro s x h
 obtain ⟨p7,t8⟩:=s
 simp only [linkage_divide_l4] at h
 dsimp only
 refine zs (zr ?_)
 refine zU (zl (zn (zs ?_)))
 rcases zI h with ⟨h9,h⟩ | ⟨h9,h⟩
 refine zi (zk (zn (zs (zb (zs (zr ?_))))))
 refine zU (zl (zn (zs (zr ?_))))
 refine zU (zl (zn (zb ?_)))
 obtain ⟨p10,h11,h⟩:=zB h
 refine zO (fun (s:List Pair×Int)=>⟨[(0,.p (.slc (List.map (PV.int .i64) c1))),(1,.p (.mapv (encK encArr2_int m2) (encW PV.bool m2))),(6,.p (.int .i64 (c1.length:Int))),(7,.own 48 1 0 s.1.length),(8,.p (.int .i64 t8)),(9,.p (.int .i64 s.2)),(20,.p (.int .i64 (c1.length:Int))),(21,.p (.int .i64 t8))],[(48,.arr 126 3 1 (List.map AV.p (List.map encPair s.1)))]⟩) (fun (o12:List Pair)=>tE (cX Tryz.f55 X w False hT) (.exit 2) ⟨[(0,.p (.slc (List.map (PV.int .i64) c1))),(1,.p (.mapv (encK encArr2_int m2) (encW PV.bool m2))),(6,.p (.int .i64 (c1.length:Int))),(7,.own 48 1 0 o12.length),(20,.p (.int .i64 (c1.length:Int))),(21,.p (.int .i64 t8))],[(48,.arr 126 3 1 (List.map AV.p (List.map encPair o12)))]⟩) h11 ?_ ?_
 clear h h9 h11
 intro s x h
 obtain ⟨p13,k14⟩:=s
 simp only [linkage_divide_l3] at h
 dsimp only
 refine zs (zs (zr ?_))
 refine zU (zl (zn ?_))
 rcases zI h with ⟨h15,h⟩ | ⟨h15,h⟩
 refine zi (zk (zn (zs (zb (zs (zr ?_))))))
 refine zU (zl (zn (zs (zs (zd ?_)))))
 obtain ⟨x16,h17,h17a,h17b,h⟩:=zX h
 obtain ⟨x18,h19,h19a,h19b,h⟩:=zX h
 refine yU ?_
 refine yd (zn ?_)
 rcases zI h with ⟨h20,h⟩ | ⟨h20,h⟩
 refine zi (zr ?_)
 refine zU (zl (zn (zr ?_)))
 obtain ⟨h21,h⟩:=ite_some h
 refine zU (zl (yn (zn (zr ?_))))
 refine zU (zl ?_)
 cases h
 exact ⟨rfl,zE⟩
 refine zj (zk (zn (zr ?_)))
 obtain ⟨h22,h⟩:=ite_some h
 refine zU (zl (yn (zn (zr ?_))))
 refine zU (zl ?_)
 cases h
 exact ⟨rfl,zE⟩
 refine zj (zx (ze ?_))
 cases h
 exact ⟨rfl,zE⟩
 try simp only at h
 refine zA (yh (yn (zn (zr ?_))))
 refine zU (zl ?_)
 cases h
 exact ⟨rfl,zE⟩
 refine zj (zx (ze ?_))
 cases h
 exact ⟨rfl,zE⟩
 try simp only at h
 refine zA (yh (zn (zs (zr ?_))))
 refine zU (zl (zn (zs (zr ?_))))
 refine zU (zl (zn (zs (zs (zr ?_)))))
 refine zU (zl (zn ?_))
 rcases zI h with ⟨h23,h⟩ | ⟨h23,h⟩
 have h23T:=eq_true h23
 refine zi (zr ?_)
 refine zU ?_
 refine zM ⟨[(0,.p (.slc (List.map (PV.int .i64) c1))),(53,.p (.int .i64 (c1.length:Int))),(54,.p (.slc (List.map encPair p4)))],[]⟩ ?_
 obtain ⟨r24,h25,h⟩:=zB h
 refine zc (cluster_Optimal_con (c1.length:Int) p4 _ h25) ?_
 refine zU (zl (zn (zs (zs (zr ?_)))))
 refine zU (zl (zn ?_))
 rcases zI h with ⟨h26,h⟩ | ⟨h26,h⟩
 refine zi (zs (zr ?_))
 refine zU (zl (zn (zq (zt ?_))))
 cases h
 exact zT Tryz.results55
 have h26F:=Bool.eq_false_iff.2 h26
 refine zj (zk (zn (zs (zr ?_))))
 refine zU ?_
 refine zM ⟨[(0,.p (.slc (List.map (PV.int .i64) c1))),(68,.p (.slc (List.map (PV.int .i64) r24.1)))],[]⟩ ?_
 refine AL_inline (avs:=[.p (.slc (List.map (PV.int .i64) r24.1))]) 93 rfl (guard_none rfl) rfl Tryz.func99 rfl Tryz.call99 Tryz.ntmps99 (by simp) (by simp only [go_sem,seval,h23T,h26F];all_goals rfl) ?_
 intro i27 w28 h29
 show AWp _ _ _ ⟨[(0,.p (.slc (List.map (PV.int .i64) r24.1)))],[]⟩
 refine zs (zr ?_)
 refine zU (zl (zn (zs (zr ?_))))
 refine zU (zl (zn (zs (zs (zr ?_)))))
 refine zU ?_
 obtain ⟨r30,h31,h⟩:=zB h
 refine zc (cluster_Normal_con r24.1 _ h31) ?_
 refine zU (zl (zn (zb ?_)))
 obtain ⟨o32,h33,h⟩:=zB h
 refine zO (fun (s:List (List Int)×Int)=>⟨[(3,.own 113 1 0 s.1.length),(7,.p (.slc (List.map (PV.int .i64) r30))),(8,.p (.int .i64 (r30.length:Int))),(9,.p (.int .i64 s.2))],((113,.arr 23 1 1 (famR 113 3 1 1 (PV.int .i64) s.1)) :: famL 113 3 1 1 (PV.int .i64) s.1 [])⟩) (fun (o34:List (List Int))=>tE ⟨Tryz.prog,33,93,X,[],i27,w28,False,h29⟩ (.exit 0) ⟨[(3,.own 113 1 0 o34.length)],((113,.arr 23 1 1 (famR 113 3 1 1 (PV.int .i64) o34)) :: famL 113 3 1 1 (PV.int .i64) o34 [])⟩) h33 ?_ ?_
 clear h h5 h23 h23T h25 h26 h26F h31 h33
 intro s x h
 obtain ⟨o35,t36⟩:=s
 simp only [linkage_divide_l6] at h
 dsimp only
 refine zs (zr ?_)
 refine zU (zl (zn (zs ?_)))
 rcases zI h with ⟨h37,h⟩ | ⟨h37,h⟩
 refine zi (zk (zn (zs (zb (zs (zr ?_))))))
 obtain ⟨x38,h39,h39a,h39b,h⟩:=zX h
 refine zU (zl (zn (zs (zs (zr ?_)))))
 refine zU (zl (zn ?_))
 rcases zI h with ⟨h40,h⟩ | ⟨h40,h⟩
 refine zi (zr ?_)
 obtain ⟨h41,h⟩:=ite_some h
 refine zW 3 ?_
 refine zM ⟨[(4,.p (.int .i64 t36)),(5,.p (.int .i64 x38)),(7,.p (.slc (List.map (PV.int .i64) r30))),(8,.p (.int .i64 (r30.length:Int))),(9,.p (.int .i64 t36)),(20,.own 113 1 0 (o35.length+1))],((113,.arr 23 1 1 (famR 113 3 1 1 (PV.int .i64) (o35++[[]]))) :: famL 113 3 1 1 (PV.int .i64) (o35++[[]]) [])⟩ ?_
 refine zU (zl (zn (zr ?_)))
 obtain ⟨x42,h43,h43a,h43b,h⟩:=zX h
 have hx_7556C:=h43b
 simp only [List.length_append,List.length_set,List.length_cons,List.length_nil,Nat.zero_add] at hx_7556C
 obtain ⟨h44,h⟩:=ite_some h
 refine zW 11 ?_
 refine zM ⟨[(3,.own 113 1 0 (((o35++[[]]).set x38.toNat (x42++[t36]))).length),(7,.p (.slc (List.map (PV.int .i64) r30))),(8,.p (.int .i64 (r30.length:Int))),(9,.p (.int .i64 t36))],((113,.arr 23 1 1 (famR 113 3 1 1 (PV.int .i64) ((o35++[[]]).set x38.toNat (x42++[t36])))) :: famL 113 3 1 1 (PV.int .i64) ((o35++[[]]).set x38.toNat (x42++[t36])) [])⟩ ?_
 refine zl (yn (zn (zr ?_)))
 refine zU (zl ?_)
 cases h
 exact ⟨rfl,zE⟩
 refine zj (zk (zn (zr ?_)))
 obtain ⟨x45,h46,h46a,h46b,h⟩:=zX h
 obtain ⟨h47,h⟩:=ite_some h
 refine zW 11 ?_
 refine zM ⟨[(3,.own 113 1 0 ((o35.set x38.toNat (x45++[t36]))).length),(7,.p (.slc (List.map (PV.int .i64) r30))),(8,.p (.int .i64 (r30.length:Int))),(9,.p (.int .i64 t36))],((113,.arr 23 1 1 (famR 113 3 1 1 (PV.int .i64) (o35.set x38.toNat (x45++[t36])))) :: famL 113 3 1 1 (PV.int .i64) (o35.set x38.toNat (x45++[t36])) [])⟩ ?_
 refine zl (yn (zn (zr ?_)))
 refine zU (zl ?_)
 cases h
 exact ⟨rfl,zE⟩
 refine zj (zx (ze ?_))
 cases h
 exact ⟨rfl,zE⟩
 try simp only at h
 refine zA (yh (zn (zs (zr ?_))))
 refine zU (zl (zn (zq ?_)))
 refine inlQ_ret (by simp only [Tryz.results99];simp only [go_sem,seval,h23T,h26F];exact rfl) ?_
 refine zU (zl (zn (zs (zs (zr ?_)))))
 refine zU (zl (zn (zb ?_)))
 obtain ⟨g48,h49,h⟩:=zB h
 refine zO (fun (s:List (List Int)×Int)=>⟨[(0,.p (.slc (List.map (PV.int .i64) c1))),(13,.own 113 1 0 s.1.length),(70,.own 113 1 0 s.1.length),(71,.p (.int .i64 ((o32.length:Nat):Int))),(72,.p (.int .i64 s.2))],((113,.arr 23 1 1 (famR 113 3 1 1 (PV.int .i64) s.1)) :: famL 113 3 1 1 (PV.int .i64) s.1 [])⟩) (fun (o50:List (List Int))=>tE (cX Tryz.f55 X w False hT) (.exit 4) ⟨[(13,.own 113 1 0 o50.length)],((113,.arr 23 1 1 (famR 113 3 1 1 (PV.int .i64) o50)) :: famL 113 3 1 1 (PV.int .i64) o50 [])⟩) h49 ?_ ?_
 clear h h5 h23 h23T h25 h26 h26F h31 h33 h49
 intro s x h
 obtain ⟨g51,t52⟩:=s
 simp only [linkage_divide_l10] at h
 dsimp only
 refine zs (zr ?_)
 refine zU (zl (zn (zs ?_)))
 rcases zI h with ⟨h53,h⟩ | ⟨h53,h⟩
 refine zi (zk (zn (zs (zb (zs (zr ?_))))))
 obtain ⟨x54,h55,h55a,h55b,h⟩:=zX h
 refine zU (zl (zn (zs (zr ?_))))
 refine zU (zl (zn (zb ?_)))
 obtain ⟨g56,h57,h⟩:=zB h
 refine zO (fun (s:List (List Int)×Int)=>⟨[(0,.p (.slc (List.map (PV.int .i64) c1))),(13,.own 113 1 0 s.1.length),(15,.own (fx 113 t52.toNat) 1 0 x54.length),(70,.own 113 1 0 s.1.length),(71,.p (.int .i64 ((o32.length:Nat):Int))),(72,.p (.int .i64 t52)),(76,.own (fx 113 t52.toNat) 1 0 x54.length),(77,.p (.int .i64 ((x54.length:Nat):Int))),(78,.p (.int .i64 s.2))],((113,.arr 23 1 1 (famR 113 3 1 1 (PV.int .i64) s.1)) :: famL 113 3 1 1 (PV.int .i64) s.1 [])⟩) (fun (o58:List (List Int))=>tE (cX Tryz.f55 X w False hT) (.exit 6) ⟨[(0,.p (.slc (List.map (PV.int .i64) c1))),(13,.own 113 1 0 o58.length),(70,.own 113 1 0 o58.length),(71,.p (.int .i64 ((o32.length:Nat):Int))),(72,.p (.int .i64 t52))],((113,.arr 23 1 1 (famR 113 3 1 1 (PV.int .i64) o58)) :: famL 113 3 1 1 (PV.int .i64) o58 [])⟩) h57 ?_ ?_
 clear h h53 h55 h55a h55b h57
 intro s x h
 obtain ⟨g59,t60⟩:=s
 simp only [linkage_divide_l9] at h
 dsimp only
 refine zs (zr ?_)
 refine zU (zl (zn (zs ?_)))
 rcases zI h with ⟨h61,h⟩ | ⟨h61,h⟩
 refine zi (zk (zn (zs (zb (zs (zr ?_))))))
 obtain ⟨x62,h63,h63a,h63b,h⟩:=zX h
 obtain ⟨x64,h65,h65a,h65b,h⟩:=zX h
 obtain ⟨h66,h⟩:=ite_some h
 refine zU (zl (zn (zr ?_)))
 obtain ⟨x67,h68,h68a,h68b,h⟩:=zX h
 refine zW 8 ?_
 refine zM ⟨[(0,.p (.slc (List.map (PV.int .i64) c1))),(13,.own 113 1 0 ((g59.set t52.toNat (x62.set t60.toNat x67))).length),(15,.own (fx 113 t52.toNat) 1 0 x54.length),(70,.own 113 1 0 ((g59.set t52.toNat (x62.set t60.toNat x67))).length),(71,.p (.int .i64 ((o32.length:Nat):Int))),(72,.p (.int .i64 t52)),(76,.own (fx 113 t52.toNat) 1 0 x54.length),(77,.p (.int .i64 ((x54.length:Nat):Int))),(78,.p (.int .i64 t60))],((113,.arr 23 1 1 (famR 113 3 1 1 (PV.int .i64) (g59.set t52.toNat (x62.set t60.toNat x67)))) :: famL 113 3 1 1 (PV.int .i64) (g59.set t52.toNat (x62.set t60.toNat x67)) [])⟩ ?_
 refine zl (yn (zn (zr ?_)))
 refine zU (zl ?_)
 cases h
 exact ⟨rfl,zE⟩
 refine zj (zx (ze ?_))
 cases h
 exact ⟨rfl,zE⟩
 try simp only at h
 refine zA (yh (yn (zn (zr ?_))))
 refine zU (zl ?_)
 cases h
 exact ⟨rfl,zE⟩
 refine zj (zx (ze ?_))
 cases h
 exact ⟨rfl,zE⟩
 try simp only at h
 refine zA (yh (zn (zs (zr ?_))))
 refine zU (zl (zn (zq ?_)))
 cases h
 exact zT Tryz.results55
 have h23T:=eq_false h23
 refine zj (zr ?_)
 refine zU ?_
 refine zM ⟨[(0,.p (.slc (List.map (PV.int .i64) c1))),(60,.p (.int .i64 (c1.length:Int))),(61,.p (.slc (List.map encPair p4)))],[]⟩ ?_
 obtain ⟨r69,h70,h⟩:=zB h
 refine zc (cluster_Pivot_con (c1.length:Int) p4 _ h70) ?_
 refine zU (zl (zn (zs (zs (zr ?_)))))
 refine zU (zl (zn ?_))
 rcases zI h with ⟨h71,h⟩ | ⟨h71,h⟩
 refine zi (zs (zr ?_))
 refine zU (zl (zn (zq (zt ?_))))
 cases h
 exact zT Tryz.results55
 have h71F:=Bool.eq_false_iff.2 h71
 refine zj (zk (zn (zs (zr ?_))))
 refine zU ?_
 refine zM ⟨[(0,.p (.slc (List.map (PV.int .i64) c1))),(68,.p (.slc (List.map (PV.int .i64) r69.1)))],[]⟩ ?_
 refine AL_inline (avs:=[.p (.slc (List.map (PV.int .i64) r69.1))]) 126 rfl (guard_none rfl) rfl Tryz.func99 rfl Tryz.call99 Tryz.ntmps99 (by simp) (by simp only [go_sem,seval,h23T,h71F];all_goals rfl) ?_
 intro i72 w73 h74
 show AWp _ _ _ ⟨[(0,.p (.slc (List.map (PV.int .i64) r69.1)))],[]⟩
 refine zs (zr ?_)
 refine zU (zl (zn (zs (zr ?_))))
 refine zU (zl (zn (zs (zs (zr ?_)))))
 refine zU ?_
 obtain ⟨r75,h76,h⟩:=zB h
 refine zc (cluster_Normal_con r69.1 _ h76) ?_
 refine zU (zl (zn (zb ?_)))
 obtain ⟨o77,h78,h⟩:=zB h
 refine zO (fun (s:List (List Int)×Int)=>⟨[(3,.own 146 1 0 s.1.length),(7,.p (.slc (List.map (PV.int .i64) r75))),(8,.p (.int .i64 (r75.length:Int))),(9,.p (.int .i64 s.2))],((146,.arr 23 1 1 (famR 146 3 1 1 (PV.int .i64) s.1)) :: famL 146 3 1 1 (PV.int .i64) s.1 [])⟩) (fun (o79:List (List Int))=>tE ⟨Tryz.prog,33,126,X,[],i72,w73,False,h74⟩ (.exit 0) ⟨[(3,.own 146 1 0 o79.length)],((146,.arr 23 1 1 (famR 146 3 1 1 (PV.int .i64) o79)) :: famL 146 3 1 1 (PV.int .i64) o79 [])⟩) h78 ?_ ?_
 clear h h5 h23 h23T h70 h71 h71F h76 h78
 intro s x h
 obtain ⟨o80,t81⟩:=s
 simp only [linkage_divide_l12] at h
 dsimp only
 refine zs (zr ?_)
 refine zU (zl (zn (zs ?_)))
 rcases zI h with ⟨h82,h⟩ | ⟨h82,h⟩
 refine zi (zk (zn (zs (zb (zs (zr ?_))))))
 obtain ⟨x83,h84,h84a,h84b,h⟩:=zX h
 refine zU (zl (zn (zs (zs (zr ?_)))))
 refine zU (zl (zn ?_))
 rcases zI h with ⟨h85,h⟩ | ⟨h85,h⟩
 refine zi (zr ?_)
 obtain ⟨h86,h⟩:=ite_some h
 refine zW 3 ?_
 refine zM ⟨[(4,.p (.int .i64 t81)),(5,.p (.int .i64 x83)),(7,.p (.slc (List.map (PV.int .i64) r75))),(8,.p (.int .i64 (r75.length:Int))),(9,.p (.int .i64 t81)),(20,.own 146 1 0 (o80.length+1))],((146,.arr 23 1 1 (famR 146 3 1 1 (PV.int .i64) (o80++[[]]))) :: famL 146 3 1 1 (PV.int .i64) (o80++[[]]) [])⟩ ?_
 refine zU (zl (zn (zr ?_)))
 obtain ⟨x87,h88,h88a,h88b,h⟩:=zX h
 have hx_7831C:=h88b
 simp only [List.length_append,List.length_set,List.length_cons,List.length_nil,Nat.zero_add] at hx_7831C
 obtain ⟨h89,h⟩:=ite_some h
 refine zW 11 ?_
 refine zM ⟨[(3,.own 146 1 0 (((o80++[[]]).set x83.toNat (x87++[t81]))).length),(7,.p (.slc (List.map (PV.int .i64) r75))),(8,.p (.int .i64 (r75.length:Int))),(9,.p (.int .i64 t81))],((146,.arr 23 1 1 (famR 146 3 1 1 (PV.int .i64) ((o80++[[]]).set x83.toNat (x87++[t81])))) :: famL 146 3 1 1 (PV.int .i64) ((o80++[[]]).set x83.toNat (x87++[t81])) [])⟩ ?_
 refine zl (yn (zn (zr ?_)))
 refine zU (zl ?_)
 cases h
 exact ⟨rfl,zE⟩
 refine zj (zk (zn (zr ?_)))
 obtain ⟨x90,h91,h91a,h91b,h⟩:=zX h
 obtain ⟨h92,h⟩:=ite_some h
 refine zW 11 ?_
 refine zM ⟨[(3,.own 146 1 0 ((o80.set x83.toNat (x90++[t81]))).length),(7,.p (.slc (List.map (PV.int .i64) r75))),(8,.p (.int .i64 (r75.length:Int))),(9,.p (.int .i64 t81))],((146,.arr 23 1 1 (famR 146 3 1 1 (PV.int .i64) (o80.set x83.toNat (x90++[t81])))) :: famL 146 3 1 1 (PV.int .i64) (o80.set x83.toNat (x90++[t81])) [])⟩ ?_
 refine zl (yn (zn (zr ?_)))
 refine zU (zl ?_)
 cases h
 exact ⟨rfl,zE⟩
 refine zj (zx (ze ?_))
 cases h
 exact ⟨rfl,zE⟩
 try simp only at h
 refine zA (yh (zn (zs (zr ?_))))
 refine zU (zl (zn (zq ?_)))
 refine inlQ_ret (by simp only [Tryz.results99];simp only [go_sem,seval,h23T,h71F];exact rfl) ?_
 refine zU (zl (zn (zs (zs (zr ?_)))))
 refine zU (zl (zn (zb ?_)))
 obtain ⟨g93,h94,h⟩:=zB h
 refine zO (fun (s:List (List Int)×Int)=>⟨[(0,.p (.slc (List.map (PV.int .i64) c1))),(13,.own 146 1 0 s.1.length),(70,.own 146 1 0 s.1.length),(71,.p (.int .i64 ((o77.length:Nat):Int))),(72,.p (.int .i64 s.2))],((146,.arr 23 1 1 (famR 146 3 1 1 (PV.int .i64) s.1)) :: famL 146 3 1 1 (PV.int .i64) s.1 [])⟩) (fun (o95:List (List Int))=>tE (cX Tryz.f55 X w False hT) (.exit 4) ⟨[(13,.own 146 1 0 o95.length)],((146,.arr 23 1 1 (famR 146 3 1 1 (PV.int .i64) o95)) :: famL 146 3 1 1 (PV.int .i64) o95 [])⟩) h94 ?_ ?_
 clear h h5 h23 h23T h70 h71 h71F h76 h78 h94
 intro s x h
 obtain ⟨g96,t97⟩:=s
 simp only [linkage_divide_l16] at h
 dsimp only
 refine zs (zr ?_)
 refine zU (zl (zn (zs ?_)))
 rcases zI h with ⟨h98,h⟩ | ⟨h98,h⟩
 refine zi (zk (zn (zs (zb (zs (zr ?_))))))
 obtain ⟨x99,h100,h100a,h100b,h⟩:=zX h
 refine zU (zl (zn (zs (zr ?_))))
 refine zU (zl (zn (zb ?_)))
 obtain ⟨g101,h102,h⟩:=zB h
 refine zO (fun (s:List (List Int)×Int)=>⟨[(0,.p (.slc (List.map (PV.int .i64) c1))),(13,.own 146 1 0 s.1.length),(15,.own (fx 146 t97.toNat) 1 0 x99.length),(70,.own 146 1 0 s.1.length),(71,.p (.int .i64 ((o77.length:Nat):Int))),(72,.p (.int .i64 t97)),(76,.own (fx 146 t97.toNat) 1 0 x99.length),(77,.p (.int .i64 ((x99.length:Nat):Int))),(78,.p (.int .i64 s.2))],((146,.arr 23 1 1 (famR 146 3 1 1 (PV.int .i64) s.1)) :: famL 146 3 1 1 (PV.int .i64) s.1 [])⟩) (fun (o103:List (List Int))=>tE (cX Tryz.f55 X w False hT) (.exit 6) ⟨[(0,.p (.slc (List.map (PV.int .i64) c1))),(13,.own 146 1 0 o103.length),(70,.own 146 1 0 o103.length),(71,.p (.int .i64 ((o77.length:Nat):Int))),(72,.p (.int .i64 t97))],((146,.arr 23 1 1 (famR 146 3 1 1 (PV.int .i64) o103)) :: famL 146 3 1 1 (PV.int .i64) o103 [])⟩) h102 ?_ ?_
 clear h h98 h100 h100a h100b h102
 intro s x h
 obtain ⟨g104,t105⟩:=s
 simp only [linkage_divide_l15] at h
 dsimp only
 refine zs (zr ?_)
 refine zU (zl (zn (zs ?_)))
 rcases zI h with ⟨h106,h⟩ | ⟨h106,h⟩
 refine zi (zk (zn (zs (zb (zs (zr ?_))))))
 obtain ⟨x107,h108,h108a,h108b,h⟩:=zX h
 obtain ⟨x109,h110,h110a,h110b,h⟩:=zX h
 obtain ⟨h111,h⟩:=ite_some h
 refine zU (zl (zn (zr ?_)))
 obtain ⟨x112,h113,h113a,h113b,h⟩:=zX h
 refine zW 8 ?_
 refine zM ⟨[(0,.p (.slc (List.map (PV.int .i64) c1))),(13,.own 146 1 0 ((g104.set t97.toNat (x107.set t105.toNat x112))).length),(15,.own (fx 146 t97.toNat) 1 0 x99.length),(70,.own 146 1 0 ((g104.set t97.toNat (x107.set t105.toNat x112))).length),(71,.p (.int .i64 ((o77.length:Nat):Int))),(72,.p (.int .i64 t97)),(76,.own (fx 146 t97.toNat) 1 0 x99.length),(77,.p (.int .i64 ((x99.length:Nat):Int))),(78,.p (.int .i64 t105))],((146,.arr 23 1 1 (famR 146 3 1 1 (PV.int .i64) (g104.set t97.toNat (x107.set t105.toNat x112)))) :: famL 146 3 1 1 (PV.int .i64) (g104.set t97.toNat (x107.set t105.toNat x112)) [])⟩ ?_
 refine zl (yn (zn (zr ?_)))
 refine zU (zl ?_)
 cases h
 exact ⟨rfl,zE⟩
 refine zj (zx (ze ?_))
 cases h
 exact ⟨rfl,zE⟩
 try simp only at h
 refine zA (yh (yn (zn (zr ?_))))
 refine zU (zl ?_)
 cases h
 exact ⟨rfl,zE⟩
 refine zj (zx (ze ?_))
 cases h
 exact ⟨rfl,zE⟩
 try simp only at h
 refine zA (yh (zn (zs (zr ?_))))
 refine zU (zl (zn (zq ?_)))
 cases h
 exact zT Tryz.results55
set_option maxHeartbeats 4000000 in
theorem cmp_isNaN_int64_con {D:Prop} (x1:Int) (r2:Bool) (h:cmp_isNaN_int64 x1=some r2):Con D Tryz.prog 171 [(.int .i64 x1)] (.bool r2):=by
 refine zP Tryz.call171 Tryz.func171 rfl Tryz.ntmps171 fun X w hT=>?_
 simp only [cmp_isNaN_int64] at h
 refine zs (zr ?_)
 refine zU (zl (zn (zs (zr ?_))))
 refine zU (zl (zn (zq ?_)))
 cases h
 exact zT Tryz.results171
set_option maxHeartbeats 4000000 in
theorem cmp_Compare_int64_con {D:Prop} (x1:Int) (y2:Int) (r3:Int) (h:cmp_Compare_int64 x1 y2=some r3):Con D Tryz.prog 101 [(.int .i64 x1),(.int .i64 y2)] (.int .i64 r3):=by
 refine zP Tryz.call101 Tryz.func101 rfl Tryz.ntmps101 fun X w hT=>?_
 simp only [cmp_Compare_int64] at h
 refine zs (zr ?_)
 refine zU (zl (zn (zs (zr ?_))))
 refine zU ?_
 obtain ⟨r4,h5,h⟩:=zB h
 refine zc (cmp_isNaN_int64_con x1 _ h5) ?_
 refine zU (zl (zn (zs (zr ?_))))
 refine zU ?_
 obtain ⟨r6,h7,h⟩:=zB h
 refine zc (cmp_isNaN_int64_con y2 _ h7) ?_
 refine zU (zl (zn (zs (zs (zr ?_)))))
 refine zU (zl (zn ?_))
 rcases zI h with ⟨h8,h⟩ | ⟨h8,h⟩
 refine zi (zs (zs (zr ?_)))
 refine zU (zl (zn ?_))
 rcases zI h with ⟨h9,h⟩ | ⟨h9,h⟩
 refine zi (zs (zr ?_))
 refine zU (zl (zn (zq (zt (zt ?_)))))
 cases h
 exact zT Tryz.results101
 refine zj (zk (zn (zs (zr ?_))))
 refine zU (zl (zn (zq (zt ?_))))
 cases h
 exact zT Tryz.results101
 refine zj (zk (zn (zs (zs (zr ?_)))))
 refine zU (zl (zn ?_))
 rcases zI h with ⟨h10,h⟩ | ⟨h10,h⟩
 refine zi (zs (zr ?_))
 refine zU (zl (zn (zq (zt ?_))))
 cases h
 exact zT Tryz.results101
 refine zj (zk (zn (zs (zs (zr ?_)))))
 refine zU (zl (zn ?_))
 rcases zI h with ⟨h11,h⟩ | ⟨h11,h⟩
 refine zi (zs (zr ?_))
 refine zU (zl (zn (zq (zt ?_))))
 cases h
 exact zT Tryz.results101
 refine zj (zk (zn (zs (zs (zr ?_)))))
 refine zU (zl (zn ?_))
 rcases zI h with ⟨h12,h⟩ | ⟨h12,h⟩
 refine zi (zs (zr ?_))
 refine zU (zl (zn (zq (zt ?_))))
 cases h
 exact zT Tryz.results101
 refine zj (zk (zn (zs (zr ?_))))
 refine zU (zl (zn (zq ?_)))
 cases h
 exact zT Tryz.results101
set_option maxHeartbeats 4000000 in
theorem slices_Compare_int64_con {D:Prop} (s1:List Int) (s2:List Int) (r3:Int) (h:slices_Compare_int64 s1 s2=some r3):Con D Tryz.prog 57 [(.slc (List.map (PV.int .i64) s1)),(.slc (List.map (PV.int .i64) s2))] (.int .i64 r3):=by
 refine zP Tryz.call57 Tryz.func57 rfl Tryz.ntmps57 fun X w hT=>?_
 simp only [slices_Compare_int64] at h
 refine zs (zr ?_)
 refine zU (zl (zn (zs (zs (zr ?_)))))
 refine zU (zl (zn (zb ?_)))
 obtain ⟨o4,h5,h⟩:=zB h
 refine zO (fun (s:Int)=>⟨[(0,.p (.slc (List.map (PV.int .i64) s1))),(1,.p (.slc (List.map (PV.int .i64) s2))),(9,.p (.slc (List.map (PV.int .i64) s1))),(10,.p (.int .i64 (s1.length:Int))),(11,.p (.int .i64 s))],[]⟩) (fun (o:(Unit) ⊕ (Int))=>match o with | .inl o6=>tE (cX Tryz.f57 X w D hT) (.exit 0) ⟨[(0,.p (.slc (List.map (PV.int .i64) s1))),(1,.p (.slc (List.map (PV.int .i64) s2)))],[]⟩ | .inr o7=>tR Tryz.prog Tryz.f57 (.int .i64 o7)) h5 ?_ ?_
 clear h h5
 intro t8 x h
 simp only [slices_Compare_int64_l1] at h
 refine zs (zr ?_)
 refine zU (zl (zn (zs ?_)))
 rcases zI h with ⟨h9,h⟩ | ⟨h9,h⟩
 refine zi (zk (zn (zs (zb (zs (zr ?_))))))
 obtain ⟨x10,h11,h11a,h11b,h⟩:=zX h
 refine zU (zl (zn (zs (zs (zr ?_)))))
 refine zU (zl (zn ?_))
 rcases zI h with ⟨h12,h⟩ | ⟨h12,h⟩
 refine zi (zs (zr ?_))
 refine zU (zl (zn (zq (zt (yr (zt ?_))))))
 cases h
 exact ⟨rfl,zT Tryz.results57⟩
 refine zj (zk (zn (zs (zr ?_))))
 obtain ⟨x13,h14,h14a,h14b,h⟩:=zX h
 refine zU (zl (zn (zs (zr ?_))))
 refine zU ?_
 obtain ⟨r15,h16,h⟩:=zB h
 refine zc (cmp_Compare_int64_con x10 x13 _ h16) ?_
 refine zU (zl (zn (zs (zr ?_))))
 refine zU (zl (zn ?_))
 rcases zI h with ⟨h17,h⟩ | ⟨h17,h⟩
 refine zi (zs (zr ?_))
 refine zU (zl (zn (zq (yr (zt ?_)))))
 cases h
 exact ⟨rfl,zT Tryz.results57⟩
 refine zj (zk (yn (zn (zr ?_))))
 refine zU (zl ?_)
 cases h
 exact ⟨rfl,zE⟩
 refine zj (zx (ze ?_))
 cases h
 exact ⟨rfl,zE⟩
 rcases o4 with ⟨⟩ | r18
 try simp only at h
 refine zA (yh (zn (zs (zs (zr ?_)))))
 refine zU (zl (zn ?_))
 rcases zI h with ⟨h19,h⟩ | ⟨h19,h⟩
 refine zi (zs (zr ?_))
 refine zU (zl (zn (zq (zt ?_))))
 cases h
 exact zT Tryz.results57
 refine zj (zk (zn (zs (zr ?_))))
 refine zU (zl (zn (zq ?_)))
 cases h
 exact zT Tryz.results57
 try simp only at h
 refine zZ fun s hq=>?_
 refine yr (zt ?_)
 cases h
 exact hq
set_option maxRecDepth 20000 in
set_option maxHeartbeats 4000000 in
theorem linkage_Clusters_con (t1:Table) (l2:Linkage) (r3:List (List Int)×Int) (h:linkage_Clusters t1 l2=some r3):Con False Tryz.prog 20 [(encTable t1),(encLinkage l2)] (.tup [(.slc (List.map (encL (PV.int .i64)) r3.1)),(.int .i64 r3.2)]):=by
 refine zP Tryz.call20 Tryz.func20 rfl Tryz.ntmps20 fun X w hT=>?_
 simp only [linkage_Clusters] at h
 refine zs (zr ?_)
 refine zU (zl (zn (zs (zs (zr ?_)))))
 refine zU ?_
 obtain ⟨r4,h5,h⟩:=zB h
 refine zc (linkage_limits_con t1 l2 _ h5) ?_
 refine zU (zl (zn (zs (zr ?_))))
 refine zU (zl (zn ?_))
 rcases zI h with ⟨h6,h⟩ | ⟨h6,h⟩
 refine zi (zs (zr ?_))
 refine zU (zl (zn (zq (zt ?_))))
 cases h
 exact zT Tryz.results20
 refine zj (zk (zn (zs (zr ?_))))
 refine zU ?_
 obtain ⟨r7,h8,h⟩:=zB h
 refine zc (linkage_matches_con t1 l2 _ h8) ?_
 refine zU (zl (zn (zs (zr ?_))))
 refine zU (zl (zn (zs (zs (zr ?_)))))
 refine zU (zl (zn (zb ?_)))
 obtain ⟨m9,h10,h⟩:=zB h
 refine zO (fun (s:(List (Arr2_int×Bool))×Int)=>⟨[(2,.loc 2 1 0 0),(7,.p (.slc (List.map encArr2_int r7))),(8,.mapo 32 1),(33,.p (.slc (List.map encArr2_int r7))),(34,.p (.int .i64 (r7.length:Int))),(35,.p (.int .i64 s.2))],[(2,.arr 41 3 1 [.p (encTable t1)]),(32,.map 1 (List.map AV.p (encK encArr2_int s.1)) (List.map AV.p (encW PV.bool s.1)))]⟩) (fun (o11:(List (Arr2_int×Bool)))=>tE (cX Tryz.f20 X w False hT) (.exit 0) ⟨[(2,.loc 2 1 0 0),(7,.p (.slc (List.map encArr2_int r7))),(8,.mapo 32 1)],[(2,.arr 41 3 1 [.p (encTable t1)]),(32,.map 1 (List.map AV.p (encK encArr2_int o11)) (List.map AV.p (encW PV.bool o11)))]⟩) h10 ?_ ?_
 clear h h5 h6 h8 h10
 intro s x h
 obtain ⟨m12,t13⟩:=s
 simp only [linkage_Clusters_l1] at h
 dsimp only
 refine zs (zr ?_)
 refine zU (zl (zn (zs ?_)))
 rcases zI h with ⟨h14,h⟩ | ⟨h14,h⟩
 have h14T:=eq_true h14
 refine zi (zk (zn (zs (zb (zs (zr ?_))))))
 obtain ⟨x15,h16,h16a,h16b,h⟩:=zX h
 refine zU (zl (zn (zr ?_)))
 refine zW 2 ?_
 obtain ⟨k17,h18,h⟩:=zB h
 replace h18:=Option.some.inj h18
 obtain ⟨k19,h20,h⟩:=zB h
 replace h20:=Option.some.inj h20
 refine AL_le (st':=⟨[(2,.loc 2 1 0 0),(7,.p (.slc (List.map encArr2_int r7))),(8,.mapo 32 1),(33,.p (.slc (List.map encArr2_int r7))),(34,.p (.int .i64 (r7.length:Int))),(35,.p (.int .i64 t13)),(39,.mapo 32 1),(40,.p (.agg [.int .i64 k17,.int .i64 k19]))],[(2,.arr 41 3 1 [.p (encTable t1)]),(32,.map 1 (List.map AV.p (encK encArr2_int m12)) (List.map AV.p (encW PV.bool m12)))]⟩) (by simp only [go_sem,seval,h14T,←h18,←h20];all_goals ((repeat' refine And.intro ?_ ?_) <;> first | rfl | (simp;done) | (simp;rfl) | (simp [*];done) | (simp [*];rfl))) ?_
 clear h18 h20
 refine zU (zl (yn (zn (zr ?_))))
 refine zU (zl ?_)
 cases h
 exact ⟨rfl,zE⟩
 have h14T:=eq_false h14
 refine zj (zx (ze ?_))
 cases h
 exact ⟨rfl,zE⟩
 try simp only at h
 refine zA (yh (zn (zs (zr ?_))))
 refine zU ?_
 obtain ⟨r21,h22,h⟩:=zB h
 refine zc (graph_Components_con (t1.Rows.length:Int) r7 _ h22) ?_
 refine zU (zl (zn (zs (zs (zr ?_)))))
 refine zU (zl (zn ?_))
 rcases zI h with ⟨h23,h⟩ | ⟨h23,h⟩
 refine zi (zs (zr ?_))
 refine zU (zl (zn (zq (zt ?_))))
 cases h
 exact zT Tryz.results20
 refine zj (zk (zn (zs (zr ?_))))
 refine zU (zl (zn (zs (zs (zr ?_)))))
 refine zU (zl (zn (zb ?_)))
 obtain ⟨o24,h25,h⟩:=zB h
 refine zO (fun (s:List (List Int)×Int)=>⟨[(2,.loc 2 1 0 0),(8,.p (.mapv (encK encArr2_int m9) (encW PV.bool m9))),(13,.own 93 1 0 s.1.length),(53,.p (.slc (List.map (encL (PV.int .i64)) r21.1))),(54,.p (.int .i64 (r21.1.length:Int))),(55,.p (.int .i64 s.2))],[(2,.arr 41 3 1 [.p (encTable t1)]),(93,.arr 63 1 1 (List.map AV.p (List.map (encL (PV.int .i64)) s.1)))]⟩) (fun (o:(List (List Int)) ⊕ (List (List Int)×Int))=>match o with | .inl o26=>tE (cX Tryz.f20 X w False hT) (.exit 2) ⟨[(13,.own 93 1 0 o26.length)],[(93,.arr 63 1 1 (List.map AV.p (List.map (encL (PV.int .i64)) o26)))]⟩ | .inr o27=>tR Tryz.prog Tryz.f20 (.tup [(.slc (List.map (encL (PV.int .i64)) o27.1)),(.int .i64 o27.2)])) h25 ?_ ?_
 clear h h5 h6 h8 h10 h22 h23 h25
 intro s x h
 obtain ⟨o28,t29⟩:=s
 simp only [linkage_Clusters_l14] at h
 dsimp only
 refine zs (zr ?_)
 refine zU (zl (zn (zs ?_)))
 rcases zI h with ⟨h30,h⟩ | ⟨h30,h⟩
 refine zi (zk (zn (zs (zb (zs (zr ?_))))))
 obtain ⟨x31,h32,h32a,h32b,h⟩:=zX h
 refine zU (zl (zn (zs (zr ?_))))
 refine zU ?_
 obtain ⟨r33,h34,h⟩:=zB h
 refine zc (linkage_divide_con x31 m9 _ h34) ?_
 refine zU (zl (zn (zs (zs (zr ?_)))))
 refine zU (zl (zn ?_))
 rcases zI h with ⟨h35,h⟩ | ⟨h35,h⟩
 refine zi (zs (zr ?_))
 refine zU (zl (zn (zq (zt (yr (zt ?_))))))
 cases h
 exact ⟨rfl,zT Tryz.results20⟩
 refine zj (zk (zn (zs (zr ?_))))
 refine zU (zl (zn (zb ?_)))
 obtain ⟨o36,h37,h⟩:=zB h
 refine zO (fun (s:List (List Int)×Int)=>⟨[(2,.loc 2 1 0 0),(8,.p (.mapv (encK encArr2_int m9) (encW PV.bool m9))),(13,.own 93 1 0 s.1.length),(53,.p (.slc (List.map (encL (PV.int .i64)) r21.1))),(54,.p (.int .i64 (r21.1.length:Int))),(55,.p (.int .i64 t29)),(68,.p (.slc (List.map (encL (PV.int .i64)) r33.1))),(69,.p (.int .i64 (r33.1.length:Int))),(70,.p (.int .i64 s.2))],[(2,.arr 41 3 1 [.p (encTable t1)]),(93,.arr 63 1 1 (List.map AV.p (List.map (encL (PV.int .i64)) s.1)))]⟩) (fun (o38:List (List Int))=>tE (cX Tryz.f20 X w False hT) (.exit 4) ⟨[(2,.loc 2 1 0 0),(8,.p (.mapv (encK encArr2_int m9) (encW PV.bool m9))),(13,.own 93 1 0 o38.length),(53,.p (.slc (List.map (encL (PV.int .i64)) r21.1))),(54,.p (.int .i64 (r21.1.length:Int))),(55,.p (.int .i64 t29))],[(2,.arr 41 3 1 [.p (encTable t1)]),(93,.arr 63 1 1 (List.map AV.p (List.map (encL (PV.int .i64)) o38)))]⟩) h37 ?_ ?_
 clear h h30 h32 h32a h32b h34 h35 h37
 intro s x h
 obtain ⟨o39,t40⟩:=s
 simp only [linkage_Clusters_l13] at h
 dsimp only
 refine zs (zr ?_)
 refine zU (zl (zn (zs ?_)))
 rcases zI h with ⟨h41,h⟩ | ⟨h41,h⟩
 refine zi (zk (zn (zs (zb (zs (zr ?_))))))
 obtain ⟨x42,h43,h43a,h43b,h⟩:=zX h
 refine zU (zl (zn (zs (zr ?_))))
 refine zU (zl (zn (zs (zs (zr ?_)))))
 refine zU (zl (zn (zb ?_)))
 obtain ⟨i44,h45,h⟩:=zB h
 refine zO (fun (s:List Int×Int)=>⟨[(2,.loc 2 1 0 0),(8,.p (.mapv (encK encArr2_int m9) (encW PV.bool m9))),(13,.own 93 1 0 o39.length),(20,.own 88 1 0 s.1.length),(53,.p (.slc (List.map (encL (PV.int .i64)) r21.1))),(54,.p (.int .i64 (r21.1.length:Int))),(55,.p (.int .i64 t29)),(68,.p (.slc (List.map (encL (PV.int .i64)) r33.1))),(69,.p (.int .i64 (r33.1.length:Int))),(70,.p (.int .i64 t40)),(74,.p (.slc (List.map (PV.int .i64) x42))),(75,.p (.int .i64 (x42.length:Int))),(76,.p (.int .i64 s.2))],[(2,.arr 41 3 1 [.p (encTable t1)]),(88,.arr 2 1 1 (List.map AV.p (List.map (PV.int .i64) s.1))),(93,.arr 63 1 1 (List.map AV.p (List.map (encL (PV.int .i64)) o39)))]⟩) (fun (o46:List Int)=>tE (cX Tryz.f20 X w False hT) (.exit 6) ⟨[(2,.loc 2 1 0 0),(8,.p (.mapv (encK encArr2_int m9) (encW PV.bool m9))),(13,.own 93 1 0 o39.length),(20,.own 88 1 0 o46.length),(53,.p (.slc (List.map (encL (PV.int .i64)) r21.1))),(54,.p (.int .i64 (r21.1.length:Int))),(55,.p (.int .i64 t29)),(68,.p (.slc (List.map (encL (PV.int .i64)) r33.1))),(69,.p (.int .i64 (r33.1.length:Int))),(70,.p (.int .i64 t40))],[(2,.arr 41 3 1 [.p (encTable t1)]),(88,.arr 2 1 1 (List.map AV.p (List.map (PV.int .i64) o46))),(93,.arr 63 1 1 (List.map AV.p (List.map (encL (PV.int .i64)) o39)))]⟩) h45 ?_ ?_
 clear h h41 h43 h43a h43b h45
 intro s x h
 obtain ⟨i47,t48⟩:=s
 simp only [linkage_Clusters_l12] at h
 dsimp only
 refine zs (zr ?_)
 refine zU (zl (zn (zs ?_)))
 rcases zI h with ⟨h49,h⟩ | ⟨h49,h⟩
 refine zi (zk (zn (zs (zb (zs (zr ?_))))))
 obtain ⟨x50,h51,h51a,h51b,h⟩:=zX h
 refine zU (zl (zn (zr ?_)))
 obtain ⟨x52,h53,h53a,h53b,h⟩:=zX h
 obtain ⟨h54,h⟩:=ite_some h
 refine zU (zl (yn (zn (zr ?_))))
 refine zU (zl ?_)
 cases h
 exact ⟨rfl,zE⟩
 refine zj (zx (ze ?_))
 cases h
 exact ⟨rfl,zE⟩
 try simp only at h
 refine zA (yh (zn (zr ?_)))
 refine zW 3 ?_
 refine zM ⟨[(2,.loc 2 1 0 0),(8,.p (.mapv (encK encArr2_int m9) (encW PV.bool m9))),(53,.p (.slc (List.map (encL (PV.int .i64)) r21.1))),(54,.p (.int .i64 (r21.1.length:Int))),(55,.p (.int .i64 t29)),(68,.p (.slc (List.map (encL (PV.int .i64)) r33.1))),(69,.p (.int .i64 (r33.1.length:Int))),(70,.p (.int .i64 t40)),(90,.own 93 1 0 o39.length),(92,.own 92 1 0 1)],[(2,.arr 41 3 1 [.p (encTable t1)]),(92,.arr 63 1 1 [.p (.slc (List.map (PV.int .i64) i44))]),(93,.arr 63 1 1 (List.map AV.p (List.map (encL (PV.int .i64)) o39)))]⟩ ?_
 obtain ⟨h55,h⟩:=ite_some h
 refine zU (zl (yn (zn (zr ?_))))
 refine zU (zl ?_)
 cases h
 exact ⟨rfl,zE⟩
 refine zj (zx (ze ?_))
 cases h
 exact ⟨rfl,zE⟩
 try simp only at h
 refine zA (yh (yn (zn (zr ?_))))
 refine zU (zl ?_)
 cases h
 exact ⟨rfl,zE⟩
 refine zj (zx (ze ?_))
 cases h
 exact ⟨rfl,zE⟩
 rcases o24 with o56 | r57
 try simp only at h
 refine zA (yh (zn (zs (zr ?_))))
 refine zU ?_
 refine zM ⟨[(13,.own 93 1 0 o56.length),(96,.own 93 1 0 o56.length)],[(93,.arr 63 1 1 (List.map AV.p (List.map (encL (PV.int .i64)) o56)))]⟩ ?_
 obtain ⟨l58,h59,h⟩:=zB h
 refine zSF srt56 (encL (PV.int .i64)) (fun (y60:List Int) (y61:List Int)=>slices_Compare_int64 y60 y61) h59 (fun y60 y61 r h=>slices_Compare_int64_con y60 y61 r h) ?_
 have h62:=srtF_len h59
 refine zM ⟨[(13,.own 93 1 0 l58.length),(97,.p (.tup []))],[(93,.arr 63 1 1 (List.map AV.p (List.map (encL (PV.int .i64)) l58)))]⟩ ?_
 clear h62
 refine zl (zn (zs (zr ?_)))
 refine zU (zl (zn (zq ?_)))
 cases h
 exact zT Tryz.results20
 try simp only at h
 refine zZ fun s hq=>?_
 refine yr (zt ?_)
 cases h
 exact hq
set_option maxHeartbeats 4000000 in
theorem drossref03_IDs_con {D:Prop} (a1:List Int) (b2:List Int) (r3:Bool) (h:drossref03_IDs a1 b2=some r3):Con D Tryz.prog 60 [(.slc (List.map (PV.int .i64) a1)),(.slc (List.map (PV.int .i64) b2))] (.bool r3):=by
 refine zP Tryz.call60 Tryz.func60 rfl Tryz.ntmps60 fun X w hT=>?_
 simp only [drossref03_IDs] at h
 refine zs (zr ?_)
 refine zU (zl (zn (zs (zs (zr ?_)))))
 refine zU (zl (zn ?_))
 rcases zI h with ⟨h4,h⟩ | ⟨h4,h⟩
 refine zi (zs (zr ?_))
 refine zU (zl (zn (zq (zt ?_))))
 cases h
 exact zT Tryz.results60
 refine zj (zk (zn (zs (zs (zr ?_)))))
 refine zU (zl (zn (zb ?_)))
 obtain ⟨o5,h6,h⟩:=zB h
 refine zO (fun (s:Int)=>⟨[(0,.p (.slc (List.map (PV.int .i64) a1))),(1,.p (.slc (List.map (PV.int .i64) b2))),(5,.p (.int .i64 s))],[]⟩) (fun (o:(Unit) ⊕ (Bool))=>match o with | .inl o7=>tE (cX Tryz.f60 X w D hT) (.exit 0) ⟨[],[]⟩ | .inr o8=>tR Tryz.prog Tryz.f60 (.bool o8)) h6 ?_ ?_
 clear h h4 h6
 intro i9 x h
 simp only [drossref03_IDs_l1] at h
 refine zs (zs (zr ?_))
 refine zU (zl (zn ?_))
 rcases zI h with ⟨h10,h⟩ | ⟨h10,h⟩
 refine zi (zk (zn (zs (zb (zs (zd ?_))))))
 obtain ⟨x11,h12,h12a,h12b,h⟩:=zX h
 obtain ⟨x13,h14,h14a,h14b,h⟩:=zX h
 refine yU ?_
 refine yd (zn ?_)
 rcases zI h with ⟨h15,h⟩ | ⟨h15,h⟩
 refine zi (zs (zr ?_))
 refine zU (zl (zn (zq (yr (zt ?_)))))
 cases h
 exact ⟨rfl,zT Tryz.results60⟩
 refine zj (zk (yn (zn (zr ?_))))
 refine zU (zl ?_)
 cases h
 exact ⟨rfl,zE⟩
 refine zj (zx (ze ?_))
 cases h
 exact ⟨rfl,zE⟩
 rcases o5 with ⟨⟩ | r16
 try simp only at h
 refine zA (yh (zn (zs (zr ?_))))
 refine zU (zl (zn (zq ?_)))
 cases h
 exact zT Tryz.results60
 try simp only at h
 refine zZ fun s hq=>?_
 refine yr (zt ?_)
 cases h
 exact hq
set_option maxRecDepth 20000 in
set_option maxHeartbeats 4000000 in
theorem drossref55_Lists_con {D:Prop} (a1:List (List Int)) (b2:List (List Int)) (r3:Bool) (h:drossref55_Lists a1 b2=some r3):Con D Tryz.prog 23 [(.slc (List.map (encL (PV.int .i64)) a1)),(.slc (List.map (encL (PV.int .i64)) b2))] (.bool r3):=by
 refine zP Tryz.call23 Tryz.func23 rfl Tryz.ntmps23 fun X w hT=>?_
 simp only [drossref55_Lists] at h
 refine zs (zr ?_)
 refine zU (zl (zn (zs (zs (zr ?_)))))
 refine zU (zl (zn ?_))
 rcases zI h with ⟨h4,h⟩ | ⟨h4,h⟩
 refine zi (zs (zr ?_))
 refine zU (zl (zn (zq (zt ?_))))
 cases h
 exact zT Tryz.results23
 refine zj (zk (zn (zs (zs (zr ?_)))))
 refine zU (zl (zn (zb ?_)))
 obtain ⟨o5,h6,h⟩:=zB h
 refine zO (fun (s:Int)=>⟨[(0,.p (.slc (List.map (encL (PV.int .i64)) a1))),(1,.p (.slc (List.map (encL (PV.int .i64)) b2))),(5,.p (.int .i64 s))],[]⟩) (fun (o:(Unit) ⊕ (Bool))=>match o with | .inl o7=>tE (cX Tryz.f23 X w D hT) (.exit 0) ⟨[],[]⟩ | .inr o8=>tR Tryz.prog Tryz.f23 (.bool o8)) h6 ?_ ?_
 clear h h4 h6
 intro i9 x h
 simp only [drossref55_Lists_l1] at h
 refine zs (zs (zr ?_))
 refine zU (zl (zn ?_))
 rcases zI h with ⟨h10,h⟩ | ⟨h10,h⟩
 refine zi (zk (zn (zs (zb (zs (zd ?_))))))
 obtain ⟨x11,h12,h12a,h12b,h⟩:=zX h
 obtain ⟨x13,h14,h14a,h14b,h⟩:=zX h
 refine yU ?_
 obtain ⟨r15,h16,h⟩:=zB h
 refine yc (drossref03_IDs_con x11 x13 _ h16) ?_
 refine yU ?_
 refine yd (zn ?_)
 rcases zI h with ⟨h17,h⟩ | ⟨h17,h⟩
 refine zj (zk (yn (zn (zr ?_))))
 refine zU (zl ?_)
 cases h
 exact ⟨rfl,zE⟩
 refine zi (zs (zr ?_))
 refine zU (zl (zn (zq (yr (zt ?_)))))
 cases h
 exact ⟨rfl,zT Tryz.results23⟩
 refine zj (zx (ze ?_))
 cases h
 exact ⟨rfl,zE⟩
 rcases o5 with ⟨⟩ | r18
 try simp only at h
 refine zA (yh (zn (zs (zr ?_))))
 refine zU (zl (zn (zq ?_)))
 cases h
 exact zT Tryz.results23
 try simp only at h
 refine zZ fun s hq=>?_
 refine yr (zt ?_)
 cases h
 exact hq
end Go.Proofs.YtmlegeeinnkhkaaGreat
