/- Each function of the program computes what its Lean function says, where that has a value. -/
import Derived.Shelf.Small.Strs
import Derived.Shelf.SortM.Plain
import Derived.Shelf.SortM.SortNone
import Derived.Ground.SlgmProg
import Derived.Test.YtdmddoljldjjeaaGreatT1
import Derived.Test.YtdmddoljldjjeaaGreatL1
import Derived.Test.YtdmddoljldjjeaaGreatA2
set_option linter.unusedVariables false
set_option linter.unusedSimpArgs false
namespace Go.Proofs.YtdmddoljldjjeaaGreat
open Go Go.Ab
theorem mixed : Tryz.prog.follows .mixedOrders = true := by kernel_rfl
@[reducible] noncomputable def cX (f : Func) (X : Nat → Prop) (w : World) : Cx := ⟨Tryz.prog, f.ntmps, 0, X, [], fun _ => none, w⟩
theorem zd {N B : Nat} {X : Nat → Prop} {H0 : List (Nat × AO)} {inj0 : Inj} {w0 : World} {Q : Exit → St → Prop} {st : St} {id : Nat} {l : List Oper} (h : DGo ⟨Tryz.prog, N, B, X, H0, inj0, w0⟩ l.toArray l st [] (DK ⟨Tryz.prog, N, B, X, H0, inj0, w0⟩ l.toArray Q)) (hs : slotsOk l.toArray = true := by decide) : AWp ⟨Tryz.prog, N, B, X, H0, inj0, w0⟩ (.region id l.toArray true) Q st := awp_drawn_walk mixed hs h
def encValue (x : Value) : PV := .agg [.int .i64 x.Kind, .int .i64 x.Num, .str x.Str]
@[go_sem] theorem encValue_fold (x : Value) : PV.agg [.int .i64 x.Kind, .int .i64 x.Num, .str x.Str] = encValue x := rfl
@[go_sem] theorem encValue_cells (x : Value) : (encValue x).cells = [.int .i64 x.Kind, .int .i64 x.Num, .str x.Str] := rfl
@[go_sem] theorem encValue_isAgg (x : Value) : (encValue x).isAgg = true := rfl
@[go_sem] theorem encValue_isTup (x : Value) : (encValue x).isTup = false := rfl
@[go_sem] theorem encValue_sl (l : List Value) : ((l.map encValue).all fun y => y.cells.length == 3) = true := by simp [encValue, PV.cells]
@[go_sem] theorem encValue_ok (l : List Value) : ((l.map encValue).map AV.p).all (elemOk 3) = true := elemOkAll_map _ _ _ fun _ => ⟨rfl, rfl⟩
@[go_sem] theorem encValue_flat (x : Value) : (encValue x).flat = true := rfl
def encRow (x : Row) : PV := .agg [.int .i64 x.ID, .slc (List.map encValue x.Values)]
@[go_sem] theorem encRow_fold (x : Row) : PV.agg [.int .i64 x.ID, .slc (List.map encValue x.Values)] = encRow x := rfl
@[go_sem] theorem encRow_cells (x : Row) : (encRow x).cells = [.int .i64 x.ID, .slc (List.map encValue x.Values)] := rfl
@[go_sem] theorem encRow_isAgg (x : Row) : (encRow x).isAgg = true := rfl
@[go_sem] theorem encRow_isTup (x : Row) : (encRow x).isTup = false := rfl
@[go_sem] theorem encRow_sl (l : List Row) : ((l.map encRow).all fun y => y.cells.length == 2) = true := by simp [encRow, PV.cells]
@[go_sem] theorem encRow_ok (l : List Row) : ((l.map encRow).map AV.p).all (elemOk 2) = true := elemOkAll_map _ _ _ fun _ => ⟨rfl, rfl⟩
def encTable (x : Table) : PV := .agg [.str x.Name, .slc (List.map PV.str x.Attrs), .slc (List.map encRow x.Rows)]
@[go_sem] theorem encTable_fold (x : Table) : PV.agg [.str x.Name, .slc (List.map PV.str x.Attrs), .slc (List.map encRow x.Rows)] = encTable x := rfl
@[go_sem] theorem encTable_cells (x : Table) : (encTable x).cells = [.str x.Name, .slc (List.map PV.str x.Attrs), .slc (List.map encRow x.Rows)] := rfl
@[go_sem] theorem encTable_isAgg (x : Table) : (encTable x).isAgg = true := rfl
@[go_sem] theorem encTable_isTup (x : Table) : (encTable x).isTup = false := rfl
@[go_sem] theorem encTable_sl (l : List Table) : ((l.map encTable).all fun y => y.cells.length == 3) = true := by simp [encTable, PV.cells]
@[go_sem] theorem encTable_ok (l : List Table) : ((l.map encTable).map AV.p).all (elemOk 3) = true := elemOkAll_map _ _ _ fun _ => ⟨rfl, rfl⟩
def encMerged (x : Merged) : PV := .agg [.str x.Table.Name, .slc (List.map PV.str x.Table.Attrs), .slc (List.map encRow x.Table.Rows), .slc (List.map (encL (PV.int .i64)) x.Clusters), .slc (List.map (encL (PV.int .i64)) x.Origins)]
@[go_sem] theorem encMerged_fold (x : Merged) : PV.agg [.str x.Table.Name, .slc (List.map PV.str x.Table.Attrs), .slc (List.map encRow x.Table.Rows), .slc (List.map (encL (PV.int .i64)) x.Clusters), .slc (List.map (encL (PV.int .i64)) x.Origins)] = encMerged x := rfl
@[go_sem] theorem encMerged_cells (x : Merged) : (encMerged x).cells = [.str x.Table.Name, .slc (List.map PV.str x.Table.Attrs), .slc (List.map encRow x.Table.Rows), .slc (List.map (encL (PV.int .i64)) x.Clusters), .slc (List.map (encL (PV.int .i64)) x.Origins)] := rfl
@[go_sem] theorem encMerged_isAgg (x : Merged) : (encMerged x).isAgg = true := rfl
@[go_sem] theorem encMerged_isTup (x : Merged) : (encMerged x).isTup = false := rfl
@[go_sem] theorem encMerged_sl (l : List Merged) : ((l.map encMerged).all fun y => y.cells.length == 5) = true := by simp [encMerged, PV.cells]
@[go_sem] theorem encMerged_ok (l : List Merged) : ((l.map encMerged).map AV.p).all (elemOk 5) = true := elemOkAll_map _ _ _ fun _ => ⟨rfl, rfl⟩
def encDrossref55_Result (x : Drossref55_Result) : PV := .agg [.int .i64 x.Value.Kind, .int .i64 x.Value.Num, .str x.Value.Str, .int .i64 x.Origin]
@[go_sem] theorem encDrossref55_Result_fold (x : Drossref55_Result) : PV.agg [.int .i64 x.Value.Kind, .int .i64 x.Value.Num, .str x.Value.Str, .int .i64 x.Origin] = encDrossref55_Result x := rfl
@[go_sem] theorem encDrossref55_Result_cells (x : Drossref55_Result) : (encDrossref55_Result x).cells = [.int .i64 x.Value.Kind, .int .i64 x.Value.Num, .str x.Value.Str, .int .i64 x.Origin] := rfl
@[go_sem] theorem encDrossref55_Result_isAgg (x : Drossref55_Result) : (encDrossref55_Result x).isAgg = true := rfl
@[go_sem] theorem encDrossref55_Result_isTup (x : Drossref55_Result) : (encDrossref55_Result x).isTup = false := rfl
@[go_sem] theorem encDrossref55_Result_sl (l : List Drossref55_Result) : ((l.map encDrossref55_Result).all fun y => y.cells.length == 4) = true := by simp [encDrossref55_Result, PV.cells]
@[go_sem] theorem encDrossref55_Result_ok (l : List Drossref55_Result) : ((l.map encDrossref55_Result).map AV.p).all (elemOk 4) = true := elemOkAll_map _ _ _ fun _ => ⟨rfl, rfl⟩
@[go_sem] theorem encDrossref55_Result_flat (x : Drossref55_Result) : (encDrossref55_Result x).flat = true := rfl
def encDrossref55_Row (x : Drossref55_Row) : PV := .agg [.int .i64 x.Row.ID, .slc (List.map encValue x.Row.Values), .slc (List.map (PV.int .i64) x.Origins)]
@[go_sem] theorem encDrossref55_Row_fold (x : Drossref55_Row) : PV.agg [.int .i64 x.Row.ID, .slc (List.map encValue x.Row.Values), .slc (List.map (PV.int .i64) x.Origins)] = encDrossref55_Row x := rfl
@[go_sem] theorem encDrossref55_Row_cells (x : Drossref55_Row) : (encDrossref55_Row x).cells = [.int .i64 x.Row.ID, .slc (List.map encValue x.Row.Values), .slc (List.map (PV.int .i64) x.Origins)] := rfl
@[go_sem] theorem encDrossref55_Row_isAgg (x : Drossref55_Row) : (encDrossref55_Row x).isAgg = true := rfl
@[go_sem] theorem encDrossref55_Row_isTup (x : Drossref55_Row) : (encDrossref55_Row x).isTup = false := rfl
@[go_sem] theorem encDrossref55_Row_sl (l : List Drossref55_Row) : ((l.map encDrossref55_Row).all fun y => y.cells.length == 3) = true := by simp [encDrossref55_Row, PV.cells]
@[go_sem] theorem encDrossref55_Row_ok (l : List Drossref55_Row) : ((l.map encDrossref55_Row).map AV.p).all (elemOk 3) = true := elemOkAll_map _ _ _ fun _ => ⟨rfl, rfl⟩
def encDrossref03_Recipe (x : Drossref03_Recipe) : PV := .agg [.int .u8 x.Attrs, .int .u8 x.Gap, .slc (List.map (encL (PV.int .u8)) x.Rows)]
@[go_sem] theorem encDrossref03_Recipe_fold (x : Drossref03_Recipe) : PV.agg [.int .u8 x.Attrs, .int .u8 x.Gap, .slc (List.map (encL (PV.int .u8)) x.Rows)] = encDrossref03_Recipe x := rfl
@[go_sem] theorem encDrossref03_Recipe_cells (x : Drossref03_Recipe) : (encDrossref03_Recipe x).cells = [.int .u8 x.Attrs, .int .u8 x.Gap, .slc (List.map (encL (PV.int .u8)) x.Rows)] := rfl
@[go_sem] theorem encDrossref03_Recipe_isAgg (x : Drossref03_Recipe) : (encDrossref03_Recipe x).isAgg = true := rfl
@[go_sem] theorem encDrossref03_Recipe_isTup (x : Drossref03_Recipe) : (encDrossref03_Recipe x).isTup = false := rfl
@[go_sem] theorem encDrossref03_Recipe_sl (l : List Drossref03_Recipe) : ((l.map encDrossref03_Recipe).all fun y => y.cells.length == 3) = true := by simp [encDrossref03_Recipe, PV.cells]
@[go_sem] theorem encDrossref03_Recipe_ok (l : List Drossref03_Recipe) : ((l.map encDrossref03_Recipe).map AV.p).all (elemOk 3) = true := elemOkAll_map _ _ _ fun _ => ⟨rfl, rfl⟩
def encDrossref55_Plan (x : Drossref55_Plan) : PV := .agg [.slc (List.map (PV.int .u8) x.Labels), .slc (List.map (PV.int .u8) x.Rules)]
@[go_sem] theorem encDrossref55_Plan_fold (x : Drossref55_Plan) : PV.agg [.slc (List.map (PV.int .u8) x.Labels), .slc (List.map (PV.int .u8) x.Rules)] = encDrossref55_Plan x := rfl
@[go_sem] theorem encDrossref55_Plan_cells (x : Drossref55_Plan) : (encDrossref55_Plan x).cells = [.slc (List.map (PV.int .u8) x.Labels), .slc (List.map (PV.int .u8) x.Rules)] := rfl
@[go_sem] theorem encDrossref55_Plan_isAgg (x : Drossref55_Plan) : (encDrossref55_Plan x).isAgg = true := rfl
@[go_sem] theorem encDrossref55_Plan_isTup (x : Drossref55_Plan) : (encDrossref55_Plan x).isTup = false := rfl
@[go_sem] theorem encDrossref55_Plan_sl (l : List Drossref55_Plan) : ((l.map encDrossref55_Plan).all fun y => y.cells.length == 2) = true := by simp [encDrossref55_Plan, PV.cells]
@[go_sem] theorem encDrossref55_Plan_ok (l : List Drossref55_Plan) : ((l.map encDrossref55_Plan).map AV.p).all (elemOk 2) = true := elemOkAll_map _ _ _ fun _ => ⟨rfl, rfl⟩
def encCellRef (x : CellRef) : PV := .agg [.int .i64 x.ID, .int .i64 x.Attr]
@[go_sem] theorem encCellRef_fold (x : CellRef) : PV.agg [.int .i64 x.ID, .int .i64 x.Attr] = encCellRef x := rfl
@[go_sem] theorem encCellRef_cells (x : CellRef) : (encCellRef x).cells = [.int .i64 x.ID, .int .i64 x.Attr] := rfl
@[go_sem] theorem encCellRef_isAgg (x : CellRef) : (encCellRef x).isAgg = true := rfl
@[go_sem] theorem encCellRef_isTup (x : CellRef) : (encCellRef x).isTup = false := rfl
@[go_sem] theorem encCellRef_sl (l : List CellRef) : ((l.map encCellRef).all fun y => y.cells.length == 2) = true := by simp [encCellRef, PV.cells]
@[go_sem] theorem encCellRef_ok (l : List CellRef) : ((l.map encCellRef).map AV.p).all (elemOk 2) = true := elemOkAll_map _ _ _ fun _ => ⟨rfl, rfl⟩
@[go_sem] theorem encCellRef_flat (x : CellRef) : (encCellRef x).flat = true := rfl
end Go.Proofs.YtdmddoljldjjeaaGreat
set_option linter.unusedVariables false
set_option linter.unusedSimpArgs false
namespace Go.Proofs.YtdmddoljldjjeaaGreat
open Go Go.Ab
set_option maxHeartbeats 4000000 in
theorem survivor_validRule_con (r1 : Int) (r2 : Bool) (h : survivor_validRule r1 = some r2) : Con Tryz.prog 33 [(.int .i64 r1)] (.bool r2) := by
 refine zP Tryz.call33 Tryz.func33 rfl Tryz.ntmps33 fun X w => ?_
 simp only [survivor_validRule] at h
 refine zs (zr ?_)
 refine zU (zl (zn (zs (zr ?_))))
 refine zU ?_
 rcases zI h with ⟨h3, h⟩ | ⟨h3, h⟩
 refine zw 5 true ?_
 refine zg ?_
 refine zg ?_
 refine zU (zl (zn (zq ?_)))
 cases h
 exact zT Tryz.results33
 refine zw 5 false ?_
 refine zh ?_
 refine zU (zl (zn (zq ?_)))
 cases h
 exact zT Tryz.results33
end Go.Proofs.YtdmddoljldjjeaaGreat
set_option linter.unusedVariables false
set_option linter.unusedSimpArgs false
namespace Go.Proofs.YtdmddoljldjjeaaGreat
open Go Go.Ab
set_option maxHeartbeats 4000000 in
theorem survivor_checkRows_con (r1 : List Row) (r2 : Int) (h : survivor_checkRows r1 = some r2) : Con Tryz.prog 61 [(.slc (List.map encRow r1))] (.int .i64 r2) := by
 refine zP Tryz.call61 Tryz.func61 rfl Tryz.ntmps61 fun X w => ?_
 simp only [survivor_checkRows] at h
 refine zs (zr ?_)
 refine zU (zl (zn (zs (zs (zr ?_)))))
 refine zU (zl (zn ?_))
 rcases zI h with ⟨h3, h⟩ | ⟨h3, h⟩
 refine zi (zs (zr ?_))
 refine zU (zl (zn (zq (zt ?_))))
 cases h
 exact zT Tryz.results61
 refine zj (zk (zn (zs (zs (zr ?_)))))
 refine zU (zl (zn (zb ?_)))
 obtain ⟨o4, h5, h⟩ := zB h
 refine zO (fun (s : Int) => ⟨[(0, .p (.slc (List.map encRow r1))), (8, .p (.slc (List.map encRow r1))), (9, .p (.int .i64 (r1.length : Int))), (10, .p (.int .i64 s))], []⟩) (fun (o : (Unit) ⊕ (Int)) => match o with | .inl o6 => tE (cX Tryz.f61 X w) (.exit 0) ⟨[], []⟩ | .inr o7 => tR Tryz.prog Tryz.f61 (.int .i64 o7)) h5 ?_ ?_
 clear h h3 h5
 intro t8 x h
 simp only [survivor_checkRows_l1] at h
 refine zs (zr ?_)
 refine zU (zl (zn (zs ?_)))
 rcases zI h with ⟨h9, h⟩ | ⟨h9, h⟩
 refine zi (zk (zn (zs (zb (zs (zr ?_))))))
 obtain ⟨x10, h11, h11a, h11b, h⟩ := zX h
 refine zU (zl (zn (zs (zd ?_))))
 obtain ⟨x12, h13, h13l, h13L, h⟩ := zY 0 h
 refine yU ?_
 refine yd (zn ?_)
 rcases zI h with ⟨h14, h⟩ | ⟨h14, h⟩
 refine zi (zs (zr ?_))
 refine zU (zl (zn (zq (yr (zt ?_)))))
 cases h
 exact ⟨rfl, zT Tryz.results61⟩
 refine zj (zk (yn (zn (zr ?_))))
 refine zU (zl ?_)
 cases h
 exact ⟨rfl, zE⟩
 refine zj (zx (ze ?_))
 cases h
 exact ⟨rfl, zE⟩
 rcases o4 with ⟨⟩ | r15
 try simp only at h
 refine zA (yh (zn (zs (zr ?_))))
 refine zU (zl (zn (zq ?_)))
 cases h
 exact zT Tryz.results61
 try simp only at h
 refine zZ fun s hq => ?_
 refine yr (zt ?_)
 cases h
 exact hq
end Go.Proofs.YtdmddoljldjjeaaGreat
set_option linter.unusedVariables false
set_option linter.unusedSimpArgs false
namespace Go.Proofs.YtdmddoljldjjeaaGreat
open Go Go.Ab
set_option maxHeartbeats 4000000 in
theorem slices_IndexFunc_Value_con (s1 : List Value) (f2 : Value → Option (Bool)) (f2_k : FuncId) (f2_cs : List PV) (f2_h : ∀ (y3 : Value) (r4 : Bool), f2 y3 = some r4 → Con Tryz.prog f2_k ((encValue y3) :: f2_cs) (.bool r4)) (r5 : Int) (h : slices_IndexFunc_Value s1 f2 = some r5) : Con Tryz.prog 137 [(.slc (List.map encValue s1)), .func (.func f2_k) f2_cs] (.int .i64 r5) := by
 refine zP Tryz.call137 Tryz.func137 rfl Tryz.ntmps137 fun X w => ?_
 simp only [slices_IndexFunc_Value] at h
 refine zs (zr ?_)
 refine zU (zl (zn (zs (zs (zr ?_)))))
 refine zU (zl (zn (zb ?_)))
 obtain ⟨o6, h7, h⟩ := zB h
 refine zO (fun (s : Int) => ⟨[(0, .p (.slc (List.map encValue s1))), (1, .p (.func (.func f2_k) f2_cs)), (7, .p (.int .i64 (s1.length : Int))), (8, .p (.int .i64 s))], []⟩) (fun (o : (Unit) ⊕ (Int)) => match o with | .inl o8 => tE (cX Tryz.f137 X w) (.exit 0) ⟨[], []⟩ | .inr o9 => tR Tryz.prog Tryz.f137 (.int .i64 o9)) h7 ?_ ?_
 clear h h7
 intro t10 x h
 simp only [slices_IndexFunc_Value_l1] at h
 refine zs (zr ?_)
 refine zU (zl (zn (zs ?_)))
 rcases zI h with ⟨h11, h⟩ | ⟨h11, h⟩
 refine zi (zk (zn (zs (zb (zs (zr ?_))))))
 refine zU (zl (zn (zs (zr ?_))))
 obtain ⟨x12, h13, h13a, h13b, h⟩ := zX h
 refine zU ?_
 obtain ⟨r14, h15, h⟩ := zB h
 refine zc (f2_h x12 _ h15) ?_
 refine zl (zn ?_)
 rcases zI h with ⟨h16, h⟩ | ⟨h16, h⟩
 refine zi (zs (zr ?_))
 refine zU (zl (zn (zq (yr (zt ?_)))))
 cases h
 exact ⟨rfl, zT Tryz.results137⟩
 refine zj (zk (yn (zn (zr ?_))))
 refine zU (zl ?_)
 cases h
 exact ⟨rfl, zE⟩
 refine zj (zx (ze ?_))
 cases h
 exact ⟨rfl, zE⟩
 rcases o6 with ⟨⟩ | r17
 try simp only at h
 refine zA (yh (zn (zs (zr ?_))))
 refine zU (zl (zn (zq ?_)))
 cases h
 exact zT Tryz.results137
 try simp only at h
 refine zZ fun s hq => ?_
 refine yr (zt ?_)
 cases h
 exact hq
end Go.Proofs.YtdmddoljldjjeaaGreat
set_option linter.unusedVariables false
set_option linter.unusedSimpArgs false
namespace Go.Proofs.YtdmddoljldjjeaaGreat
open Go Go.Ab
set_option maxHeartbeats 4000000 in
theorem slices_ContainsFunc_Value_con (s1 : List Value) (f2 : Value → Option (Bool)) (f2_k : FuncId) (f2_cs : List PV) (f2_h : ∀ (y3 : Value) (r4 : Bool), f2 y3 = some r4 → Con Tryz.prog f2_k ((encValue y3) :: f2_cs) (.bool r4)) (r5 : Bool) (h : slices_ContainsFunc_Value s1 f2 = some r5) : Con Tryz.prog 101 [(.slc (List.map encValue s1)), .func (.func f2_k) f2_cs] (.bool r5) := by
 refine zP Tryz.call101 Tryz.func101 rfl Tryz.ntmps101 fun X w => ?_
 simp only [slices_ContainsFunc_Value] at h
 refine zs (zr ?_)
 refine zU (zl (zn (zs (zr ?_))))
 refine zU ?_
 obtain ⟨r6, h7, h⟩ := zB h
 refine zc (slices_IndexFunc_Value_con s1 f2 f2_k f2_cs f2_h _ h7) ?_
 refine zU (zl (zn (zq ?_)))
 cases h
 exact zT Tryz.results101
end Go.Proofs.YtdmddoljldjjeaaGreat
set_option linter.unusedVariables false
set_option linter.unusedSimpArgs false
namespace Go.Proofs.YtdmddoljldjjeaaGreat
open Go Go.Ab
set_option maxHeartbeats 4000000 in
theorem value_Valid_con (v1 : Value) (r2 : Bool) (h : value_Valid v1 = some r2) : Con Tryz.prog 103 [(encValue v1)] (.bool r2) := by
 refine zP Tryz.call103 Tryz.func103 rfl Tryz.ntmps103 fun X w => ?_
 simp only [value_Valid] at h
 refine zs (zr ?_)
 refine zU (zl (zn (zs (zs (zr ?_)))))
 refine zU (zl (zn (zb (zs (zr ?_)))))
 refine zU (zl (zn ?_))
 rcases zI h with ⟨h3, h⟩ | ⟨h3, h⟩
 refine zi (zs (zr ?_))
 refine zU ?_
 rcases zI h with ⟨h4, h⟩ | ⟨h4, h⟩
 refine zw 10 true ?_
 refine zg ?_
 refine zg ?_
 refine zg ?_
 refine zU (zl (zn (zq (yr (zt ?_)))))
 cases h
 exact zT Tryz.results103
 refine zw 10 false ?_
 refine zh ?_
 refine zU (zl (zn (zq (yr (zt ?_)))))
 cases h
 exact zT Tryz.results103
 refine zj (zs (zr ?_))
 refine zU (zl (zn ?_))
 rcases zI h with ⟨h5, h⟩ | ⟨h5, h⟩
 refine zi (zs (zr ?_))
 refine zU (zl (zn (zq (yr (zt ?_)))))
 cases h
 exact zT Tryz.results103
 refine zj (zs (zr ?_))
 refine zU (zl (zn ?_))
 rcases zI h with ⟨h6, h⟩ | ⟨h6, h⟩
 refine zi (zs (zr ?_))
 refine zU ?_
 rcases zI h with ⟨h7, h⟩ | ⟨h7, h⟩
 refine zw 25 true ?_
 refine zg ?_
 refine zg ?_
 refine zg ?_
 refine zg ?_
 refine zU (zl (zn (zq (yr (zt ?_)))))
 cases h
 exact zT Tryz.results103
 refine zw 25 false ?_
 refine zh ?_
 refine zU (zl (zn (zq (yr (zt ?_)))))
 cases h
 exact zT Tryz.results103
 refine zj (zs (zr ?_))
 refine zU (zl (zn ?_))
 rcases zI h with ⟨h8, h⟩ | ⟨h8, h⟩
 refine zi (zs (zr ?_))
 refine zU ?_
 rcases zI h with ⟨h9, h⟩ | ⟨h9, h⟩
 refine zw 36 true ?_
 refine zg ?_
 refine zg ?_
 refine zg ?_
 refine zU (zl (zn (zq (yr (zt ?_)))))
 cases h
 exact zT Tryz.results103
 refine zw 36 false ?_
 refine zh ?_
 refine zU (zl (zn (zq (yr (zt ?_)))))
 cases h
 exact zT Tryz.results103
 refine zj (zk (yn (zn (zs (zr ?_)))))
 refine zU (zl (zn (zq ?_)))
 cases h
 exact zT Tryz.results103
end Go.Proofs.YtdmddoljldjjeaaGreat
set_option linter.unusedVariables false
set_option linter.unusedSimpArgs false
namespace Go.Proofs.YtdmddoljldjjeaaGreat
open Go Go.Ab
set_option maxHeartbeats 4000000 in
theorem survivor_checkValues_1_con (v1 : Value) (r2 : Bool) (h : survivor_checkValues_1 v1 = some r2) : Con Tryz.prog 102 [(encValue v1)] (.bool r2) := by
 refine zP Tryz.call102 Tryz.func102 rfl Tryz.ntmps102 fun X w => ?_
 simp only [survivor_checkValues_1] at h
 refine zs (zr ?_)
 refine zU (zl (zn (zs (zr ?_))))
 refine zU ?_
 obtain ⟨r3, h4, h⟩ := zB h
 refine zc (value_Valid_con v1 _ h4) ?_
 refine zU (zl (zn (zq ?_)))
 cases h
 exact zT Tryz.results102
end Go.Proofs.YtdmddoljldjjeaaGreat
set_option linter.unusedVariables false
set_option linter.unusedSimpArgs false
namespace Go.Proofs.YtdmddoljldjjeaaGreat
open Go Go.Ab
set_option maxHeartbeats 4000000 in
theorem survivor_checkValues_con (r1 : List Row) (r2 : Int) (h : survivor_checkValues r1 = some r2) : Con Tryz.prog 62 [(.slc (List.map encRow r1))] (.int .i64 r2) := by
 refine zP Tryz.call62 Tryz.func62 rfl Tryz.ntmps62 fun X w => ?_
 simp only [survivor_checkValues] at h
 refine zs (zr ?_)
 refine zU (zl (zn (zs (zr ?_))))
 refine zU (zl (zn (zs (zs (zr ?_)))))
 refine zU (zl (zn (zb ?_)))
 obtain ⟨o3, h4, h⟩ := zB h
 refine zO (fun (s : Int × Int) => ⟨[(3, .p (.int .i64 s.1)), (6, .p (.slc (List.map encRow r1))), (7, .p (.int .i64 (r1.length : Int))), (8, .p (.int .i64 s.2))], []⟩) (fun (o : (Unit) ⊕ (Int)) => match o with | .inl o5 => tE (cX Tryz.f62 X w) (.exit 0) ⟨[], []⟩ | .inr o6 => tR Tryz.prog Tryz.f62 (.int .i64 o6)) h4 ?_ ?_
 clear h h4
 intro s x h
 obtain ⟨l7, t8⟩ := s
 simp only [survivor_checkValues_l1] at h
 dsimp only
 refine zs (zr ?_)
 refine zU (zl (zn (zs ?_)))
 rcases zI h with ⟨h9, h⟩ | ⟨h9, h⟩
 refine zi (zk (zn (zs (zb (zs (zr ?_))))))
 obtain ⟨x10, h11, h11a, h11b, h⟩ := zX h
 refine zU (zl (zn (zs (zs (zr ?_)))))
 refine zU ?_
 rcases zI h with ⟨h12, h⟩ | ⟨h12, h⟩
 refine zw 16 true ?_
 refine zh ?_
 refine zU (zl (zn ?_))
 refine zi (zs (zr ?_))
 refine zU (zl (zn (zq (zt (yr (zt ?_))))))
 cases h
 exact ⟨rfl, zT Tryz.results62⟩
 refine zw 16 false ?_
 refine zg ?_
 refine zg ?_
 obtain ⟨r13, h14, h⟩ := zB h
 refine zc (slices_ContainsFunc_Value_con x10.Values (fun (y15 : Value) => survivor_checkValues_1 y15) 102 [] (fun y15 r h => survivor_checkValues_1_con y15 r h) _ h14) ?_
 refine zU (zl (zn ?_))
 rcases zI h with ⟨h16, h⟩ | ⟨h16, h⟩
 refine zi (zs (zr ?_))
 refine zU (zl (zn (zq (zt (yr (zt ?_))))))
 cases h
 exact ⟨rfl, zT Tryz.results62⟩
 refine zj (zk (zn (zr ?_)))
 refine zU (zl (yn (zn (zr ?_))))
 refine zU (zl ?_)
 cases h
 exact ⟨rfl, zE⟩
 refine zj (zx (ze ?_))
 cases h
 exact ⟨rfl, zE⟩
 rcases o3 with ⟨⟩ | r17
 try simp only at h
 refine zA (yh (zn (zs (zr ?_))))
 refine zU (zl (zn (zq ?_)))
 cases h
 exact zT Tryz.results62
 try simp only at h
 refine zZ fun s hq => ?_
 refine yr (zt ?_)
 cases h
 exact hq
end Go.Proofs.YtdmddoljldjjeaaGreat
set_option linter.unusedVariables false
set_option linter.unusedSimpArgs false
namespace Go.Proofs.YtdmddoljldjjeaaGreat
open Go Go.Ab
set_option maxHeartbeats 4000000 in
theorem slices_IndexFunc_Row_con (s1 : List Row) (f2 : Row → Option (Bool)) (f2_k : FuncId) (f2_cs : List PV) (f2_h : ∀ (y3 : Row) (r4 : Bool), f2 y3 = some r4 → Con Tryz.prog f2_k ((encRow y3) :: f2_cs) (.bool r4)) (r5 : Int) (h : slices_IndexFunc_Row s1 f2 = some r5) : Con Tryz.prog 94 [(.slc (List.map encRow s1)), .func (.func f2_k) f2_cs] (.int .i64 r5) := by
 refine zP Tryz.call94 Tryz.func94 rfl Tryz.ntmps94 fun X w => ?_
 simp only [slices_IndexFunc_Row] at h
 refine zs (zr ?_)
 refine zU (zl (zn (zs (zs (zr ?_)))))
 refine zU (zl (zn (zb ?_)))
 obtain ⟨o6, h7, h⟩ := zB h
 refine zO (fun (s : Int) => ⟨[(0, .p (.slc (List.map encRow s1))), (1, .p (.func (.func f2_k) f2_cs)), (7, .p (.int .i64 (s1.length : Int))), (8, .p (.int .i64 s))], []⟩) (fun (o : (Unit) ⊕ (Int)) => match o with | .inl o8 => tE (cX Tryz.f94 X w) (.exit 0) ⟨[], []⟩ | .inr o9 => tR Tryz.prog Tryz.f94 (.int .i64 o9)) h7 ?_ ?_
 clear h h7
 intro t10 x h
 simp only [slices_IndexFunc_Row_l1] at h
 refine zs (zr ?_)
 refine zU (zl (zn (zs ?_)))
 rcases zI h with ⟨h11, h⟩ | ⟨h11, h⟩
 refine zi (zk (zn (zs (zb (zs (zr ?_))))))
 refine zU (zl (zn (zs (zr ?_))))
 obtain ⟨x12, h13, h13a, h13b, h⟩ := zX h
 refine zU ?_
 obtain ⟨r14, h15, h⟩ := zB h
 refine zc (f2_h x12 _ h15) ?_
 refine zl (zn ?_)
 rcases zI h with ⟨h16, h⟩ | ⟨h16, h⟩
 refine zi (zs (zr ?_))
 refine zU (zl (zn (zq (yr (zt ?_)))))
 cases h
 exact ⟨rfl, zT Tryz.results94⟩
 refine zj (zk (yn (zn (zr ?_))))
 refine zU (zl ?_)
 cases h
 exact ⟨rfl, zE⟩
 refine zj (zx (ze ?_))
 cases h
 exact ⟨rfl, zE⟩
 rcases o6 with ⟨⟩ | r17
 try simp only at h
 refine zA (yh (zn (zs (zr ?_))))
 refine zU (zl (zn (zq ?_)))
 cases h
 exact zT Tryz.results94
 try simp only at h
 refine zZ fun s hq => ?_
 refine yr (zt ?_)
 cases h
 exact hq
end Go.Proofs.YtdmddoljldjjeaaGreat
set_option linter.unusedVariables false
set_option linter.unusedSimpArgs false
namespace Go.Proofs.YtdmddoljldjjeaaGreat
open Go Go.Ab
set_option maxHeartbeats 4000000 in
theorem survivor_count_con (l1 : List Value) (v2 : Value) (r3 : Int) (h : survivor_count l1 v2 = some r3) : Con Tryz.prog 138 [(.slc (List.map encValue l1)), (encValue v2)] (.int .i64 r3) := by
 refine zP Tryz.call138 Tryz.func138 rfl Tryz.ntmps138 fun X w => ?_
 simp only [survivor_count] at h
 refine zs (zr ?_)
 refine zU (zl (zn (zs (zr ?_))))
 refine zU (zl (zn (zs (zs (zr ?_)))))
 refine zU (zl (zn (zb ?_)))
 obtain ⟨n4, h5, h⟩ := zB h
 refine zO (fun (s : Int × Int) => ⟨[(3, .loc 3 1 0 0), (5, .p (.int .i64 s.1)), (8, .p (.slc (List.map encValue l1))), (9, .p (.int .i64 (l1.length : Int))), (10, .p (.int .i64 s.2))], [(3, .arr 64 3 1 [.p (encValue v2)])]⟩) (fun (o6 : Int) => tE (cX Tryz.f138 X w) (.exit 0) ⟨[(5, .p (.int .i64 o6))], []⟩) h5 ?_ ?_
 clear h h5
 intro s x h
 obtain ⟨n7, t8⟩ := s
 simp only [survivor_count_l1] at h
 dsimp only
 refine zs (zr ?_)
 refine zU (zl (zn (zs ?_)))
 rcases zI h with ⟨h9, h⟩ | ⟨h9, h⟩
 refine zi (zk (zn (zs (zb (zs (zr ?_))))))
 obtain ⟨x10, h11, h11a, h11b, h⟩ := zX h
 refine zU (zl (zn (zs (zr ?_))))
 refine zU (zl (zn ?_))
 rcases zI h with ⟨h12, h⟩ | ⟨h12, h⟩
 refine zi (zr ?_)
 refine zU (zl (yn (zn (zr ?_))))
 refine zU (zl ?_)
 cases h
 exact ⟨rfl, zE⟩
 refine zj (zk (yn (zn (zr ?_))))
 refine zU (zl ?_)
 cases h
 exact ⟨rfl, zE⟩
 refine zj (zx (ze ?_))
 cases h
 exact ⟨rfl, zE⟩
 try simp only at h
 refine zA (yh (zn (zs (zr ?_))))
 refine zU (zl (zn (zq ?_)))
 cases h
 exact zT Tryz.results138
end Go.Proofs.YtdmddoljldjjeaaGreat
set_option linter.unusedVariables false
set_option linter.unusedSimpArgs false
namespace Go.Proofs.YtdmddoljldjjeaaGreat
open Go Go.Ab
set_option maxHeartbeats 4000000 in
theorem cmp_isNaN_int64_con (x1 : Int) (r2 : Bool) (h : cmp_isNaN_int64 x1 = some r2) : Con Tryz.prog 76 [(.int .i64 x1)] (.bool r2) := by
 refine zP Tryz.call76 Tryz.func76 rfl Tryz.ntmps76 fun X w => ?_
 simp only [cmp_isNaN_int64] at h
 refine zs (zr ?_)
 refine zU (zl (zn (zs (zr ?_))))
 refine zU (zl (zn (zq ?_)))
 cases h
 exact zT Tryz.results76
end Go.Proofs.YtdmddoljldjjeaaGreat
set_option linter.unusedVariables false
set_option linter.unusedSimpArgs false
namespace Go.Proofs.YtdmddoljldjjeaaGreat
open Go Go.Ab
set_option maxHeartbeats 4000000 in
theorem cmp_Compare_int64_con (x1 : Int) (y2 : Int) (r3 : Int) (h : cmp_Compare_int64 x1 y2 = some r3) : Con Tryz.prog 37 [(.int .i64 x1), (.int .i64 y2)] (.int .i64 r3) := by
 refine zP Tryz.call37 Tryz.func37 rfl Tryz.ntmps37 fun X w => ?_
 simp only [cmp_Compare_int64] at h
 refine zs (zr ?_)
 refine zU (zl (zn (zs (zr ?_))))
 refine zU ?_
 obtain ⟨r4, h5, h⟩ := zB h
 refine zc (cmp_isNaN_int64_con x1 _ h5) ?_
 refine zU (zl (zn (zs (zr ?_))))
 refine zU ?_
 obtain ⟨r6, h7, h⟩ := zB h
 refine zc (cmp_isNaN_int64_con y2 _ h7) ?_
 refine zU (zl (zn (zs (zs (zr ?_)))))
 refine zU (zl (zn ?_))
 rcases zI h with ⟨h8, h⟩ | ⟨h8, h⟩
 refine zi (zs (zs (zr ?_)))
 refine zU (zl (zn ?_))
 rcases zI h with ⟨h9, h⟩ | ⟨h9, h⟩
 refine zi (zs (zr ?_))
 refine zU (zl (zn (zq (zt (zt ?_)))))
 cases h
 exact zT Tryz.results37
 refine zj (zk (zn (zs (zr ?_))))
 refine zU (zl (zn (zq (zt ?_))))
 cases h
 exact zT Tryz.results37
 refine zj (zk (zn (zs (zs (zr ?_)))))
 refine zU (zl (zn ?_))
 rcases zI h with ⟨h10, h⟩ | ⟨h10, h⟩
 refine zi (zs (zr ?_))
 refine zU (zl (zn (zq (zt ?_))))
 cases h
 exact zT Tryz.results37
 refine zj (zk (zn (zs (zs (zr ?_)))))
 refine zU (zl (zn ?_))
 rcases zI h with ⟨h11, h⟩ | ⟨h11, h⟩
 refine zi (zs (zr ?_))
 refine zU (zl (zn (zq (zt ?_))))
 cases h
 exact zT Tryz.results37
 refine zj (zk (zn (zs (zs (zr ?_)))))
 refine zU (zl (zn ?_))
 rcases zI h with ⟨h12, h⟩ | ⟨h12, h⟩
 refine zi (zs (zr ?_))
 refine zU (zl (zn (zq (zt ?_))))
 cases h
 exact zT Tryz.results37
 refine zj (zk (zn (zs (zr ?_))))
 refine zU (zl (zn (zq ?_)))
 cases h
 exact zT Tryz.results37
end Go.Proofs.YtdmddoljldjjeaaGreat
set_option linter.unusedVariables false
set_option linter.unusedSimpArgs false
namespace Go.Proofs.YtdmddoljldjjeaaGreat
open Go Go.Ab
set_option maxHeartbeats 4000000 in
theorem cmp_Or_int_con (v1 : List Int) (r2 : Int) (h : cmp_Or_int v1 = some r2) : Con Tryz.prog 150 [(.slc (List.map (PV.int .i64) v1))] (.int .i64 r2) := by
 refine zP Tryz.call150 Tryz.func150 rfl Tryz.ntmps150 fun X w => ?_
 simp only [cmp_Or_int] at h
 refine zs (zr ?_)
 refine zU (zl (zn (zs (zr ?_))))
 refine zU (zl (zn (zs (zs (zr ?_)))))
 refine zU (zl (zn (zb ?_)))
 obtain ⟨o3, h4, h⟩ := zB h
 refine zO (fun (s : Int) => ⟨[(3, .p (.int .i64 0)), (6, .p (.slc (List.map (PV.int .i64) v1))), (7, .p (.int .i64 (v1.length : Int))), (8, .p (.int .i64 s))], []⟩) (fun (o : (Unit) ⊕ (Int)) => match o with | .inl o5 => tE (cX Tryz.f150 X w) (.exit 0) ⟨[(3, .p (.int .i64 0))], []⟩ | .inr o6 => tR Tryz.prog Tryz.f150 (.int .i64 o6)) h4 ?_ ?_
 clear h h4
 intro t7 x h
 simp only [cmp_Or_int_l1] at h
 refine zs (zr ?_)
 refine zU (zl (zn (zs ?_)))
 rcases zI h with ⟨h8, h⟩ | ⟨h8, h⟩
 refine zi (zk (zn (zs (zb (zs (zr ?_))))))
 obtain ⟨x9, h10, h10a, h10b, h⟩ := zX h
 refine zU (zl (zn (zs (zr ?_))))
 refine zU (zl (zn ?_))
 rcases zI h with ⟨h11, h⟩ | ⟨h11, h⟩
 refine zi (zs (zr ?_))
 refine zU (zl (zn (zq (yr (zt ?_)))))
 cases h
 exact ⟨rfl, zT Tryz.results150⟩
 refine zj (zk (yn (zn (zr ?_))))
 refine zU (zl ?_)
 cases h
 exact ⟨rfl, zE⟩
 refine zj (zx (ze ?_))
 cases h
 exact ⟨rfl, zE⟩
 rcases o3 with ⟨⟩ | r12
 try simp only at h
 refine zA (yh (zn (zs (zr ?_))))
 refine zU (zl (zn (zq ?_)))
 cases h
 exact zT Tryz.results150
 try simp only at h
 refine zZ fun s hq => ?_
 refine yr (zt ?_)
 cases h
 exact hq
end Go.Proofs.YtdmddoljldjjeaaGreat
set_option linter.unusedVariables false
set_option linter.unusedSimpArgs false
namespace Go.Proofs.YtdmddoljldjjeaaGreat
open Go Go.Ab
set_option maxHeartbeats 4000000 in
theorem cmp_isNaN_int_con (x1 : Int) (r2 : Bool) (h : cmp_isNaN_int x1 = some r2) : Con Tryz.prog 155 [(.int .i64 x1)] (.bool r2) := by
 refine zP Tryz.call155 Tryz.func155 rfl Tryz.ntmps155 fun X w => ?_
 simp only [cmp_isNaN_int] at h
 refine zs (zr ?_)
 refine zU (zl (zn (zs (zr ?_))))
 refine zU (zl (zn (zq ?_)))
 cases h
 exact zT Tryz.results155
end Go.Proofs.YtdmddoljldjjeaaGreat
set_option linter.unusedVariables false
set_option linter.unusedSimpArgs false
namespace Go.Proofs.YtdmddoljldjjeaaGreat
open Go Go.Ab
set_option maxHeartbeats 4000000 in
theorem cmp_Compare_int_con (x1 : Int) (y2 : Int) (r3 : Int) (h : cmp_Compare_int x1 y2 = some r3) : Con Tryz.prog 151 [(.int .i64 x1), (.int .i64 y2)] (.int .i64 r3) := by
 refine zP Tryz.call151 Tryz.func151 rfl Tryz.ntmps151 fun X w => ?_
 simp only [cmp_Compare_int] at h
 refine zs (zr ?_)
 refine zU (zl (zn (zs (zr ?_))))
 refine zU ?_
 obtain ⟨r4, h5, h⟩ := zB h
 refine zc (cmp_isNaN_int_con x1 _ h5) ?_
 refine zU (zl (zn (zs (zr ?_))))
 refine zU ?_
 obtain ⟨r6, h7, h⟩ := zB h
 refine zc (cmp_isNaN_int_con y2 _ h7) ?_
 refine zU (zl (zn (zs (zs (zr ?_)))))
 refine zU (zl (zn ?_))
 rcases zI h with ⟨h8, h⟩ | ⟨h8, h⟩
 refine zi (zs (zs (zr ?_)))
 refine zU (zl (zn ?_))
 rcases zI h with ⟨h9, h⟩ | ⟨h9, h⟩
 refine zi (zs (zr ?_))
 refine zU (zl (zn (zq (zt (zt ?_)))))
 cases h
 exact zT Tryz.results151
 refine zj (zk (zn (zs (zr ?_))))
 refine zU (zl (zn (zq (zt ?_))))
 cases h
 exact zT Tryz.results151
 refine zj (zk (zn (zs (zs (zr ?_)))))
 refine zU (zl (zn ?_))
 rcases zI h with ⟨h10, h⟩ | ⟨h10, h⟩
 refine zi (zs (zr ?_))
 refine zU (zl (zn (zq (zt ?_))))
 cases h
 exact zT Tryz.results151
 refine zj (zk (zn (zs (zs (zr ?_)))))
 refine zU (zl (zn ?_))
 rcases zI h with ⟨h11, h⟩ | ⟨h11, h⟩
 refine zi (zs (zr ?_))
 refine zU (zl (zn (zq (zt ?_))))
 cases h
 exact zT Tryz.results151
 refine zj (zk (zn (zs (zs (zr ?_)))))
 refine zU (zl (zn ?_))
 rcases zI h with ⟨h12, h⟩ | ⟨h12, h⟩
 refine zi (zs (zr ?_))
 refine zU (zl (zn (zq (zt ?_))))
 cases h
 exact zT Tryz.results151
 refine zj (zk (zn (zs (zr ?_))))
 refine zU (zl (zn (zq ?_)))
 cases h
 exact zT Tryz.results151
end Go.Proofs.YtdmddoljldjjeaaGreat
namespace Go.Proofs.YtdmddoljldjjeaaGreat
open Go Go.Ab
theorem ext157 (a b : List UInt8) (w : World) : (callFunc 157 #[.string ⟨a.toArray⟩, .string ⟨b.toArray⟩]).run Tryz.prog w = .ok (.value (.int .i64 (Lib.compareBytes a b))) w := by
  rw [run_callFunc_extern Tryz.func157 (by kernel_rfl) (by kernel_rfl) (by kernel_rfl) (e := Extern.BytealgCompare.compare) (by kernel_rfl), Lib.run_compareString]
  rfl
end Go.Proofs.YtdmddoljldjjeaaGreat
set_option linter.unusedVariables false
set_option linter.unusedSimpArgs false
namespace Go.Proofs.YtdmddoljldjjeaaGreat
open Go Go.Ab
set_option maxHeartbeats 4000000 in
theorem bytealg_CompareString_con (a1 : List UInt8) (b2 : List UInt8) (r3 : Int) (h : bytealg_CompareString a1 b2 = some r3) : Con Tryz.prog 156 [(.str a1), (.str b2)] (.int .i64 r3) := by
 refine zP Tryz.call156 Tryz.func156 rfl Tryz.ntmps156 fun X w => ?_
 simp only [bytealg_CompareString] at h
 refine zs (zr ?_)
 refine zU (zl (zn (zs (zr ?_))))
 refine zU ?_
 refine AL_ext2 (ext157 a1 b2) (by simp only [go_sem, seval]; all_goals ((repeat' refine And.intro ?_ ?_) <;> first | rfl | (simp; done) | (simp; rfl) | (simp [*]; done) | (simp [*]; rfl))) (by simp only [go_sem, seval]; all_goals ((repeat' refine And.intro ?_ ?_) <;> first | rfl | (simp; done) | (simp; rfl) | (simp [*]; done) | (simp [*]; rfl))) rfl ?_
 refine zU (zl (zn (zq ?_)))
 cases h
 exact zT Tryz.results156
end Go.Proofs.YtdmddoljldjjeaaGreat
set_option linter.unusedVariables false
set_option linter.unusedSimpArgs false
namespace Go.Proofs.YtdmddoljldjjeaaGreat
open Go Go.Ab
set_option maxHeartbeats 4000000 in
theorem strings_Compare_con (a1 : List UInt8) (b2 : List UInt8) (r3 : Int) (h : strings_Compare a1 b2 = some r3) : Con Tryz.prog 152 [(.str a1), (.str b2)] (.int .i64 r3) := by
 refine zP Tryz.call152 Tryz.func152 rfl Tryz.ntmps152 fun X w => ?_
 simp only [strings_Compare] at h
 refine zs (zr ?_)
 refine zU (zl (zn (zs (zr ?_))))
 refine zU ?_
 obtain ⟨r4, h5, h⟩ := zB h
 refine zc (bytealg_CompareString_con a1 b2 _ h5) ?_
 refine zU (zl (zn (zq ?_)))
 cases h
 exact zT Tryz.results152
end Go.Proofs.YtdmddoljldjjeaaGreat
set_option linter.unusedVariables false
set_option linter.unusedSimpArgs false
namespace Go.Proofs.YtdmddoljldjjeaaGreat
open Go Go.Ab
set_option maxHeartbeats 4000000 in
theorem value_Compare_con (a1 : Value) (b2 : Value) (r3 : Int) (h : value_Compare a1 b2 = some r3) : Con Tryz.prog 139 [(encValue a1), (encValue b2)] (.int .i64 r3) := by
 refine zP Tryz.call139 Tryz.func139 rfl Tryz.ntmps139 fun X w => ?_
 simp only [value_Compare] at h
 refine zs (zr ?_)
 refine zU (zl (zn (zs (zd ?_))))
 refine yU ?_
 obtain ⟨r4, h5, h⟩ := zB h
 refine yc (cmp_Compare_int_con a1.Kind b2.Kind _ h5) ?_
 refine yU ?_
 obtain ⟨r6, h7, h⟩ := zB h
 refine yc (cmp_Compare_int64_con a1.Num b2.Num _ h7) ?_
 refine yU ?_
 obtain ⟨r8, h9, h⟩ := zB h
 refine yc (strings_Compare_con a1.Str b2.Str _ h9) ?_
 refine yU ?_
 obtain ⟨r10, h11, h⟩ := zB h
 refine yc (cmp_Or_int_con [r4, r6, r8] _ h11) ?_
 refine yU ?_
 refine yd (zn (zq ?_))
 cases h
 exact zT Tryz.results139
end Go.Proofs.YtdmddoljldjjeaaGreat
set_option linter.unusedVariables false
set_option linter.unusedSimpArgs false
namespace Go.Proofs.YtdmddoljldjjeaaGreat
open Go Go.Ab
set_option maxHeartbeats 4000000 in
theorem survivor_better_con (l1 : List Value) (v2 : Value) (b3 : Value) (r4 : Int) (r5 : Bool) (h : survivor_better l1 v2 b3 r4 = some r5) : Con Tryz.prog 104 [(.slc (List.map encValue l1)), (encValue v2), (encValue b3), (.int .i64 r4)] (.bool r5) := by
 refine zP Tryz.call104 Tryz.func104 rfl Tryz.ntmps104 fun X w => ?_
 simp only [survivor_better] at h
 refine zs (zr ?_)
 refine zU (zl (zn (zs (zs (zr ?_)))))
 refine zU (zl (zn (zb (zs (zr ?_)))))
 refine zU (zl (zn ?_))
 rcases zI h with ⟨h6, h⟩ | ⟨h6, h⟩
 refine zi (zs (zd ?_))
 refine yU ?_
 obtain ⟨r7, h8, h⟩ := zB h
 refine yc (survivor_count_con l1 v2 _ h8) ?_
 refine yU ?_
 obtain ⟨r9, h10, h⟩ := zB h
 refine yc (survivor_count_con l1 b3 _ h10) ?_
 refine yU ?_
 refine yd (zn (zq (yr (zt ?_))))
 cases h
 exact zT Tryz.results104
 refine zj (zs (zr ?_))
 refine zU (zl (zn ?_))
 rcases zI h with ⟨h11, h⟩ | ⟨h11, h⟩
 refine zi (zs (zr ?_))
 refine zU ?_
 rcases zI h with ⟨h12, h⟩ | ⟨h12, h⟩
 refine zw 24 true ?_
 refine zg ?_
 refine zg ?_
 refine zg ?_
 refine zg ?_
 rcases zI h with ⟨h13, h⟩ | ⟨h13, h⟩
 refine zw 28 true ?_
 refine zh ?_
 refine zg ?_
 refine zU (zl (zn (zq (yr (zt ?_)))))
 cases h
 exact zT Tryz.results104
 refine zw 28 false ?_
 refine zg ?_
 refine zg ?_
 refine zg ?_
 refine zg ?_
 refine zg ?_
 refine zg ?_
 refine zg ?_
 refine zg ?_
 refine zU (zl (zn (zq (yr (zt ?_)))))
 cases h
 exact zT Tryz.results104
 refine zw 24 false ?_
 refine zh ?_
 refine zU (zl (zn (zq (yr (zt ?_)))))
 cases h
 exact zT Tryz.results104
 refine zj (zs (zr ?_))
 refine zU (zl (zn ?_))
 rcases zI h with ⟨h14, h⟩ | ⟨h14, h⟩
 refine zi (zs (zr ?_))
 refine zU ?_
 obtain ⟨r15, h16, h⟩ := zB h
 refine zc (value_Compare_con v2 b3 _ h16) ?_
 refine zU (zl (zn (zq (yr (zt ?_)))))
 cases h
 exact zT Tryz.results104
 refine zj (zs (zr ?_))
 refine zU (zl (zn ?_))
 rcases zI h with ⟨h17, h⟩ | ⟨h17, h⟩
 refine zi (zs (zr ?_))
 refine zU ?_
 obtain ⟨r18, h19, h⟩ := zB h
 refine zc (value_Compare_con v2 b3 _ h19) ?_
 refine zU (zl (zn (zq (yr (zt ?_)))))
 cases h
 exact zT Tryz.results104
 refine zj (zk (yn (zn (zs (zr ?_)))))
 refine zU (zl (zn (zq ?_)))
 cases h
 exact zT Tryz.results104
end Go.Proofs.YtdmddoljldjjeaaGreat
set_option linter.unusedVariables false
set_option linter.unusedSimpArgs false
namespace Go.Proofs.YtdmddoljldjjeaaGreat
open Go Go.Ab
set_option maxHeartbeats 4000000 in
theorem survivor_choose_1_con (r1 : Row) (c2 : Int) (c3 : Value) (r4 : Bool) (h : survivor_choose_1 r1 c2 c3 = some r4) : Con Tryz.prog 105 [(encRow r1), .imm [.int .i64 c2], .imm [.int .i64 c3.Kind, .int .i64 c3.Num, .str c3.Str]] (.bool r4) := by
 refine zP Tryz.call105 Tryz.func105 rfl Tryz.ntmps105 fun X w => ?_
 simp only [survivor_choose_1] at h
 refine zs (zr ?_)
 refine zU (zl (zn (zs (zd ?_))))
 obtain ⟨x5, h6, h6a, h6b, h⟩ := zX h
 refine yU ?_
 refine yd (zn (zq ?_))
 cases h
 exact zT Tryz.results105
end Go.Proofs.YtdmddoljldjjeaaGreat
set_option linter.unusedVariables false
set_option linter.unusedSimpArgs false
namespace Go.Proofs.YtdmddoljldjjeaaGreat
open Go Go.Ab
set_option maxHeartbeats 4000000 in
theorem survivor_choose_con (r1 : List Row) (a2 : Int) (r3 : Int) (r4 : Value × Int) (h : survivor_choose r1 a2 r3 = some r4) : Con Tryz.prog 63 [(.slc (List.map encRow r1)), (.int .i64 a2), (.int .i64 r3)] (.tup [(encValue r4.1), (.int .i64 r4.2)]) := by
 refine zP Tryz.call63 Tryz.func63 rfl Tryz.ntmps63 fun X w => ?_
 simp only [survivor_choose] at h
 refine zs (zr ?_)
 refine zU (zl (zn (zs (zr ?_))))
 refine zU (zl (zn (zs (zs (zr ?_)))))
 refine zU (zl (zn (zb ?_)))
 obtain ⟨l5, h6, h⟩ := zB h
 refine zO (fun (s : List Value × Int) => ⟨[(0, .p (.slc (List.map encRow r1))), (2, .p (.int .i64 r3)), (4, .loc 4 1 0 0), (6, .loc 6 1 0 0), (8, .own 33 1 0 s.1.length), (16, .p (.slc (List.map encRow r1))), (17, .p (.int .i64 (r1.length : Int))), (18, .p (.int .i64 s.2))], [(4, .arr 3 1 1 [.p (.int .i64 a2)]), (6, .arr 64 3 1 [.p (.agg [.int .i64 0, .int .i64 0, .str []])]), (33, .arr 64 3 1 (List.map AV.p (List.map encValue s.1)))]⟩) (fun (o7 : List Value) => tE (cX Tryz.f63 X w) (.exit 0) ⟨[(0, .p (.slc (List.map encRow r1))), (2, .p (.int .i64 r3)), (4, .loc 4 1 0 0), (6, .loc 6 1 0 0), (8, .own 33 1 0 o7.length)], [(4, .arr 3 1 1 [.p (.int .i64 a2)]), (6, .arr 64 3 1 [.p (.agg [.int .i64 0, .int .i64 0, .str []])]), (33, .arr 64 3 1 (List.map AV.p (List.map encValue o7)))]⟩) h6 ?_ ?_
 clear h h6
 intro s x h
 obtain ⟨l8, t9⟩ := s
 simp only [survivor_choose_l1] at h
 dsimp only
 refine zs (zr ?_)
 refine zU (zl (zn (zs ?_)))
 rcases zI h with ⟨h10, h⟩ | ⟨h10, h⟩
 refine zi (zk (zn (zs (zb (zs (zr ?_))))))
 obtain ⟨x11, h12, h12a, h12b, h⟩ := zX h
 refine zU (zl (zn (zs (zr ?_))))
 obtain ⟨x13, h14, h14a, h14b, h⟩ := zX h
 refine zU (zl (zn (zs (zr ?_))))
 refine zU (zl (zn ?_))
 rcases zI h with ⟨h15, h⟩ | ⟨h15, h⟩
 refine zi (zr ?_)
 obtain ⟨h16, h⟩ := ite_some h
 refine zU (zl (yn (zn (zr ?_))))
 refine zU (zl ?_)
 cases h
 exact ⟨rfl, zE⟩
 refine zj (zk (yn (zn (zr ?_))))
 refine zU (zl ?_)
 cases h
 exact ⟨rfl, zE⟩
 refine zj (zx (ze ?_))
 cases h
 exact ⟨rfl, zE⟩
 try simp only at h
 refine zA (yh (zn (zs (zs (zr ?_)))))
 refine zU (zl (zn ?_))
 rcases zI h with ⟨h17, h⟩ | ⟨h17, h⟩
 refine zi (zs (zd ?_))
 obtain ⟨x18, h19, h19l, h19L, h⟩ := zY 0 h
 refine yU ?_
 refine yd (zn (zq (zt ?_)))
 cases h
 exact zT Tryz.results63
 refine zj (zk (zn (zs (zr ?_))))
 obtain ⟨x20, h21, h21l, h21L, h⟩ := zY 0 h
 refine zU (zl (zn (zs (zs (zr ?_)))))
 obtain ⟨h22, h⟩ := ite_some h
 refine zU (zl (zn (zb ?_)))
 obtain ⟨b23, h24, h⟩ := zB h
 refine zO (fun (s : Value × Int) => ⟨[(0, .p (.slc (List.map encRow r1))), (2, .p (.int .i64 r3)), (4, .loc 4 1 0 0), (6, .loc 6 1 0 0), (8, .own 33 1 0 l5.length), (12, .loc 12 1 0 0), (47, .own 33 1 1 (l5.length - 1)), (48, .p (.int .i64 (((l5.length - 1) : Nat) : Int))), (49, .p (.int .i64 s.2))], [(4, .arr 3 1 1 [.p (.int .i64 a2)]), (6, .arr 64 3 1 [.p (.agg [.int .i64 0, .int .i64 0, .str []])]), (12, .arr 64 3 1 [.p (encValue s.1)]), (33, .arr 64 3 1 (List.map AV.p (List.map encValue l5)))]⟩) (fun (o25 : Value) => tE (cX Tryz.f63 X w) (.exit 2) ⟨[(0, .p (.slc (List.map encRow r1))), (4, .loc 4 1 0 0), (6, .loc 6 1 0 0), (12, .loc 12 1 0 0)], [(4, .arr 3 1 1 [.p (.int .i64 a2)]), (6, .arr 64 3 1 [.p (.agg [.int .i64 0, .int .i64 0, .str []])]), (12, .arr 64 3 1 [.p (encValue o25)])]⟩) h24 ?_ ?_
 clear h h6 h17 h21 h21l h21L h22 h24
 intro s x h
 obtain ⟨b26, t27⟩ := s
 simp only [survivor_choose_l2] at h
 dsimp only
 refine zs (zr ?_)
 refine zU (zl (zn (zs ?_)))
 rcases zI h with ⟨h28, h⟩ | ⟨h28, h⟩
 refine zi (zk (zn (zs (zb (zs (zr ?_))))))
 obtain ⟨x29, h30, h30a, h30b, h⟩ := zX h
 obtain ⟨h31, h31n⟩ := part_get h30
 have h31N := eq_true (part_lt h31n h30a)
 refine zU (zl (zn (zs (zr ?_))))
 refine zU ?_
 obtain ⟨r32, h33, h⟩ := zB h
 refine zc (survivor_better_con l5 x29 b26 r3 _ h33) ?_
 refine zl (zn ?_)
 rcases zI h with ⟨h34, h⟩ | ⟨h34, h⟩
 refine zi (zr ?_)
 refine zU (zl (yn (zn (zr ?_))))
 refine zU (zl ?_)
 cases h
 exact ⟨rfl, zE⟩
 refine zj (zk (yn (zn (zr ?_))))
 refine zU (zl ?_)
 cases h
 exact ⟨rfl, zE⟩
 refine zj (zx (ze ?_))
 cases h
 exact ⟨rfl, zE⟩
 try simp only at h
 refine zA (yh (zn (zs (zr ?_))))
 refine zU ?_
 obtain ⟨r35, h36, h⟩ := zB h
 refine zc (slices_IndexFunc_Row_con r1 (fun (y37 : Row) => survivor_choose_1 y37 a2 b23) 105 [.imm [.int .i64 a2], .imm [.int .i64 b23.Kind, .int .i64 b23.Num, .str b23.Str]] (fun y37 r h => survivor_choose_1_con y37 a2 b23 r h) _ h36) ?_
 refine zU (zl (zn (zs (zd ?_))))
 obtain ⟨x38, h39, h39a, h39b, h⟩ := zX h
 refine yU ?_
 refine yd (zn (zq ?_))
 cases h
 exact zT Tryz.results63
end Go.Proofs.YtdmddoljldjjeaaGreat
set_option linter.unusedVariables false
set_option linter.unusedSimpArgs false
namespace Go.Proofs.YtdmddoljldjjeaaGreat
open Go Go.Ab
set_option maxHeartbeats 4000000 in
theorem survivor_Choose_con (r1 : List Row) (a2 : Int) (r3 : Int) (r4 : Value × Int × Int) (h : survivor_Choose r1 a2 r3 = some r4) : Con Tryz.prog 26 [(.slc (List.map encRow r1)), (.int .i64 a2), (.int .i64 r3)] (.tup [(encValue r4.1), (.int .i64 r4.2.1), (.int .i64 r4.2.2)]) := by
 refine zP Tryz.call26 Tryz.func26 rfl Tryz.ntmps26 fun X w => ?_
 simp only [survivor_Choose] at h
 refine zs (zr ?_)
 refine zU (zl (zn (zs (zs (zr ?_)))))
 refine zU ?_
 obtain ⟨r5, h6, h⟩ := zB h
 refine zc (survivor_checkRows_con r1 _ h6) ?_
 refine zU (zl (zn (zs (zr ?_))))
 refine zU (zl (zn ?_))
 rcases zI h with ⟨h7, h⟩ | ⟨h7, h⟩
 refine zi (zs (zr ?_))
 refine zU (zl (zn (zq (zt ?_))))
 cases h
 exact zT Tryz.results26
 refine zj (zk (zn (zs (zs (zr ?_)))))
 refine zU ?_
 rcases zI h with ⟨h8, h⟩ | ⟨h8, h⟩
 refine zw 21 true ?_
 refine zh ?_
 refine zU (zl (zn ?_))
 refine zi (zs (zr ?_))
 refine zU (zl (zn (zq (zt ?_))))
 cases h
 exact zT Tryz.results26
 refine zw 21 false ?_
 refine zg ?_
 refine zg ?_
 obtain ⟨x9, h10, h10l, h10L, h⟩ := zY 0 h
 refine zg ?_
 refine zg ?_
 refine zg ?_
 refine zg ?_
 refine zg ?_
 refine zU (zl (zn ?_))
 rcases zI h with ⟨h11, h⟩ | ⟨h11, h⟩
 refine zi (zs (zr ?_))
 refine zU (zl (zn (zq (zt ?_))))
 cases h
 exact zT Tryz.results26
 refine zj (zk (zn (zs (zs (zr ?_)))))
 refine zU ?_
 obtain ⟨r12, h13, h⟩ := zB h
 refine zc (survivor_checkValues_con r1 _ h13) ?_
 refine zU (zl (zn (zs (zr ?_))))
 refine zU (zl (zn ?_))
 rcases zI h with ⟨h14, h⟩ | ⟨h14, h⟩
 refine zi (zs (zr ?_))
 refine zU (zl (zn (zq (zt ?_))))
 cases h
 exact zT Tryz.results26
 refine zj (zk (zn (zs (zs (zr ?_)))))
 refine zU ?_
 obtain ⟨r15, h16, h⟩ := zB h
 refine zc (survivor_validRule_con r3 _ h16) ?_
 refine zU (zl (zn ?_))
 rcases zI h with ⟨h17, h⟩ | ⟨h17, h⟩
 refine zj (zk (zn (zs (zr ?_))))
 refine zU ?_
 obtain ⟨r18, h19, h⟩ := zB h
 refine zc (survivor_choose_con r1 a2 r3 _ h19) ?_
 refine zU (zl (zn (zs (zr ?_))))
 refine zU (zl (zn (zq ?_)))
 cases h
 exact zT Tryz.results26
 refine zi (zs (zr ?_))
 refine zU (zl (zn (zq (zt ?_))))
 cases h
 exact zT Tryz.results26
end Go.Proofs.YtdmddoljldjjeaaGreat
set_option linter.unusedVariables false
set_option linter.unusedSimpArgs false
namespace Go.Proofs.YtdmddoljldjjeaaGreat
open Go Go.Ab
set_option maxHeartbeats 4000000 in
theorem drosslaw55_example_1_con (s1 : List UInt8) (r2 : Value) (h : drosslaw55_example_1 s1 = some r2) : Con Tryz.prog 64 [(.str s1)] (encValue r2) := by
 refine zP Tryz.call64 Tryz.func64 rfl Tryz.ntmps64 fun X w => ?_
 simp only [drosslaw55_example_1] at h
 refine zs (zr ?_)
 refine zU (zl (zn (zs (zr ?_))))
 refine zU (zl (zn (zq ?_)))
 cases h
 exact zT Tryz.results64
end Go.Proofs.YtdmddoljldjjeaaGreat
set_option linter.unusedVariables false
set_option linter.unusedSimpArgs false
namespace Go.Proofs.YtdmddoljldjjeaaGreat
open Go Go.Ab
set_option maxHeartbeats 4000000 in
theorem drosslaw55_example_2_con (n1 : Int) (r2 : Value) (h : drosslaw55_example_2 n1 = some r2) : Con Tryz.prog 65 [(.int .i64 n1)] (encValue r2) := by
 refine zP Tryz.call65 Tryz.func65 rfl Tryz.ntmps65 fun X w => ?_
 simp only [drosslaw55_example_2] at h
 refine zs (zr ?_)
 refine zU (zl (zn (zs (zr ?_))))
 refine zU (zl (zn (zq ?_)))
 cases h
 exact zT Tryz.results65
end Go.Proofs.YtdmddoljldjjeaaGreat
set_option linter.unusedVariables false
set_option linter.unusedSimpArgs false
namespace Go.Proofs.YtdmddoljldjjeaaGreat
open Go Go.Ab
set_option maxHeartbeats 4000000 in
theorem drosslaw55_example_con  (r1 : List Row) (h : drosslaw55_example = some r1) : Con Tryz.prog 27 [] (.slc (List.map encRow r1)) := by
 refine zP Tryz.call27 Tryz.func27 rfl Tryz.ntmps27 fun X w => ?_
 simp only [drosslaw55_example] at h
 refine zs (zr ?_)
 refine zU (zl (zn (zs (zr ?_))))
 refine zU (zl (zn (zs (zr ?_))))
 refine zU (zl (zn (zs (zr ?_))))
 refine zU ?_
 obtain ⟨r2, h3, h⟩ := zB h
 refine zc (drosslaw55_example_1_con [74, 111] _ h3) ?_
 refine zU ?_
 obtain ⟨r4, h5, h⟩ := zB h
 refine zc (drosslaw55_example_1_con [74, 111, 101] _ h5) ?_
 refine zU ?_
 obtain ⟨r6, h7, h⟩ := zB h
 refine zc (drosslaw55_example_2_con 7 _ h7) ?_
 refine zU ?_
 obtain ⟨r8, h9, h⟩ := zB h
 refine zc (drosslaw55_example_1_con [74, 111] _ h9) ?_
 refine zU ?_
 obtain ⟨r10, h11, h⟩ := zB h
 refine zc (drosslaw55_example_2_con 8 _ h11) ?_
 refine zU (zl (zn (zq ?_)))
 cases h
 exact zT Tryz.results27
end Go.Proofs.YtdmddoljldjjeaaGreat
set_option linter.unusedVariables false
set_option linter.unusedSimpArgs false
namespace Go.Proofs.YtdmddoljldjjeaaGreat
open Go Go.Ab
set_option maxHeartbeats 4000000 in
theorem slices_IndexFunc_int_con (s1 : List Int) (f2 : Int → Option (Bool)) (f2_k : FuncId) (f2_cs : List PV) (f2_h : ∀ (y3 : Int) (r4 : Bool), f2 y3 = some r4 → Con Tryz.prog f2_k ((.int .i64 y3) :: f2_cs) (.bool r4)) (r5 : Int) (h : slices_IndexFunc_int s1 f2 = some r5) : Con Tryz.prog 70 [(.slc (List.map (PV.int .i64) s1)), .func (.func f2_k) f2_cs] (.int .i64 r5) := by
 refine zP Tryz.call70 Tryz.func70 rfl Tryz.ntmps70 fun X w => ?_
 simp only [slices_IndexFunc_int] at h
 refine zs (zr ?_)
 refine zU (zl (zn (zs (zs (zr ?_)))))
 refine zU (zl (zn (zb ?_)))
 obtain ⟨o6, h7, h⟩ := zB h
 refine zO (fun (s : Int) => ⟨[(0, .p (.slc (List.map (PV.int .i64) s1))), (1, .p (.func (.func f2_k) f2_cs)), (7, .p (.int .i64 (s1.length : Int))), (8, .p (.int .i64 s))], []⟩) (fun (o : (Unit) ⊕ (Int)) => match o with | .inl o8 => tE (cX Tryz.f70 X w) (.exit 0) ⟨[], []⟩ | .inr o9 => tR Tryz.prog Tryz.f70 (.int .i64 o9)) h7 ?_ ?_
 clear h h7
 intro t10 x h
 simp only [slices_IndexFunc_int_l1] at h
 refine zs (zr ?_)
 refine zU (zl (zn (zs ?_)))
 rcases zI h with ⟨h11, h⟩ | ⟨h11, h⟩
 refine zi (zk (zn (zs (zb (zs (zr ?_))))))
 refine zU (zl (zn (zs (zr ?_))))
 obtain ⟨x12, h13, h13a, h13b, h⟩ := zX h
 refine zU ?_
 obtain ⟨r14, h15, h⟩ := zB h
 refine zc (f2_h x12 _ h15) ?_
 refine zl (zn ?_)
 rcases zI h with ⟨h16, h⟩ | ⟨h16, h⟩
 refine zi (zs (zr ?_))
 refine zU (zl (zn (zq (yr (zt ?_)))))
 cases h
 exact ⟨rfl, zT Tryz.results70⟩
 refine zj (zk (yn (zn (zr ?_))))
 refine zU (zl ?_)
 cases h
 exact ⟨rfl, zE⟩
 refine zj (zx (ze ?_))
 cases h
 exact ⟨rfl, zE⟩
 rcases o6 with ⟨⟩ | r17
 try simp only at h
 refine zA (yh (zn (zs (zr ?_))))
 refine zU (zl (zn (zq ?_)))
 cases h
 exact zT Tryz.results70
 try simp only at h
 refine zZ fun s hq => ?_
 refine yr (zt ?_)
 cases h
 exact hq
end Go.Proofs.YtdmddoljldjjeaaGreat
set_option linter.unusedVariables false
set_option linter.unusedSimpArgs false
namespace Go.Proofs.YtdmddoljldjjeaaGreat
open Go Go.Ab
set_option maxHeartbeats 4000000 in
theorem slices_ContainsFunc_int_con (s1 : List Int) (f2 : Int → Option (Bool)) (f2_k : FuncId) (f2_cs : List PV) (f2_h : ∀ (y3 : Int) (r4 : Bool), f2 y3 = some r4 → Con Tryz.prog f2_k ((.int .i64 y3) :: f2_cs) (.bool r4)) (r5 : Bool) (h : slices_ContainsFunc_int s1 f2 = some r5) : Con Tryz.prog 31 [(.slc (List.map (PV.int .i64) s1)), .func (.func f2_k) f2_cs] (.bool r5) := by
 refine zP Tryz.call31 Tryz.func31 rfl Tryz.ntmps31 fun X w => ?_
 simp only [slices_ContainsFunc_int] at h
 refine zs (zr ?_)
 refine zU (zl (zn (zs (zr ?_))))
 refine zU ?_
 obtain ⟨r6, h7, h⟩ := zB h
 refine zc (slices_IndexFunc_int_con s1 f2 f2_k f2_cs f2_h _ h7) ?_
 refine zU (zl (zn (zq ?_)))
 cases h
 exact zT Tryz.results31
end Go.Proofs.YtdmddoljldjjeaaGreat
set_option linter.unusedVariables false
set_option linter.unusedSimpArgs false
namespace Go.Proofs.YtdmddoljldjjeaaGreat
open Go Go.Ab
set_option maxHeartbeats 4000000 in
theorem survivor_Merge_1_con (r1 : Int) (r2 : Bool) (h : survivor_Merge_1 r1 = some r2) : Con Tryz.prog 66 [(.int .i64 r1)] (.bool r2) := by
 refine zP Tryz.call66 Tryz.func66 rfl Tryz.ntmps66 fun X w => ?_
 simp only [survivor_Merge_1] at h
 refine zs (zr ?_)
 refine zU (zl (zn (zs (zr ?_))))
 refine zU ?_
 obtain ⟨r3, h4, h⟩ := zB h
 refine zc (survivor_validRule_con r1 _ h4) ?_
 refine zU (zl (zn (zq ?_)))
 cases h
 exact zT Tryz.results66
end Go.Proofs.YtdmddoljldjjeaaGreat
set_option linter.unusedVariables false
set_option linter.unusedSimpArgs false
namespace Go.Proofs.YtdmddoljldjjeaaGreat
open Go Go.Ab
set_option maxHeartbeats 4000000 in
theorem survivor_Merge_con (r1 : List Row) (r2 : List Int) (r3 : Row × List Int × Int) (h : survivor_Merge r1 r2 = some r3) : Con Tryz.prog 28 [(.slc (List.map encRow r1)), (.slc (List.map (PV.int .i64) r2))] (.tup [(encRow r3.1), (.slc (List.map (PV.int .i64) r3.2.1)), (.int .i64 r3.2.2)]) := by
 refine zP Tryz.call28 Tryz.func28 rfl Tryz.ntmps28 fun X w => ?_
 simp only [survivor_Merge] at h
 refine zs (zr ?_)
 refine zU (zl (zn (zs (zs (zr ?_)))))
 refine zU ?_
 obtain ⟨r4, h5, h⟩ := zB h
 refine zc (survivor_checkRows_con r1 _ h5) ?_
 refine zU (zl (zn (zs (zr ?_))))
 refine zU (zl (zn ?_))
 rcases zI h with ⟨h6, h⟩ | ⟨h6, h⟩
 refine zi (zs (zr ?_))
 refine zU (zl (zn (zq (zt ?_))))
 cases h
 exact zT Tryz.results28
 refine zj (zk (zn (zs (zs (zr ?_)))))
 obtain ⟨x7, h8, h8l, h8L, h⟩ := zY 0 h
 refine zU (zl (zn ?_))
 rcases zI h with ⟨h9, h⟩ | ⟨h9, h⟩
 refine zi (zs (zr ?_))
 refine zU (zl (zn (zq (zt ?_))))
 cases h
 exact zT Tryz.results28
 refine zj (zk (zn (zs (zs (zr ?_)))))
 refine zU ?_
 obtain ⟨r10, h11, h⟩ := zB h
 refine zc (survivor_checkValues_con r1 _ h11) ?_
 refine zU (zl (zn (zs (zr ?_))))
 refine zU (zl (zn ?_))
 rcases zI h with ⟨h12, h⟩ | ⟨h12, h⟩
 refine zi (zs (zr ?_))
 refine zU (zl (zn (zq (zt ?_))))
 cases h
 exact zT Tryz.results28
 refine zj (zk (zn (zs (zs (zr ?_)))))
 refine zU ?_
 obtain ⟨r13, h14, h⟩ := zB h
 refine zc (slices_ContainsFunc_int_con r2 (fun (y15 : Int) => survivor_Merge_1 y15) 66 [] (fun y15 r h => survivor_Merge_1_con y15 r h) _ h14) ?_
 refine zl (zn ?_)
 rcases zI h with ⟨h16, h⟩ | ⟨h16, h⟩
 refine zi (zs (zr ?_))
 refine zU (zl (zn (zq (zt ?_))))
 cases h
 exact zT Tryz.results28
 refine zj (zk (zn (zs (zr ?_))))
 refine zU (zl (zn (zs (zr ?_))))
 refine zU (zl (zn (zs (zs (zr ?_)))))
 refine zU (zl (zn (zb ?_)))
 obtain ⟨o17, h18, h⟩ := zB h
 refine zO (fun (s : List Value × List Int × Int) => ⟨[(0, .p (.slc (List.map encRow r1))), (4, .loc 4 1 0 0), (9, .loc 9 1 0 0), (10, .own 67 1 0 s.2.1.length), (44, .p (.slc (List.map (PV.int .i64) r2))), (45, .p (.int .i64 (r2.length : Int))), (46, .p (.int .i64 s.2.2))], [(4, .arr 56 2 1 [.agg [.p (.int .i64 0), .nils]]), (9, .arr 56 2 1 [.agg [.p (.int .i64 x7.ID), .own 62 1 0 s.1.length]]), (62, .arr 64 3 1 (List.map AV.p (List.map encValue s.1))), (67, .arr 2 1 1 (List.map AV.p (List.map (PV.int .i64) s.2.1)))]⟩) (fun (o19 : List Value × List Int) => tE (cX Tryz.f28 X w) (.exit 0) ⟨[(4, .loc 4 1 0 0), (9, .loc 9 1 0 0), (10, .own 67 1 0 o19.2.length)], [(4, .arr 56 2 1 [.agg [.p (.int .i64 0), .nils]]), (9, .arr 56 2 1 [.agg [.p (.int .i64 x7.ID), .own 62 1 0 o19.1.length]]), (62, .arr 64 3 1 (List.map AV.p (List.map encValue o19.1))), (67, .arr 2 1 1 (List.map AV.p (List.map (PV.int .i64) o19.2)))]⟩) h18 ?_ ?_
 clear h h5 h6 h8 h8l h8L h9 h11 h12 h14 h16 h18
 intro s x h
 obtain ⟨o20, o21, t22⟩ := s
 simp only [survivor_Merge_l1] at h
 dsimp only
 refine zs (zr ?_)
 refine zU (zl (zn (zs ?_)))
 rcases zI h with ⟨h23, h⟩ | ⟨h23, h⟩
 refine zi (zk (zn (zs (zb (zs (zr ?_))))))
 obtain ⟨x24, h25, h25a, h25b, h⟩ := zX h
 refine zU (zl (zn (zs (zr ?_))))
 refine zU ?_
 obtain ⟨r26, h27, h⟩ := zB h
 refine zc (survivor_choose_con r1 t22 x24 _ h27) ?_
 refine zU (zl (zn (zs (zr ?_))))
 obtain ⟨h28, h⟩ := ite_some h
 refine zU (zl (zn (zr ?_)))
 obtain ⟨h29, h⟩ := ite_some h
 refine zU (zl (yn (zn (zr ?_))))
 refine zU (zl ?_)
 cases h
 exact ⟨rfl, zE⟩
 refine zj (zx (ze ?_))
 cases h
 exact ⟨rfl, zE⟩
 obtain ⟨o30, o31⟩ := o17
 try simp only at h
 refine zA (yh (zn (zs (zr ?_))))
 refine zU (zl (zn (zq ?_)))
 cases h
 exact zT Tryz.results28
end Go.Proofs.YtdmddoljldjjeaaGreat
set_option linter.unusedVariables false
set_option linter.unusedSimpArgs false
namespace Go.Proofs.YtdmddoljldjjeaaGreat
open Go Go.Ab
set_option maxHeartbeats 4000000 in
theorem drossref03_IDs_con (a1 : List Int) (b2 : List Int) (r3 : Bool) (h : drossref03_IDs a1 b2 = some r3) : Con Tryz.prog 29 [(.slc (List.map (PV.int .i64) a1)), (.slc (List.map (PV.int .i64) b2))] (.bool r3) := by
 refine zP Tryz.call29 Tryz.func29 rfl Tryz.ntmps29 fun X w => ?_
 simp only [drossref03_IDs] at h
 refine zs (zr ?_)
 refine zU (zl (zn (zs (zs (zr ?_)))))
 refine zU (zl (zn ?_))
 rcases zI h with ⟨h4, h⟩ | ⟨h4, h⟩
 refine zi (zs (zr ?_))
 refine zU (zl (zn (zq (zt ?_))))
 cases h
 exact zT Tryz.results29
 refine zj (zk (zn (zs (zs (zr ?_)))))
 refine zU (zl (zn (zb ?_)))
 obtain ⟨o5, h6, h⟩ := zB h
 refine zO (fun (s : Int) => ⟨[(0, .p (.slc (List.map (PV.int .i64) a1))), (1, .p (.slc (List.map (PV.int .i64) b2))), (5, .p (.int .i64 s))], []⟩) (fun (o : (Unit) ⊕ (Bool)) => match o with | .inl o7 => tE (cX Tryz.f29 X w) (.exit 0) ⟨[], []⟩ | .inr o8 => tR Tryz.prog Tryz.f29 (.bool o8)) h6 ?_ ?_
 clear h h4 h6
 intro i9 x h
 simp only [drossref03_IDs_l1] at h
 refine zs (zs (zr ?_))
 refine zU (zl (zn ?_))
 rcases zI h with ⟨h10, h⟩ | ⟨h10, h⟩
 refine zi (zk (zn (zs (zb (zs (zd ?_))))))
 obtain ⟨x11, h12, h12a, h12b, h⟩ := zX h
 obtain ⟨x13, h14, h14a, h14b, h⟩ := zX h
 refine yU ?_
 refine yd (zn ?_)
 rcases zI h with ⟨h15, h⟩ | ⟨h15, h⟩
 refine zi (zs (zr ?_))
 refine zU (zl (zn (zq (yr (zt ?_)))))
 cases h
 exact ⟨rfl, zT Tryz.results29⟩
 refine zj (zk (yn (zn (zr ?_))))
 refine zU (zl ?_)
 cases h
 exact ⟨rfl, zE⟩
 refine zj (zx (ze ?_))
 cases h
 exact ⟨rfl, zE⟩
 rcases o5 with ⟨⟩ | r16
 try simp only at h
 refine zA (yh (zn (zs (zr ?_))))
 refine zU (zl (zn (zq ?_)))
 cases h
 exact zT Tryz.results29
 try simp only at h
 refine zZ fun s hq => ?_
 refine yr (zt ?_)
 cases h
 exact hq
end Go.Proofs.YtdmddoljldjjeaaGreat
set_option linter.unusedVariables false
set_option linter.unusedSimpArgs false
namespace Go.Proofs.YtdmddoljldjjeaaGreat
open Go Go.Ab
set_option maxHeartbeats 4000000 in
theorem drosslaw55_awake_con  (r1 : Bool) (h : drosslaw55_awake = some r1) : Con Tryz.prog 8 [] (.bool r1) := by
 refine zP Tryz.call8 Tryz.func8 rfl Tryz.ntmps8 fun X w => ?_
 simp only [drosslaw55_awake] at h
 refine zs (zr ?_)
 refine zU (zl (zn (zs (zr ?_))))
 obtain ⟨r2, h3, h⟩ := zB h
 refine zc (drosslaw55_example_con  _ h3) ?_
 obtain ⟨r4, h5, h⟩ := zB h
 refine zc (survivor_Choose_con r2 0 3 _ h5) ?_
 refine zU (zl (zn (zs (zr ?_))))
 obtain ⟨r6, h7, h⟩ := zB h
 refine zc (drosslaw55_example_con  _ h7) ?_
 refine zU ?_
 refine zM ⟨[(1, .loc 1 1 0 0), (2, .p (.int .i64 r4.2.1)), (3, .p (.int .i64 r4.2.2)), (14, .p (.slc (List.map encRow r6))), (15, .p (.slc (List.map (PV.int .i64) [2, 1])))], [(1, .arr 64 3 1 [.p (encValue r4.1)])]⟩ ?_
 obtain ⟨r8, h9, h⟩ := zB h
 refine zc (survivor_Merge_con r6 [2, 1] _ h9) ?_
 refine zU (zl (zn (zs (zr ?_))))
 refine zU ?_
 rcases zI h with ⟨h10, h⟩ | ⟨h10, h⟩
 refine zw 22 true ?_
 refine zg ?_
 refine zg ?_
 refine zU ?_
 rcases zI h with ⟨h11, h⟩ | ⟨h11, h⟩
 refine zw 26 true ?_
 refine zg ?_
 refine zg ?_
 refine zg ?_
 refine zU ?_
 rcases zI h with ⟨h12, h⟩ | ⟨h12, h⟩
 refine zw 31 true ?_
 refine zg ?_
 refine zg ?_
 refine zU ?_
 rcases zI h with ⟨h13, h⟩ | ⟨h13, h⟩
 refine zw 35 true ?_
 refine zg ?_
 refine zg ?_
 refine zg ?_
 refine zU ?_
 rcases zI h with ⟨h14, h⟩ | ⟨h14, h⟩
 refine zw 40 true ?_
 refine zg ?_
 refine zg ?_
 obtain ⟨x15, h16, h16l, h16L, h⟩ := zY 0 h
 refine zg ?_
 refine zg ?_
 refine zg ?_
 refine zg ?_
 refine zU ?_
 rcases zI h with ⟨h17, h⟩ | ⟨h17, h⟩
 refine zw 48 true ?_
 refine zg ?_
 refine zg ?_
 obtain ⟨x18, h19, h19l, h19L, h⟩ := zY 1 h
 refine zg ?_
 refine zg ?_
 refine zg ?_
 refine zg ?_
 refine zU ?_
 rcases zI h with ⟨h20, h⟩ | ⟨h20, h⟩
 refine zw 56 true ?_
 refine zg ?_
 refine zg ?_
 obtain ⟨r21, h22, h⟩ := zB h
 refine zc (drossref03_IDs_con r8.2.1 [3, 4] _ h22) ?_
 refine zU (zl (zn (zq ?_)))
 cases h
 exact zT Tryz.results8
 refine zw 56 false ?_
 refine zh ?_
 refine zU (zl (zn (zq ?_)))
 cases h
 exact zT Tryz.results8
 refine zw 48 false ?_
 refine zh ?_
 refine zU ?_
 refine zh ?_
 refine zU (zl (zn (zq ?_)))
 cases h
 exact zT Tryz.results8
 refine zw 40 false ?_
 refine zh ?_
 refine zU ?_
 refine zh ?_
 refine zU ?_
 refine zh ?_
 refine zU (zl (zn (zq ?_)))
 cases h
 exact zT Tryz.results8
 refine zw 35 false ?_
 refine zh ?_
 refine zU ?_
 refine zh ?_
 refine zU ?_
 refine zh ?_
 refine zU ?_
 refine zh ?_
 refine zU (zl (zn (zq ?_)))
 cases h
 exact zT Tryz.results8
 refine zw 31 false ?_
 refine zh ?_
 refine zU ?_
 refine zh ?_
 refine zU ?_
 refine zh ?_
 refine zU ?_
 refine zh ?_
 refine zU ?_
 refine zh ?_
 refine zU (zl (zn (zq ?_)))
 cases h
 exact zT Tryz.results8
 refine zw 26 false ?_
 refine zh ?_
 refine zU ?_
 refine zh ?_
 refine zU ?_
 refine zh ?_
 refine zU ?_
 refine zh ?_
 refine zU ?_
 refine zh ?_
 refine zU ?_
 refine zh ?_
 refine zU (zl (zn (zq ?_)))
 cases h
 exact zT Tryz.results8
 refine zw 22 false ?_
 refine zh ?_
 refine zU ?_
 refine zh ?_
 refine zU ?_
 refine zh ?_
 refine zU ?_
 refine zh ?_
 refine zU ?_
 refine zh ?_
 refine zU ?_
 refine zh ?_
 refine zU ?_
 refine zh ?_
 refine zU (zl (zn (zq ?_)))
 cases h
 exact zT Tryz.results8
end Go.Proofs.YtdmddoljldjjeaaGreat
set_option linter.unusedVariables false
set_option linter.unusedSimpArgs false
namespace Go.Proofs.YtdmddoljldjjeaaGreat
open Go Go.Ab
set_option maxHeartbeats 4000000 in
theorem table_isName_con (s1 : List UInt8) (r2 : Bool) (h : table_isName s1 = some r2) : Con Tryz.prog 67 [(.str s1)] (.bool r2) := by
 refine zP Tryz.call67 Tryz.func67 rfl Tryz.ntmps67 fun X w => ?_
 simp only [table_isName] at h
 refine zs (zr ?_)
 refine zU (zl (zn (zs (zs (zr ?_)))))
 refine zU ?_
 rcases zI h with ⟨h3, h⟩ | ⟨h3, h⟩
 refine zw 8 true ?_
 refine zh ?_
 refine zU ?_
 refine zh ?_
 refine zU (zl (zn ?_))
 refine zi (zs (zr ?_))
 refine zU (zl (zn (zq (zt ?_))))
 cases h
 exact zT Tryz.results67
 refine zw 8 false ?_
 refine zg ?_
 refine zg ?_
 refine zg ?_
 refine zU ?_
 rcases zI h with ⟨h4, h⟩ | ⟨h4, h⟩
 refine zw 13 true ?_
 refine zh ?_
 refine zU (zl (zn ?_))
 refine zi (zs (zr ?_))
 refine zU (zl (zn (zq (zt ?_))))
 cases h
 exact zT Tryz.results67
 refine zw 13 false ?_
 refine zg ?_
 refine zg ?_
 refine zU (zl (zn ?_))
 rcases zI h with ⟨h5, h⟩ | ⟨h5, h⟩
 refine zi (zs (zr ?_))
 refine zU (zl (zn (zq (zt ?_))))
 cases h
 exact zT Tryz.results67
 refine zj (zk (zn (zs (zs (zr ?_)))))
 refine zU (zl (zn (zb ?_)))
 obtain ⟨o6, h7, h⟩ := zB h
 refine zO (fun (s : Int) => ⟨[(0, .p (.str s1)), (18, .p (.int .i64 (s1.length : Int))), (19, .p (.int .i64 s))], []⟩) (fun (o : (Unit) ⊕ (Bool)) => match o with | .inl o8 => tE (cX Tryz.f67 X w) (.exit 0) ⟨[], []⟩ | .inr o9 => tR Tryz.prog Tryz.f67 (.bool o9)) h7 ?_ ?_
 clear h h3 h4 h5 h7
 intro t10 x h
 simp only [table_isName_l1] at h
 refine zs (zr ?_)
 refine zU (zl (zn (zs ?_)))
 rcases zI h with ⟨h11, h⟩ | ⟨h11, h⟩
 refine zi (zk (zn (zs (zb (zs (zr ?_))))))
 refine zU (zl (zn (zs (zr ?_))))
 obtain ⟨c12, h13, h13a, h13b, h⟩ := zX h
 refine zU (zl (zn ?_))
 obtain ⟨l14, h15, h⟩ := zB h
 refine zJ (fun (o16 : Bool) => tE (cX Tryz.f67 X w) .normal ⟨[(0, .p (.str s1)), (3, .p (.int .i64 t10)), (4, .p (.int .u8 ((c12.toNat : Nat) : Int))), (5, .p (.bool o16)), (18, .p (.int .i64 (s1.length : Int))), (19, .p (.int .i64 t10))], []⟩) l14 ?_ ?_
 replace h := h15
 clear h15
 refine zr ?_
 refine zU ?_
 rcases zI h with ⟨h17, h⟩ | ⟨h17, h⟩
 refine zw 27 true ?_
 refine zg ?_
 refine zg ?_
 refine zU ?_
 rcases zI h with ⟨h18, h⟩ | ⟨h18, h⟩
 refine zw 31 true ?_
 refine zh ?_
 refine zU ?_
 refine zh ?_
 refine zU (zl ?_)
 cases h
 exact ⟨rfl, zE⟩
 refine zw 31 false ?_
 refine zg ?_
 refine zg ?_
 refine zg ?_
 rcases zI h with ⟨h19, h⟩ | ⟨h19, h⟩
 refine zw 34 true ?_
 refine zg ?_
 refine zg ?_
 refine zg ?_
 refine zU ?_
 rcases zI h with ⟨h20, h⟩ | ⟨h20, h⟩
 refine zw 39 true ?_
 refine zh ?_
 refine zU (zl ?_)
 cases h
 exact ⟨rfl, zE⟩
 refine zw 39 false ?_
 refine zg ?_
 refine zg ?_
 refine zU (zl ?_)
 cases h
 exact ⟨rfl, zE⟩
 refine zw 34 false ?_
 refine zh ?_
 refine zg ?_
 refine zU ?_
 refine zg ?_
 refine zg ?_
 refine zU (zl ?_)
 cases h
 exact ⟨rfl, zE⟩
 refine zw 27 false ?_
 refine zh ?_
 refine zU ?_
 refine zg ?_
 refine zg ?_
 refine zg ?_
 rcases zI h with ⟨h21, h⟩ | ⟨h21, h⟩
 refine zw 34 true ?_
 refine zg ?_
 refine zg ?_
 refine zg ?_
 refine zU ?_
 rcases zI h with ⟨h22, h⟩ | ⟨h22, h⟩
 refine zw 39 true ?_
 refine zh ?_
 refine zU (zl ?_)
 cases h
 exact ⟨rfl, zE⟩
 refine zw 39 false ?_
 refine zg ?_
 refine zg ?_
 refine zU (zl ?_)
 cases h
 exact ⟨rfl, zE⟩
 refine zw 34 false ?_
 refine zh ?_
 refine zg ?_
 refine zU ?_
 refine zg ?_
 refine zg ?_
 refine zU (zl ?_)
 cases h
 exact ⟨rfl, zE⟩
 try simp only at h
 refine zA (zn (zs (zr ?_)))
 refine zU ?_
 rcases zI h with ⟨h23, h⟩ | ⟨h23, h⟩
 refine zw 45 false ?_
 refine zh ?_
 refine zU (zl (zn ?_))
 refine zj (zk (yn (zn (zr ?_))))
 refine zU (zl ?_)
 cases h
 exact ⟨rfl, zE⟩
 refine zw 45 true ?_
 refine zg ?_
 refine zg ?_
 refine zg ?_
 rcases zI h with ⟨h24, h⟩ | ⟨h24, h⟩
 refine zw 48 true ?_
 refine zh ?_
 refine zg ?_
 refine zg ?_
 refine zh ?_
 refine zg ?_
 refine zU (zl (zn ?_))
 refine zi (zs (zr ?_))
 refine zU (zl (zn (zq (yr (zt ?_)))))
 cases h
 exact ⟨rfl, zT Tryz.results67⟩
 refine zw 48 false ?_
 refine zg ?_
 refine zg ?_
 refine zg ?_
 refine zg ?_
 rcases zI h with ⟨h25, h⟩ | ⟨h25, h⟩
 refine zw 52 true ?_
 refine zh ?_
 refine zg ?_
 refine zU (zl (zn ?_))
 refine zi (zs (zr ?_))
 refine zU (zl (zn (zq (yr (zt ?_)))))
 cases h
 exact ⟨rfl, zT Tryz.results67⟩
 refine zw 52 false ?_
 refine zg ?_
 refine zg ?_
 refine zg ?_
 refine zU (zl (zn ?_))
 rcases zI h with ⟨h26, h⟩ | ⟨h26, h⟩
 refine zi (zs (zr ?_))
 refine zU (zl (zn (zq (yr (zt ?_)))))
 cases h
 exact ⟨rfl, zT Tryz.results67⟩
 refine zj (zk (yn (zn (zr ?_))))
 refine zU (zl ?_)
 cases h
 exact ⟨rfl, zE⟩
 refine zj (zx (ze ?_))
 cases h
 exact ⟨rfl, zE⟩
 rcases o6 with ⟨⟩ | r27
 try simp only at h
 refine zA (yh (zn (zs (zr ?_))))
 refine zU (zl (zn (zq ?_)))
 cases h
 exact zT Tryz.results67
 try simp only at h
 refine zZ fun s hq => ?_
 refine yr (zt ?_)
 cases h
 exact hq
end Go.Proofs.YtdmddoljldjjeaaGreat
set_option linter.unusedVariables false
set_option linter.unusedSimpArgs false
namespace Go.Proofs.YtdmddoljldjjeaaGreat
open Go Go.Ab
set_option maxHeartbeats 4000000 in
theorem slices_Index_string_con (s1 : List (List UInt8)) (v2 : List UInt8) (r3 : Int) (h : slices_Index_string s1 v2 = some r3) : Con Tryz.prog 106 [(.slc (List.map PV.str s1)), (.str v2)] (.int .i64 r3) := by
 refine zP Tryz.call106 Tryz.func106 rfl Tryz.ntmps106 fun X w => ?_
 simp only [slices_Index_string] at h
 refine zs (zr ?_)
 refine zU (zl (zn (zs (zs (zr ?_)))))
 refine zU (zl (zn (zb ?_)))
 obtain ⟨o4, h5, h⟩ := zB h
 refine zO (fun (s : Int) => ⟨[(0, .p (.slc (List.map PV.str s1))), (1, .p (.str v2)), (7, .p (.int .i64 (s1.length : Int))), (8, .p (.int .i64 s))], []⟩) (fun (o : (Unit) ⊕ (Int)) => match o with | .inl o6 => tE (cX Tryz.f106 X w) (.exit 0) ⟨[], []⟩ | .inr o7 => tR Tryz.prog Tryz.f106 (.int .i64 o7)) h5 ?_ ?_
 clear h h5
 intro t8 x h
 simp only [slices_Index_string_l1] at h
 refine zs (zr ?_)
 refine zU (zl (zn (zs ?_)))
 rcases zI h with ⟨h9, h⟩ | ⟨h9, h⟩
 refine zi (zk (zn (zs (zb (zs (zr ?_))))))
 refine zU (zl (zn (zs (zr ?_))))
 obtain ⟨x10, h11, h11a, h11b, h⟩ := zX h
 refine zU (zl (zn ?_))
 rcases zI h with ⟨h12, h⟩ | ⟨h12, h⟩
 refine zi (zs (zr ?_))
 refine zU (zl (zn (zq (yr (zt ?_)))))
 cases h
 exact ⟨rfl, zT Tryz.results106⟩
 refine zj (zk (yn (zn (zr ?_))))
 refine zU (zl ?_)
 cases h
 exact ⟨rfl, zE⟩
 refine zj (zx (ze ?_))
 cases h
 exact ⟨rfl, zE⟩
 rcases o4 with ⟨⟩ | r13
 try simp only at h
 refine zA (yh (zn (zs (zr ?_))))
 refine zU (zl (zn (zq ?_)))
 cases h
 exact zT Tryz.results106
 try simp only at h
 refine zZ fun s hq => ?_
 refine yr (zt ?_)
 cases h
 exact hq
end Go.Proofs.YtdmddoljldjjeaaGreat
set_option linter.unusedVariables false
set_option linter.unusedSimpArgs false
namespace Go.Proofs.YtdmddoljldjjeaaGreat
open Go Go.Ab
set_option maxHeartbeats 4000000 in
theorem slices_Contains_string_con (s1 : List (List UInt8)) (v2 : List UInt8) (r3 : Bool) (h : slices_Contains_string s1 v2 = some r3) : Con Tryz.prog 68 [(.slc (List.map PV.str s1)), (.str v2)] (.bool r3) := by
 refine zP Tryz.call68 Tryz.func68 rfl Tryz.ntmps68 fun X w => ?_
 simp only [slices_Contains_string] at h
 refine zs (zr ?_)
 refine zU (zl (zn (zs (zr ?_))))
 refine zU ?_
 obtain ⟨r4, h5, h⟩ := zB h
 refine zc (slices_Index_string_con s1 v2 _ h5) ?_
 refine zU (zl (zn (zq ?_)))
 cases h
 exact zT Tryz.results68
end Go.Proofs.YtdmddoljldjjeaaGreat
set_option linter.unusedVariables false
set_option linter.unusedSimpArgs false
namespace Go.Proofs.YtdmddoljldjjeaaGreat
open Go Go.Ab
set_option maxHeartbeats 4000000 in
theorem table_validValues_1_con (v1 : Value) (r2 : Bool) (h : table_validValues_1 v1 = some r2) : Con Tryz.prog 107 [(encValue v1)] (.bool r2) := by
 refine zP Tryz.call107 Tryz.func107 rfl Tryz.ntmps107 fun X w => ?_
 simp only [table_validValues_1] at h
 refine zs (zr ?_)
 refine zU (zl (zn (zs (zr ?_))))
 refine zU ?_
 obtain ⟨r3, h4, h⟩ := zB h
 refine zc (value_Valid_con v1 _ h4) ?_
 refine zU (zl (zn (zq ?_)))
 cases h
 exact zT Tryz.results107
end Go.Proofs.YtdmddoljldjjeaaGreat
set_option linter.unusedVariables false
set_option linter.unusedSimpArgs false
namespace Go.Proofs.YtdmddoljldjjeaaGreat
open Go Go.Ab
set_option maxHeartbeats 4000000 in
theorem table_validValues_con (l1 : List Value) (r2 : Bool) (h : table_validValues l1 = some r2) : Con Tryz.prog 69 [(.slc (List.map encValue l1))] (.bool r2) := by
 refine zP Tryz.call69 Tryz.func69 rfl Tryz.ntmps69 fun X w => ?_
 simp only [table_validValues] at h
 refine zs (zr ?_)
 refine zU (zl (zn (zs (zr ?_))))
 refine zU ?_
 obtain ⟨r3, h4, h⟩ := zB h
 refine zc (slices_ContainsFunc_Value_con l1 (fun (y5 : Value) => table_validValues_1 y5) 107 [] (fun y5 r h => table_validValues_1_con y5 r h) _ h4) ?_
 refine zU (zl (zn (zq ?_)))
 cases h
 exact zT Tryz.results69
end Go.Proofs.YtdmddoljldjjeaaGreat
set_option linter.unusedVariables false
set_option linter.unusedSimpArgs false
namespace Go.Proofs.YtdmddoljldjjeaaGreat
open Go Go.Ab
set_option maxHeartbeats 4000000 in
theorem table_Valid_con (t1 : Table) (r2 : Int) (h : table_Valid t1 = some r2) : Con Tryz.prog 30 [(encTable t1)] (.int .i64 r2) := by
 refine zP Tryz.call30 Tryz.func30 rfl Tryz.ntmps30 fun X w => ?_
 simp only [table_Valid] at h
 refine zs (zr ?_)
 refine zU (zl (zn (zs (zs (zr ?_)))))
 refine zU ?_
 obtain ⟨r3, h4, h⟩ := zB h
 refine zc (table_isName_con t1.Name _ h4) ?_
 refine zU (zl (zn ?_))
 rcases zI h with ⟨h5, h⟩ | ⟨h5, h⟩
 refine zj (zk (zn (zs (zs (zr ?_)))))
 refine zU ?_
 rcases zI h with ⟨h6, h⟩ | ⟨h6, h⟩
 refine zw 16 true ?_
 refine zh ?_
 refine zU (zl (zn ?_))
 refine zi (zs (zr ?_))
 refine zU (zl (zn (zq (zt ?_))))
 cases h
 exact zT Tryz.results30
 refine zw 16 false ?_
 refine zg ?_
 refine zg ?_
 refine zg ?_
 refine zg ?_
 refine zU (zl (zn ?_))
 rcases zI h with ⟨h7, h⟩ | ⟨h7, h⟩
 refine zi (zs (zr ?_))
 refine zU (zl (zn (zq (zt ?_))))
 cases h
 exact zT Tryz.results30
 refine zj (zk (zn (zs (zs (zr ?_)))))
 refine zU (zl (zn (zb ?_)))
 obtain ⟨o8, h9, h⟩ := zB h
 refine zO (fun (s : Int) => ⟨[(1, .loc 1 1 0 0), (23, .p (.slc (List.map PV.str t1.Attrs))), (24, .p (.int .i64 (t1.Attrs.length : Int))), (25, .p (.int .i64 s))], [(1, .arr 25 3 1 [.p (encTable t1)])]⟩) (fun (o : (Unit) ⊕ (Int)) => match o with | .inl o10 => tE (cX Tryz.f30 X w) (.exit 0) ⟨[(1, .loc 1 1 0 0)], [(1, .arr 25 3 1 [.p (encTable t1)])]⟩ | .inr o11 => tR Tryz.prog Tryz.f30 (.int .i64 o11)) h9 ?_ ?_
 clear h h4 h5 h6 h7 h9
 intro t12 x h
 simp only [table_Valid_l1] at h
 refine zs (zr ?_)
 refine zU (zl (zn (zs ?_)))
 rcases zI h with ⟨h13, h⟩ | ⟨h13, h⟩
 refine zi (zk (zn (zs (zb (zs (zr ?_))))))
 obtain ⟨x14, h15, h15a, h15b, h⟩ := zX h
 refine zU (zl (zn (zs (zr ?_))))
 refine zU ?_
 obtain ⟨r16, h17, h⟩ := zB h
 refine zc (table_isName_con x14 _ h17) ?_
 refine zU ?_
 rcases zI h with ⟨h18, h⟩ | ⟨h18, h⟩
 refine zw 33 false ?_
 refine zg ?_
 refine zg ?_
 refine zg ?_
 obtain ⟨h19, h⟩ := ite_some h
 obtain ⟨h20, h⟩ := ite_some h
 refine zg ?_
 refine zg ?_
 obtain ⟨r21, h22, h⟩ := zB h
 refine zc (slices_Contains_string_con (t1.Attrs.take (t12.toNat)) x14 _ h22) ?_
 refine zU (zl (zn ?_))
 rcases zI h with ⟨h23, h⟩ | ⟨h23, h⟩
 refine zi (zs (zr ?_))
 refine zU (zl (zn (zq (yr (zt ?_)))))
 cases h
 exact ⟨rfl, zT Tryz.results30⟩
 refine zj (zk (yn (zn (zr ?_))))
 refine zU (zl ?_)
 cases h
 exact ⟨rfl, zE⟩
 refine zw 33 true ?_
 refine zh ?_
 refine zU (zl (zn ?_))
 refine zi (zs (zr ?_))
 refine zU (zl (zn (zq (yr (zt ?_)))))
 cases h
 exact ⟨rfl, zT Tryz.results30⟩
 refine zj (zx (ze ?_))
 cases h
 exact ⟨rfl, zE⟩
 rcases o8 with ⟨⟩ | r24
 try simp only at h
 refine zA (yh (zn (zs (zr ?_))))
 refine zU (zl (zn (zs (zs (zr ?_)))))
 refine zU (zl (zn (zb ?_)))
 obtain ⟨o25, h26, h⟩ := zB h
 refine zO (fun (s : Int × Int) => ⟨[(1, .loc 1 1 0 0), (5, .p (.int .i64 s.1)), (43, .p (.slc (List.map encRow t1.Rows))), (44, .p (.int .i64 (t1.Rows.length : Int))), (45, .p (.int .i64 s.2))], [(1, .arr 25 3 1 [.p (encTable t1)])]⟩) (fun (o : (Unit) ⊕ (Int)) => match o with | .inl o27 => tE (cX Tryz.f30 X w) (.exit 2) ⟨[], []⟩ | .inr o28 => tR Tryz.prog Tryz.f30 (.int .i64 o28)) h26 ?_ ?_
 clear h h4 h5 h6 h7 h9 h26
 intro s x h
 obtain ⟨l29, t30⟩ := s
 simp only [table_Valid_l2] at h
 dsimp only
 refine zs (zr ?_)
 refine zU (zl (zn (zs ?_)))
 rcases zI h with ⟨h31, h⟩ | ⟨h31, h⟩
 refine zi (zk (zn (zs (zb (zs (zr ?_))))))
 obtain ⟨x32, h33, h33a, h33b, h⟩ := zX h
 refine zU (zl (zn (zs (zb (zs (zr ?_))))))
 refine zU (zl (zn ?_))
 rcases zI h with ⟨h34, h⟩ | ⟨h34, h⟩
 refine zi (zs (zr ?_))
 refine zU (zl (zn (zq (yr (zt (yr (zt ?_)))))))
 cases h
 exact ⟨rfl, zT Tryz.results30⟩
 refine zj (zs (zr ?_))
 refine zU (zl (zn ?_))
 rcases zI h with ⟨h35, h⟩ | ⟨h35, h⟩
 refine zi (zs (zr ?_))
 refine zU (zl (zn (zq (yr (zt (yr (zt ?_)))))))
 cases h
 exact ⟨rfl, zT Tryz.results30⟩
 refine zj (zs (zr ?_))
 refine zU ?_
 obtain ⟨r36, h37, h⟩ := zB h
 refine zc (table_validValues_con x32.Values _ h37) ?_
 refine zU (zl (zn ?_))
 rcases zI h with ⟨h38, h⟩ | ⟨h38, h⟩
 refine zj (zk (yn (zn (zr ?_))))
 refine zU (zl (yn (zn (zr ?_))))
 refine zU (zl ?_)
 cases h
 exact ⟨rfl, zE⟩
 refine zi (zs (zr ?_))
 refine zU (zl (zn (zq (yr (zt (yr (zt ?_)))))))
 cases h
 exact ⟨rfl, zT Tryz.results30⟩
 refine zj (zx (ze ?_))
 cases h
 exact ⟨rfl, zE⟩
 rcases o25 with ⟨⟩ | r39
 try simp only at h
 refine zA (yh (zn (zs (zr ?_))))
 refine zU (zl (zn (zq ?_)))
 cases h
 exact zT Tryz.results30
 try simp only at h
 refine zZ fun s hq => ?_
 refine yr (zt ?_)
 cases h
 exact hq
 try simp only at h
 refine zZ fun s hq => ?_
 refine yr (zt ?_)
 cases h
 exact hq
 refine zi (zs (zr ?_))
 refine zU (zl (zn (zq (zt ?_))))
 cases h
 exact zT Tryz.results30
end Go.Proofs.YtdmddoljldjjeaaGreat
set_option linter.unusedVariables false
set_option linter.unusedSimpArgs false
namespace Go.Proofs.YtdmddoljldjjeaaGreat
open Go Go.Ab
set_option maxHeartbeats 4000000 in
theorem survivor_Table_1_con (r1 : Int) (r2 : Bool) (h : survivor_Table_1 r1 = some r2) : Con Tryz.prog 32 [(.int .i64 r1)] (.bool r2) := by
 refine zP Tryz.call32 Tryz.func32 rfl Tryz.ntmps32 fun X w => ?_
 simp only [survivor_Table_1] at h
 refine zs (zr ?_)
 refine zU (zl (zn (zs (zr ?_))))
 refine zU ?_
 obtain ⟨r3, h4, h⟩ := zB h
 refine zc (survivor_validRule_con r1 _ h4) ?_
 refine zU (zl (zn (zq ?_)))
 cases h
 exact zT Tryz.results32
end Go.Proofs.YtdmddoljldjjeaaGreat
set_option linter.unusedVariables false
set_option linter.unusedSimpArgs false
namespace Go.Proofs.YtdmddoljldjjeaaGreat
open Go Go.Ab
set_option maxHeartbeats 4000000 in
theorem survivor_ascending_con (l1 : List Int) (r2 : Bool) (h : survivor_ascending l1 = some r2) : Con Tryz.prog 108 [(.slc (List.map (PV.int .i64) l1))] (.bool r2) := by
 refine zP Tryz.call108 Tryz.func108 rfl Tryz.ntmps108 fun X w => ?_
 simp only [survivor_ascending] at h
 refine zs (zr ?_)
 refine zU (zl (zn (zs (zs (zr ?_)))))
 refine zU (zl (zn (zb ?_)))
 obtain ⟨o3, h4, h⟩ := zB h
 refine zO (fun (s : Int) => ⟨[(0, .p (.slc (List.map (PV.int .i64) l1))), (3, .p (.int .i64 s))], []⟩) (fun (o : (Unit) ⊕ (Bool)) => match o with | .inl o5 => tE (cX Tryz.f108 X w) (.exit 0) ⟨[(0, .p (.slc (List.map (PV.int .i64) l1)))], []⟩ | .inr o6 => tR Tryz.prog Tryz.f108 (.bool o6)) h4 ?_ ?_
 clear h h4
 intro i7 x h
 simp only [survivor_ascending_l1] at h
 refine zs (zs (zr ?_))
 refine zU (zl (zn ?_))
 rcases zI h with ⟨h8, h⟩ | ⟨h8, h⟩
 refine zi (zk (zn (zs (zb (zs (zd ?_))))))
 obtain ⟨x9, h10, h10a, h10b, h⟩ := zX h
 obtain ⟨x11, h12, h12a, h12b, h⟩ := zX h
 refine yU ?_
 refine yd (zn ?_)
 rcases zI h with ⟨h13, h⟩ | ⟨h13, h⟩
 refine zi (zs (zr ?_))
 refine zU (zl (zn (zq (yr (zt ?_)))))
 cases h
 exact ⟨rfl, zT Tryz.results108⟩
 refine zj (zk (yn (zn (zr ?_))))
 refine zU (zl ?_)
 cases h
 exact ⟨rfl, zE⟩
 refine zj (zx (ze ?_))
 cases h
 exact ⟨rfl, zE⟩
 rcases o3 with ⟨⟩ | r14
 try simp only at h
 refine zA (yh (zn (zs (zr ?_))))
 refine zU (zl (zn (zq ?_)))
 cases h
 exact zT Tryz.results108
 try simp only at h
 refine zZ fun s hq => ?_
 refine yr (zt ?_)
 cases h
 exact hq
end Go.Proofs.YtdmddoljldjjeaaGreat
set_option linter.unusedVariables false
set_option linter.unusedSimpArgs false
namespace Go.Proofs.YtdmddoljldjjeaaGreat
open Go Go.Ab
set_option maxHeartbeats 4000000 in
theorem survivor_disjoint_con (c1 : List (List Int)) (r2 : (List (Int × Bool)) × Bool) (h : survivor_disjoint c1 = some r2) : Con Tryz.prog 71 [(.slc (List.map (encL (PV.int .i64)) c1))] (.tup [(.mapv (encK (PV.int .i64) r2.1) (encW PV.bool r2.1)), (.bool r2.2)]) := by
 refine zP Tryz.call71 Tryz.func71 rfl Tryz.ntmps71 fun X w => ?_
 simp only [survivor_disjoint] at h
 refine zs (zr ?_)
 refine zU (zl (zn (zs (zr ?_))))
 refine zU (zl (zn (zs (zs (zr ?_)))))
 refine zU (zl (zn (zb ?_)))
 obtain ⟨o3, h4, h⟩ := zB h
 refine zO (fun (s : (List (Int × Bool)) × Int) => ⟨[(4, .mapo 9 1), (10, .p (.slc (List.map (encL (PV.int .i64)) c1))), (11, .p (.int .i64 (c1.length : Int))), (12, .p (.int .i64 s.2))], [(9, .map 1 (List.map AV.p (encK (PV.int .i64) s.1)) (List.map AV.p (encW PV.bool s.1)))]⟩) (fun (o : ((List (Int × Bool))) ⊕ ((List (Int × Bool)) × Bool)) => match o with | .inl o5 => tE (cX Tryz.f71 X w) (.exit 0) ⟨[(4, .mapo 9 1)], [(9, .map 1 (List.map AV.p (encK (PV.int .i64) o5)) (List.map AV.p (encW PV.bool o5)))]⟩ | .inr o6 => tR Tryz.prog Tryz.f71 (.tup [(.mapv (encK (PV.int .i64) o6.1) (encW PV.bool o6.1)), (.bool o6.2)])) h4 ?_ ?_
 clear h h4
 intro s x h
 obtain ⟨s7, t8⟩ := s
 simp only [survivor_disjoint_l4] at h
 dsimp only
 refine zs (zr ?_)
 refine zU (zl (zn (zs ?_)))
 rcases zI h with ⟨h9, h⟩ | ⟨h9, h⟩
 refine zi (zk (zn (zs (zb (zs (zr ?_))))))
 obtain ⟨x10, h11, h11a, h11b, h⟩ := zX h
 refine zU (zl (zn (zs (zs (zr ?_)))))
 refine zU ?_
 obtain ⟨r12, h13, h⟩ := zB h
 refine zc (survivor_ascending_con x10 _ h13) ?_
 refine zU (zl (zn ?_))
 rcases zI h with ⟨h14, h⟩ | ⟨h14, h⟩
 refine zj (zk (zn (zs (zr ?_))))
 refine zU (zl (zn (zb ?_)))
 obtain ⟨o15, h16, h⟩ := zB h
 refine zO (fun (s : (List (Int × Bool)) × Int) => ⟨[(4, .mapo 9 1), (10, .p (.slc (List.map (encL (PV.int .i64)) c1))), (11, .p (.int .i64 (c1.length : Int))), (12, .p (.int .i64 t8)), (19, .p (.slc (List.map (PV.int .i64) x10))), (20, .p (.int .i64 (x10.length : Int))), (21, .p (.int .i64 s.2))], [(9, .map 1 (List.map AV.p (encK (PV.int .i64) s.1)) (List.map AV.p (encW PV.bool s.1)))]⟩) (fun (o : ((List (Int × Bool))) ⊕ ((List (Int × Bool)) × Bool)) => match o with | .inl o17 => tE (cX Tryz.f71 X w) (.exit 2) ⟨[(4, .mapo 9 1), (10, .p (.slc (List.map (encL (PV.int .i64)) c1))), (11, .p (.int .i64 (c1.length : Int))), (12, .p (.int .i64 t8))], [(9, .map 1 (List.map AV.p (encK (PV.int .i64) o17)) (List.map AV.p (encW PV.bool o17)))]⟩ | .inr o18 => tR Tryz.prog Tryz.f71 (.tup [(.mapv (encK (PV.int .i64) o18.1) (encW PV.bool o18.1)), (.bool o18.2)])) h16 ?_ ?_
 clear h h9 h11 h11a h11b h13 h14 h16
 intro s x h
 obtain ⟨s19, t20⟩ := s
 simp only [survivor_disjoint_l3] at h
 dsimp only
 refine zs (zr ?_)
 refine zU (zl (zn (zs ?_)))
 rcases zI h with ⟨h21, h⟩ | ⟨h21, h⟩
 refine zi (zk (zn (zs (zb (zs (zr ?_))))))
 obtain ⟨x22, h23, h23a, h23b, h⟩ := zX h
 refine zU (zl (zn (zs (zs (zr ?_)))))
 refine zU (zl (zn ?_))
 rcases zI h with ⟨h24, h⟩ | ⟨h24, h⟩
 refine zi (zs (zr ?_))
 refine zU (zl (zn (zq (zt (yr (zt ?_))))))
 cases h
 exact ⟨rfl, zT Tryz.results71⟩
 refine zj (zk (zn (zr ?_)))
 refine zU (zl (yn (zn (zr ?_))))
 refine zU (zl ?_)
 cases h
 exact ⟨rfl, zE⟩
 refine zj (zx (ze ?_))
 cases h
 exact ⟨rfl, zE⟩
 rcases o15 with s25 | r26
 try simp only at h
 refine zA (yh (yn (zn (zr ?_))))
 refine zU (zl ?_)
 cases h
 exact ⟨rfl, zE⟩
 try simp only at h
 refine zZ fun s hq => ?_
 refine yr (yr (zt ?_))
 cases h
 refine ⟨rfl, ?_⟩
 exact hq
 refine zi (zs (zr ?_))
 refine zU (zl (zn (zq (zt (yr (zt ?_))))))
 cases h
 exact ⟨rfl, zT Tryz.results71⟩
 refine zj (zx (ze ?_))
 cases h
 exact ⟨rfl, zE⟩
 rcases o3 with s27 | r28
 try simp only at h
 refine zA (yh (zn (zs (zr ?_))))
 refine zU (zl (zn (zq ?_)))
 cases h
 exact zT Tryz.results71
 try simp only at h
 refine zZ fun s hq => ?_
 refine yr (zt ?_)
 cases h
 exact hq
end Go.Proofs.YtdmddoljldjjeaaGreat
set_option linter.unusedVariables false
set_option linter.unusedSimpArgs false
namespace Go.Proofs.YtdmddoljldjjeaaGreat
open Go Go.Ab
set_option maxHeartbeats 4000000 in
theorem slices_ContainsFunc_Row_con (s1 : List Row) (f2 : Row → Option (Bool)) (f2_k : FuncId) (f2_cs : List PV) (f2_h : ∀ (y3 : Row) (r4 : Bool), f2 y3 = some r4 → Con Tryz.prog f2_k ((encRow y3) :: f2_cs) (.bool r4)) (r5 : Bool) (h : slices_ContainsFunc_Row s1 f2 = some r5) : Con Tryz.prog 72 [(.slc (List.map encRow s1)), .func (.func f2_k) f2_cs] (.bool r5) := by
 refine zP Tryz.call72 Tryz.func72 rfl Tryz.ntmps72 fun X w => ?_
 simp only [slices_ContainsFunc_Row] at h
 refine zs (zr ?_)
 refine zU (zl (zn (zs (zr ?_))))
 refine zU ?_
 obtain ⟨r6, h7, h⟩ := zB h
 refine zc (slices_IndexFunc_Row_con s1 f2 f2_k f2_cs f2_h _ h7) ?_
 refine zU (zl (zn (zq ?_)))
 cases h
 exact zT Tryz.results72
end Go.Proofs.YtdmddoljldjjeaaGreat
set_option linter.unusedVariables false
set_option linter.unusedSimpArgs false
namespace Go.Proofs.YtdmddoljldjjeaaGreat
open Go Go.Ab
set_option maxHeartbeats 4000000 in
theorem survivor_divides_1_con (r1 : Row) (c2 : List (Int × Bool)) (r3 : Bool) (h : survivor_divides_1 r1 c2 = some r3) : Con Tryz.prog 73 [(encRow r1), .imm [.mapv (encK (PV.int .i64) c2) (encW PV.bool c2)]] (.bool r3) := by
 refine zP Tryz.call73 Tryz.func73 rfl Tryz.ntmps73 fun X w => ?_
 simp only [survivor_divides_1] at h
 refine zs (zr ?_)
 refine zU (zl (zn (zs (zr ?_))))
 refine zU (zl (zn (zq ?_)))
 cases h
 exact zT Tryz.results73
end Go.Proofs.YtdmddoljldjjeaaGreat
set_option linter.unusedVariables false
set_option linter.unusedSimpArgs false
namespace Go.Proofs.YtdmddoljldjjeaaGreat
open Go Go.Ab
set_option maxHeartbeats 4000000 in
theorem survivor_divides_con (t1 : Table) (c2 : List (List Int)) (r3 : Bool) (h : survivor_divides t1 c2 = some r3) : Con Tryz.prog 34 [(encTable t1), (.slc (List.map (encL (PV.int .i64)) c2))] (.bool r3) := by
 refine zP Tryz.call34 Tryz.func34 rfl Tryz.ntmps34 fun X w => ?_
 simp only [survivor_divides] at h
 refine zs (zr ?_)
 refine zU (zl (zn (zs (zr ?_))))
 refine zU ?_
 obtain ⟨r4, h5, h⟩ := zB h
 refine zc (survivor_disjoint_con c2 _ h5) ?_
 refine zU (zl (zn (zs (zs (zr ?_)))))
 refine zU ?_
 rcases zI h with ⟨h6, h⟩ | ⟨h6, h⟩
 refine zw 14 false ?_
 refine zg ?_
 refine zg ?_
 refine zg ?_
 refine zg ?_
 refine zg ?_
 refine zg ?_
 refine zU (zl (zn ?_))
 rcases zI h with ⟨h7, h⟩ | ⟨h7, h⟩
 refine zi (zs (zr ?_))
 refine zU (zl (zn (zq (zt ?_))))
 cases h
 exact zT Tryz.results34
 refine zj (zk (zn (zs (zr ?_))))
 refine zU ?_
 obtain ⟨r8, h9, h⟩ := zB h
 refine zc (slices_ContainsFunc_Row_con t1.Rows (fun (y10 : Row) => survivor_divides_1 y10 r4.1) 73 [.imm [.mapv (encK (PV.int .i64) r4.1) (encW PV.bool r4.1)]] (fun y10 r h => survivor_divides_1_con y10 r4.1 r h) _ h9) ?_
 refine zU (zl (zn (zq ?_)))
 cases h
 exact zT Tryz.results34
 refine zw 14 true ?_
 refine zh ?_
 refine zU (zl (zn ?_))
 refine zi (zs (zr ?_))
 refine zU (zl (zn (zq (zt ?_))))
 cases h
 exact zT Tryz.results34
end Go.Proofs.YtdmddoljldjjeaaGreat
set_option linter.unusedVariables false
set_option linter.unusedSimpArgs false
namespace Go.Proofs.YtdmddoljldjjeaaGreat
open Go Go.Ab
set_option maxHeartbeats 4000000 in
theorem survivor_Table_2_con (a1 : List Int) (b2 : List Int) (r3 : Int) (h : survivor_Table_2 a1 b2 = some r3) : Con Tryz.prog 36 [(.slc (List.map (PV.int .i64) a1)), (.slc (List.map (PV.int .i64) b2))] (.int .i64 r3) := by
 refine zP Tryz.call36 Tryz.func36 rfl Tryz.ntmps36 fun X w => ?_
 simp only [survivor_Table_2] at h
 refine zs (zr ?_)
 refine zU (zl (zn (zs (zd ?_))))
 obtain ⟨x4, h5, h5l, h5L, h⟩ := zY 0 h
 obtain ⟨x6, h7, h7l, h7L, h⟩ := zY 0 h
 refine yU ?_
 obtain ⟨r8, h9, h⟩ := zB h
 refine yc (cmp_Compare_int64_con x4 x6 _ h9) ?_
 refine yU ?_
 refine yd (zn (zq ?_))
 cases h
 exact zT Tryz.results36
end Go.Proofs.YtdmddoljldjjeaaGreat
set_option linter.unusedVariables false
set_option linter.unusedSimpArgs false
namespace Go.Proofs.YtdmddoljldjjeaaGreat
open Go Go.Ab
set_option maxHeartbeats 4000000 in
theorem slices_Clone_string_con (l : List (List UInt8)) (r : List (List UInt8)) (h : slices_Clone_string l = some r) : Con Tryz.prog 38 [(.slc (List.map PV.str l))] (.slc (List.map PV.str r)) := by
  obtain ⟨hc, h⟩ := ite_some h
  cases h
  refine ⟨Tryz.call38, ?_⟩
  refine pure_of_awp Tryz.func38 rfl Tryz.ntmps38 (by simp) fun X w => ?_
  show AWp _ _ _ ⟨[(0, .p (.slc (List.map PV.str l)))], []⟩
  refine awp_seq ?_
  refine awp_region ?_
  refine AL_upto (by exact rfl) (by simp only [go_sem, seval]; exact rfl) ?_
  refine AL_nil ?_
  refine thenA_n ?_
  refine awp_seq ?_
  refine awp_seq ?_
  refine awp_region ?_
  refine AL_take 1 (by simp only [go_sem, seval]; exact rfl) ?_
  refine AL_nileq (by simp only [go_sem, seval]; exact rfl) (by simp only [go_sem, seval]) Tryz.underlying22 rfl ?_
  intro b hb
  refine AL_nil ?_
  refine thenA_n ?_
  cases b
  · refine awp_cf (by simp only [go_sem, seval]) ?_
    refine awp_skip ?_
    refine thenA_n ?_
    refine awp_seq ?_
    refine awp_region ?_
    refine AL_upto (by exact rfl) (by simp only [go_sem, seval, hc]; exact rfl) ?_
    refine AL_nil ?_
    refine thenA_n ?_
    refine awp_ret ?_
    refine retQ_ret (by simp only [Tryz.results38]; simp only [go_sem, seval]; exact rfl) ?_
    simp only [go_sem, seval]
    all_goals ((repeat' refine And.intro ?_ ?_) <;> first | rfl | (simp; done) | (simp; rfl) | (simp [*]; done) | (simp [*]; rfl))
  · refine awp_ct (by simp only [go_sem, seval]) ?_
    have hl : l = [] := by
      cases l with
      | nil => rfl
      | cons x l => exact absurd (hb (by simp)) (by simp)
    subst hl
    refine awp_seq ?_
    refine awp_region ?_
    refine AL_upto (by exact rfl) (by simp only [go_sem, seval]; exact rfl) ?_
    refine AL_nil ?_
    refine thenA_n ?_
    refine awp_ret ?_
    refine thenA_ret ?_
    refine retQ_ret (by simp only [Tryz.results38]; simp only [go_sem, seval]; exact rfl) ?_
    simp only [go_sem, seval]
    all_goals ((repeat' refine And.intro ?_ ?_) <;> first | rfl | (simp; done) | (simp; rfl) | (simp [*]; done) | (simp [*]; rfl))
end Go.Proofs.YtdmddoljldjjeaaGreat
set_option linter.unusedVariables false
set_option linter.unusedSimpArgs false
namespace Go.Proofs.YtdmddoljldjjeaaGreat
open Go Go.Ab
set_option maxHeartbeats 4000000 in
theorem slices_Index_int64_con (s1 : List Int) (v2 : Int) (r3 : Int) (h : slices_Index_int64 s1 v2 = some r3) : Con Tryz.prog 119 [(.slc (List.map (PV.int .i64) s1)), (.int .i64 v2)] (.int .i64 r3) := by
 refine zP Tryz.call119 Tryz.func119 rfl Tryz.ntmps119 fun X w => ?_
 simp only [slices_Index_int64] at h
 refine zs (zr ?_)
 refine zU (zl (zn (zs (zs (zr ?_)))))
 refine zU (zl (zn (zb ?_)))
 obtain ⟨o4, h5, h⟩ := zB h
 refine zO (fun (s : Int) => ⟨[(0, .p (.slc (List.map (PV.int .i64) s1))), (1, .p (.int .i64 v2)), (7, .p (.int .i64 (s1.length : Int))), (8, .p (.int .i64 s))], []⟩) (fun (o : (Unit) ⊕ (Int)) => match o with | .inl o6 => tE (cX Tryz.f119 X w) (.exit 0) ⟨[], []⟩ | .inr o7 => tR Tryz.prog Tryz.f119 (.int .i64 o7)) h5 ?_ ?_
 clear h h5
 intro t8 x h
 simp only [slices_Index_int64_l1] at h
 refine zs (zr ?_)
 refine zU (zl (zn (zs ?_)))
 rcases zI h with ⟨h9, h⟩ | ⟨h9, h⟩
 refine zi (zk (zn (zs (zb (zs (zr ?_))))))
 refine zU (zl (zn (zs (zr ?_))))
 obtain ⟨x10, h11, h11a, h11b, h⟩ := zX h
 refine zU (zl (zn ?_))
 rcases zI h with ⟨h12, h⟩ | ⟨h12, h⟩
 refine zi (zs (zr ?_))
 refine zU (zl (zn (zq (yr (zt ?_)))))
 cases h
 exact ⟨rfl, zT Tryz.results119⟩
 refine zj (zk (yn (zn (zr ?_))))
 refine zU (zl ?_)
 cases h
 exact ⟨rfl, zE⟩
 refine zj (zx (ze ?_))
 cases h
 exact ⟨rfl, zE⟩
 rcases o4 with ⟨⟩ | r13
 try simp only at h
 refine zA (yh (zn (zs (zr ?_))))
 refine zU (zl (zn (zq ?_)))
 cases h
 exact zT Tryz.results119
 try simp only at h
 refine zZ fun s hq => ?_
 refine yr (zt ?_)
 cases h
 exact hq
end Go.Proofs.YtdmddoljldjjeaaGreat
set_option linter.unusedVariables false
set_option linter.unusedSimpArgs false
namespace Go.Proofs.YtdmddoljldjjeaaGreat
open Go Go.Ab
set_option maxHeartbeats 4000000 in
theorem slices_Contains_int64_con (s1 : List Int) (v2 : Int) (r3 : Bool) (h : slices_Contains_int64 s1 v2 = some r3) : Con Tryz.prog 77 [(.slc (List.map (PV.int .i64) s1)), (.int .i64 v2)] (.bool r3) := by
 refine zP Tryz.call77 Tryz.func77 rfl Tryz.ntmps77 fun X w => ?_
 simp only [slices_Contains_int64] at h
 refine zs (zr ?_)
 refine zU (zl (zn (zs (zr ?_))))
 refine zU ?_
 obtain ⟨r4, h5, h⟩ := zB h
 refine zc (slices_Index_int64_con s1 v2 _ h5) ?_
 refine zU (zl (zn (zq ?_)))
 cases h
 exact zT Tryz.results77
end Go.Proofs.YtdmddoljldjjeaaGreat
set_option linter.unusedVariables false
set_option linter.unusedSimpArgs false
namespace Go.Proofs.YtdmddoljldjjeaaGreat
open Go Go.Ab
set_option maxHeartbeats 4000000 in
theorem slices_Clone_Value_con (l : List Value) (r : List Value) (h : slices_Clone_Value l = some r) : Con Tryz.prog 145 [(.slc (List.map encValue l))] (.slc (List.map encValue r)) := by
  obtain ⟨hc, h⟩ := ite_some h
  cases h
  refine ⟨Tryz.call145, ?_⟩
  refine pure_of_awp Tryz.func145 rfl Tryz.ntmps145 (by simp) fun X w => ?_
  show AWp _ _ _ ⟨[(0, .p (.slc (List.map encValue l)))], []⟩
  refine awp_seq ?_
  refine awp_region ?_
  refine AL_upto (by exact rfl) (by simp only [go_sem, seval]; exact rfl) ?_
  refine AL_nil ?_
  refine thenA_n ?_
  refine awp_seq ?_
  refine awp_seq ?_
  refine awp_region ?_
  refine AL_take 1 (by simp only [go_sem, seval]; exact rfl) ?_
  refine AL_nileq (by simp only [go_sem, seval]; exact rfl) (by simp only [go_sem, seval]) Tryz.underlying54 rfl ?_
  intro b hb
  refine AL_nil ?_
  refine thenA_n ?_
  cases b
  · refine awp_cf (by simp only [go_sem, seval]) ?_
    refine awp_skip ?_
    refine thenA_n ?_
    refine awp_seq ?_
    refine awp_region ?_
    refine AL_upto (by exact rfl) (by simp only [go_sem, seval, hc]; exact rfl) ?_
    refine AL_nil ?_
    refine thenA_n ?_
    refine awp_ret ?_
    refine retQ_ret (by simp only [Tryz.results145]; simp only [go_sem, seval]; exact rfl) ?_
    simp only [go_sem, seval]
    all_goals ((repeat' refine And.intro ?_ ?_) <;> first | rfl | (simp; done) | (simp; rfl) | (simp [*]; done) | (simp [*]; rfl))
  · refine awp_ct (by simp only [go_sem, seval]) ?_
    have hl : l = [] := by
      cases l with
      | nil => rfl
      | cons x l => exact absurd (hb (by simp)) (by simp)
    subst hl
    refine awp_seq ?_
    refine awp_region ?_
    refine AL_upto (by exact rfl) (by simp only [go_sem, seval]; exact rfl) ?_
    refine AL_nil ?_
    refine thenA_n ?_
    refine awp_ret ?_
    refine thenA_ret ?_
    refine retQ_ret (by simp only [Tryz.results145]; simp only [go_sem, seval]; exact rfl) ?_
    simp only [go_sem, seval]
    all_goals ((repeat' refine And.intro ?_ ?_) <;> first | rfl | (simp; done) | (simp; rfl) | (simp [*]; done) | (simp [*]; rfl))
end Go.Proofs.YtdmddoljldjjeaaGreat
set_option linter.unusedVariables false
set_option linter.unusedSimpArgs false
namespace Go.Proofs.YtdmddoljldjjeaaGreat
open Go Go.Ab
set_option maxHeartbeats 4000000 in
theorem table_copied_con (r1 : Row) (r2 : Row) (h : table_copied r1 = some r2) : Con Tryz.prog 120 [(encRow r1)] (encRow r2) := by
 refine zP Tryz.call120 Tryz.func120 rfl Tryz.ntmps120 fun X w => ?_
 simp only [table_copied] at h
 refine zs (zr ?_)
 refine zU (zl (zn (zs (zd ?_))))
 refine yU ?_
 obtain ⟨r3, h4, h⟩ := zB h
 refine yc (slices_Clone_Value_con r1.Values _ h4) ?_
 refine yU ?_
 refine yd (zn (zq ?_))
 cases h
 exact zT Tryz.results120
end Go.Proofs.YtdmddoljldjjeaaGreat
set_option linter.unusedVariables false
set_option linter.unusedSimpArgs false
namespace Go.Proofs.YtdmddoljldjjeaaGreat
open Go Go.Ab
set_option maxHeartbeats 4000000 in
theorem table_with_con (t1 : Table) (r2 : List Row) (r3 : Table) (h : table_with t1 r2 = some r3) : Con Tryz.prog 78 [(encTable t1), (.slc (List.map encRow r2))] (encTable r3) := by
 refine zP Tryz.call78 Tryz.func78 rfl Tryz.ntmps78 fun X w => ?_
 simp only [table_with] at h
 refine zs (zr ?_)
 refine zU (zl (zn (zs (zd ?_))))
 refine yU ?_
 obtain ⟨r4, h5, h⟩ := zB h
 refine yc (slices_Clone_string_con t1.Attrs _ h5) ?_
 refine yU ?_
 refine yd (zn (zs (zs (zr ?_))))
 refine zU (zl (zn (zb ?_)))
 obtain ⟨o6, h7, h⟩ := zB h
 refine zO (fun (s : List Row × Int) => ⟨[(4, .loc 4 1 0 0), (5, .loc 5 1 0 0), (14, .p (.slc (List.map encRow r2))), (15, .p (.int .i64 (r2.length : Int))), (16, .p (.int .i64 s.2))], [(4, .arr 25 3 1 [.agg [.p (.str []), .nils, .nils]]), (5, .arr 25 3 1 [.agg [.p (.str t1.Name), .p (.slc (List.map PV.str r4)), .own 25 1 0 s.1.length]]), (25, .arr 56 2 1 (List.map AV.p (List.map encRow s.1)))]⟩) (fun (o8 : List Row) => tE (cX Tryz.f78 X w) (.exit 0) ⟨[(4, .loc 4 1 0 0), (5, .loc 5 1 0 0)], [(4, .arr 25 3 1 [.agg [.p (.str []), .nils, .nils]]), (5, .arr 25 3 1 [.agg [.p (.str t1.Name), .p (.slc (List.map PV.str r4)), .own 25 1 0 o8.length]]), (25, .arr 56 2 1 (List.map AV.p (List.map encRow o8)))]⟩) h7 ?_ ?_
 clear h h5 h7
 intro s x h
 obtain ⟨o9, t10⟩ := s
 simp only [table_with_l1] at h
 dsimp only
 refine zs (zr ?_)
 refine zU (zl (zn (zs ?_)))
 rcases zI h with ⟨h11, h⟩ | ⟨h11, h⟩
 refine zi (zk (zn (zs (zb (zs (zr ?_))))))
 obtain ⟨x12, h13, h13a, h13b, h⟩ := zX h
 refine zU (zl (zn (zd ?_)))
 refine yU ?_
 obtain ⟨r14, h15, h⟩ := zB h
 refine yc (table_copied_con x12 _ h15) ?_
 obtain ⟨h16, h⟩ := ite_some h
 refine yU ?_
 refine yd (yn (zn (zr ?_)))
 refine zU (zl ?_)
 cases h
 exact ⟨rfl, zE⟩
 refine zj (zx (ze ?_))
 cases h
 exact ⟨rfl, zE⟩
 try simp only at h
 refine zA (yh (zn (zs (zr ?_))))
 refine zU (zl (zn (zq ?_)))
 cases h
 exact zT Tryz.results78
end Go.Proofs.YtdmddoljldjjeaaGreat
set_option linter.unusedVariables false
set_option linter.unusedSimpArgs false
namespace Go.Proofs.YtdmddoljldjjeaaGreat
open Go Go.Ab
set_option maxHeartbeats 4000000 in
theorem table_Keep_con (t1 : Table) (i2 : List Int) (r3 : Table) (h : table_Keep t1 i2 = some r3) : Con Tryz.prog 39 [(encTable t1), (.slc (List.map (PV.int .i64) i2))] (encTable r3) := by
 refine zP Tryz.call39 Tryz.func39 rfl Tryz.ntmps39 fun X w => ?_
 simp only [table_Keep] at h
 refine zs (zr ?_)
 refine zU (zl (zn (zs (zr ?_))))
 refine zU (zl (zn (zs (zs (zr ?_)))))
 refine zU (zl (zn (zb ?_)))
 obtain ⟨r4, h5, h⟩ := zB h
 refine zO (fun (s : List Row × Int) => ⟨[(1, .p (.slc (List.map (PV.int .i64) i2))), (2, .loc 2 1 0 0), (4, .loc 4 1 0 0), (5, .own 22 1 0 s.1.length), (9, .p (.slc (List.map encRow t1.Rows))), (10, .p (.int .i64 (t1.Rows.length : Int))), (11, .p (.int .i64 s.2))], [(2, .arr 25 3 1 [.p (encTable t1)]), (4, .arr 25 3 1 [.agg [.p (.str []), .nils, .nils]]), (22, .arr 56 2 1 (List.map AV.p (List.map encRow s.1)))]⟩) (fun (o6 : List Row) => tE (cX Tryz.f39 X w) (.exit 0) ⟨[(2, .loc 2 1 0 0), (4, .loc 4 1 0 0), (5, .own 22 1 0 o6.length)], [(2, .arr 25 3 1 [.p (encTable t1)]), (4, .arr 25 3 1 [.agg [.p (.str []), .nils, .nils]]), (22, .arr 56 2 1 (List.map AV.p (List.map encRow o6)))]⟩) h5 ?_ ?_
 clear h h5
 intro s x h
 obtain ⟨r7, t8⟩ := s
 simp only [table_Keep_l1] at h
 dsimp only
 refine zs (zr ?_)
 refine zU (zl (zn (zs ?_)))
 rcases zI h with ⟨h9, h⟩ | ⟨h9, h⟩
 refine zi (zk (zn (zs (zb (zs (zr ?_))))))
 obtain ⟨x10, h11, h11a, h11b, h⟩ := zX h
 refine zU (zl (zn (zs (zr ?_))))
 refine zU ?_
 obtain ⟨r12, h13, h⟩ := zB h
 refine zc (slices_Contains_int64_con i2 x10.ID _ h13) ?_
 refine zl (zn ?_)
 rcases zI h with ⟨h14, h⟩ | ⟨h14, h⟩
 refine zi (zr ?_)
 obtain ⟨h15, h⟩ := ite_some h
 refine zU (zl (yn (zn (zr ?_))))
 refine zU (zl ?_)
 cases h
 exact ⟨rfl, zE⟩
 refine zj (zk (yn (zn (zr ?_))))
 refine zU (zl ?_)
 cases h
 exact ⟨rfl, zE⟩
 refine zj (zx (ze ?_))
 cases h
 exact ⟨rfl, zE⟩
 try simp only at h
 refine zA (yh (zn (zs (zr ?_))))
 refine zU ?_
 refine zM ⟨[(4, .loc 4 1 0 0), (24, .p (encTable t1)), (25, .p (.slc (List.map encRow r4)))], [(4, .arr 25 3 1 [.agg [.p (.str []), .nils, .nils]])]⟩ ?_
 obtain ⟨r16, h17, h⟩ := zB h
 refine zc (table_with_con t1 r4 _ h17) ?_
 refine zU (zl (zn (zq ?_)))
 cases h
 exact zT Tryz.results39
end Go.Proofs.YtdmddoljldjjeaaGreat
set_option linter.unusedVariables false
set_option linter.unusedSimpArgs false
namespace Go.Proofs.YtdmddoljldjjeaaGreat
open Go Go.Ab
set_option maxHeartbeats 4000000 in
theorem slices_Clone_int64_con (l : List Int) (r : List Int) (h : slices_Clone_int64 l = some r) : Con Tryz.prog 40 [(.slc (List.map (PV.int .i64) l))] (.slc (List.map (PV.int .i64) r)) := by
  obtain ⟨hc, h⟩ := ite_some h
  cases h
  refine ⟨Tryz.call40, ?_⟩
  refine pure_of_awp Tryz.func40 rfl Tryz.ntmps40 (by simp) fun X w => ?_
  show AWp _ _ _ ⟨[(0, .p (.slc (List.map (PV.int .i64) l)))], []⟩
  refine awp_seq ?_
  refine awp_region ?_
  refine AL_upto (by exact rfl) (by simp only [go_sem, seval]; exact rfl) ?_
  refine AL_nil ?_
  refine thenA_n ?_
  refine awp_seq ?_
  refine awp_seq ?_
  refine awp_region ?_
  refine AL_take 1 (by simp only [go_sem, seval]; exact rfl) ?_
  refine AL_nileq (by simp only [go_sem, seval]; exact rfl) (by simp only [go_sem, seval]) Tryz.underlying36 rfl ?_
  intro b hb
  refine AL_nil ?_
  refine thenA_n ?_
  cases b
  · refine awp_cf (by simp only [go_sem, seval]) ?_
    refine awp_skip ?_
    refine thenA_n ?_
    refine awp_seq ?_
    refine awp_region ?_
    refine AL_upto (by exact rfl) (by simp only [go_sem, seval, hc]; exact rfl) ?_
    refine AL_nil ?_
    refine thenA_n ?_
    refine awp_ret ?_
    refine retQ_ret (by simp only [Tryz.results40]; simp only [go_sem, seval]; exact rfl) ?_
    simp only [go_sem, seval]
    all_goals ((repeat' refine And.intro ?_ ?_) <;> first | rfl | (simp; done) | (simp; rfl) | (simp [*]; done) | (simp [*]; rfl))
  · refine awp_ct (by simp only [go_sem, seval]) ?_
    have hl : l = [] := by
      cases l with
      | nil => rfl
      | cons x l => exact absurd (hb (by simp)) (by simp)
    subst hl
    refine awp_seq ?_
    refine awp_region ?_
    refine AL_upto (by exact rfl) (by simp only [go_sem, seval]; exact rfl) ?_
    refine AL_nil ?_
    refine thenA_n ?_
    refine awp_ret ?_
    refine thenA_ret ?_
    refine retQ_ret (by simp only [Tryz.results40]; simp only [go_sem, seval]; exact rfl) ?_
    simp only [go_sem, seval]
    all_goals ((repeat' refine And.intro ?_ ?_) <;> first | rfl | (simp; done) | (simp; rfl) | (simp [*]; done) | (simp [*]; rfl))
end Go.Proofs.YtdmddoljldjjeaaGreat
set_option linter.unusedVariables false
set_option linter.unusedSimpArgs false
namespace Go.Proofs.YtdmddoljldjjeaaGreat
open Go Go.Ab
set_option maxRecDepth 100000 in
set_option maxHeartbeats 4000000 in
theorem bits_Len64_con (x : Int) (r : Int) (h : bits_Len64 x = some r) : Con Tryz.prog 118 [(.int .u64 x)] (.int .i64 r) := by
  obtain ⟨hx, h⟩ := ite_some h
  have hc : x = 0 ∨ x = 1 ∨ x = 2 ∨ x = 3 ∨ x = 4 ∨ x = 5 ∨ x = 6 ∨ x = 7 ∨ x = 8 ∨ x = 9 ∨ x = 10 ∨ x = 11 ∨ x = 12 := by omega
  replace h := Option.some.inj h
  rcases hc with rfl | rfl | rfl | rfl | rfl | rfl | rfl | rfl | rfl | rfl | rfl | rfl | rfl
  all_goals
    subst h
    refine ⟨Tryz.call118, ?_⟩
    refine pure_of_awp Tryz.func118 rfl Tryz.ntmps118 (by simp) fun X w => ?_
    show AWp _ _ _ ⟨[(0, .p (.int .u64 _))], []⟩
    refine awp_seq ?_
    refine awp_region ?_
    refine AL_upto (by exact rfl) (by simp only [go_sem, seval]; exact rfl) ?_
    refine AL_nil ?_
    refine thenA_n ?_
    refine awp_seq ?_
    refine awp_seq ?_
    refine awp_region ?_
    refine AL_upto (by exact rfl) (by simp only [go_sem, seval]; exact rfl) ?_
    refine AL_nil ?_
    refine thenA_n ?_
    refine awp_cf (by simp only [go_sem, seval]; all_goals rfl) ?_
    refine awp_skip ?_
    refine thenA_n ?_
    refine awp_seq ?_
    refine awp_seq ?_
    refine awp_region ?_
    refine AL_upto (by exact rfl) (by simp only [go_sem, seval]; exact rfl) ?_
    refine AL_nil ?_
    refine thenA_n ?_
    refine awp_cf (by simp only [go_sem, seval]; all_goals rfl) ?_
    refine awp_skip ?_
    refine thenA_n ?_
    refine awp_seq ?_
    refine awp_seq ?_
    refine awp_region ?_
    refine AL_upto (by exact rfl) (by simp only [go_sem, seval]; exact rfl) ?_
    refine AL_nil ?_
    refine thenA_n ?_
    refine awp_cf (by simp only [go_sem, seval]; all_goals rfl) ?_
    refine awp_skip ?_
    refine thenA_n ?_
    refine awp_seq ?_
    refine awp_region ?_
    refine AL_upto (by exact rfl) (by exact rfl) ?_
    refine AL_nil ?_
    refine thenA_n ?_
    refine awp_ret ?_
    exact retQ_ret (by exact rfl) rfl
end Go.Proofs.YtdmddoljldjjeaaGreat
set_option linter.unusedVariables false
set_option linter.unusedSimpArgs false
namespace Go.Proofs.YtdmddoljldjjeaaGreat
open Go Go.Ab
set_option maxHeartbeats 4000000 in
theorem bits_Len_con (x1 : Int) (r2 : Int) (h : bits_Len x1 = some r2) : Con Tryz.prog 75 [(.int .u64 x1)] (.int .i64 r2) := by
 refine zP Tryz.call75 Tryz.func75 rfl Tryz.ntmps75 fun X w => ?_
 simp only [bits_Len] at h
 refine zs (zr ?_)
 refine zU (zl (zn (zs ?_)))
 refine zj (zk (zn (zs (zr ?_))))
 refine zU ?_
 obtain ⟨r3, h4, h⟩ := zB h
 refine zc (bits_Len64_con x1 _ h4) ?_
 refine zU (zl (zn (zq ?_)))
 cases h
 exact zT Tryz.results75
end Go.Proofs.YtdmddoljldjjeaaGreat
set_option linter.unusedVariables false
set_option linter.unusedSimpArgs false
namespace Go.Proofs.YtdmddoljldjjeaaGreat
open Go Go.Ab
set_option maxHeartbeats 4000000 in
theorem survivor_Table_con (t1 : Table) (c2 : List (List Int)) (r3 : List Int) (r4 : Merged × Int) (h : survivor_Table t1 c2 r3 = some r4) : Con Tryz.prog 10 [(encTable t1), (.slc (List.map (encL (PV.int .i64)) c2)), (.slc (List.map (PV.int .i64) r3))] (.tup [(encMerged r4.1), (.int .i64 r4.2)]) := by
 refine zP Tryz.call10 Tryz.func10 rfl Tryz.ntmps10 fun X w => ?_
 simp only [survivor_Table] at h
 refine zs (zr ?_)
 refine zU (zl (zn (zs (zs (zr ?_)))))
 refine zU ?_
 obtain ⟨r5, h6, h⟩ := zB h
 refine zc (table_Valid_con t1 _ h6) ?_
 refine zU (zl (zn (zs (zr ?_))))
 refine zU (zl (zn ?_))
 rcases zI h with ⟨h7, h⟩ | ⟨h7, h⟩
 refine zi (zs (zr ?_))
 refine zU (zl (zn (zq (zt ?_))))
 cases h
 exact zT Tryz.results10
 have h7F := Bool.eq_false_iff.2 h7
 refine zj (zk (zn (zs (zs (zr ?_)))))
 refine zU (zl (zn ?_))
 rcases zI h with ⟨h8, h⟩ | ⟨h8, h⟩
 refine zi (zs (zr ?_))
 refine zU (zl (zn (zq (zt ?_))))
 cases h
 exact zT Tryz.results10
 have h8F := Bool.eq_false_iff.2 h8
 refine zj (zk (zn (zs (zs (zr ?_)))))
 refine zU ?_
 obtain ⟨r9, h10, h⟩ := zB h
 refine zc (slices_ContainsFunc_int_con r3 (fun (y11 : Int) => survivor_Table_1 y11) 32 [] (fun y11 r h => survivor_Table_1_con y11 r h) _ h10) ?_
 refine zU ?_
 rcases zI h with ⟨h12, h⟩ | ⟨h12, h⟩
 refine zw 31 true ?_
 refine zh ?_
 refine zU (zl (zn ?_))
 refine zi (zs (zr ?_))
 refine zU (zl (zn (zq (zt ?_))))
 cases h
 exact zT Tryz.results10
 have h12F := Bool.eq_false_iff.2 h12
 refine zw 31 false ?_
 refine zg ?_
 refine zg ?_
 obtain ⟨r13, h14, h⟩ := zB h
 refine zc (survivor_divides_con t1 c2 _ h14) ?_
 refine zg ?_
 refine zU (zl (zn ?_))
 rcases zI h with ⟨h15, h⟩ | ⟨h15, h⟩
 refine zj (zk (zn (zs (zr ?_))))
 refine zU ?_
 obtain ⟨h16, h⟩ := ite_some h
 refine zM ⟨[(2, .p (.slc (List.map (PV.int .i64) r3))), (3, .loc 3 1 0 0), (6, .loc 6 1 0 0), (38, .p (.slc (List.map (encL (PV.int .i64)) c2)))], [(3, .arr 25 3 1 [.p (encTable t1)]), (6, .arr 31 5 1 [.agg [.p (.str []), .nils, .nils, .nils, .nils]])]⟩ ?_
 refine AL_inline (avs := [.p (.slc (List.map (encL (PV.int .i64)) c2))]) 100 rfl (guard_none rfl) rfl Tryz.func11 rfl Tryz.call11 Tryz.ntmps11 (by simp) (by simp only [go_sem, seval, h7F, h8F, h12F, h15, h16]; all_goals rfl) ?_
 intro i17 w18
 refine awp_post (T := fun e s' => (e = .normal ∨ e = .ret) ∧ Le ⟨Tryz.prog, 8, 100, X, [(3, .arr 25 3 1 [.p (encTable t1)]), (6, .arr 31 5 1 [.agg [.p (.str []), .nils, .nils, .nils, .nils]])], i17, w18⟩ s' ⟨[(2, .own 105 1 0 c2.length)], [(3, .arr 25 3 1 [.p (encTable t1)]), (6, .arr 31 5 1 [.agg [.p (.str []), .nils, .nils, .nils, .nils]]), (105, .arr 36 1 1 (List.map AV.p (List.map (encL (PV.int .i64)) c2)))]⟩) ?_ ?_
 show AWp _ _ _ ⟨[(0, .p (.slc (List.map (encL (PV.int .i64)) c2)))], [(3, .arr 25 3 1 [.p (encTable t1)]), (6, .arr 31 5 1 [.agg [.p (.str []), .nils, .nils, .nils, .nils]])]⟩
 refine zs (zr ?_)
 refine zU (zl (zn (zs (zs (zr ?_)))))
 refine zW 1 ?_
 refine AL_nileq (by simp only [go_sem, seval, h7F, h8F, h12F, h15, h16]; exact rfl) (by simp only [go_sem, seval, h7F, h8F, h12F, h15, h16]) Tryz.underlying26 rfl ?_
 intro b hb
 refine zl (zn ?_)
 cases b
 refine zj (zk (zn (zs (zr ?_))))
 refine zU (zl (zn (zq ?_)))
 refine ⟨.inr rfl, ?_⟩
 exact zV
 refine zi ?_
 have h19 : c2 = [] := by
   rcases hz : c2 with _ | ⟨x, z⟩
   · rfl
   · rw [hz] at hb; exact absurd (hb (by simp)) (by simp)
 refine zs (zr ?_)
 refine zU (zl (zn (zq (zt ?_))))
 refine ⟨.inr rfl, ?_⟩
 exact zV
 intro e s' hT
 obtain ⟨he, hle⟩ := hT
 refine Wk.to hle ?_
 refine inlQ_any he (by simp only [Tryz.results11]; simp only [go_sem, seval, h7F, h8F, h12F, h15, h16]; exact rfl) ?_
 clear hle he
 refine zU (zl (zn (zs (zr ?_))))
 refine zU ?_
 refine zM ⟨[(2, .p (.slc (List.map (PV.int .i64) r3))), (3, .loc 3 1 0 0), (6, .loc 6 1 0 0), (9, .own 105 1 0 c2.length), (40, .own 105 1 0 c2.length)], [(3, .arr 25 3 1 [.p (encTable t1)]), (6, .arr 31 5 1 [.agg [.p (.str []), .nils, .nils, .nils, .nils]]), (105, .arr 36 1 1 (List.map AV.p (List.map (encL (PV.int .i64)) c2)))]⟩ ?_
 refine AL_inline (avs := [.own 105 1 0 c2.length, .p (.func (.func 36) [])]) 376 rfl (guard_none rfl) rfl Tryz.func35 rfl Tryz.call35 Tryz.ntmps35 (by simp) (by simp only [go_sem, seval, h7F, h8F, h12F, h15, h16]; all_goals rfl) ?_
 intro i20 w21
 show AWp _ _ _ ⟨[(0, .own 105 1 0 c2.length), (1, .p (.func (.func 36) []))], [(3, .arr 25 3 1 [.p (encTable t1)]), (6, .arr 31 5 1 [.agg [.p (.str []), .nils, .nils, .nils, .nils]]), (105, .arr 36 1 1 (List.map AV.p (List.map (encL (PV.int .i64)) c2)))]⟩
 refine zs (zr ?_)
 refine zU (zl (zn (zr ?_)))
 refine zU ?_
 obtain ⟨r22, h23, h⟩ := zB h
 refine zc (bits_Len_con (IntKind.u64.wrap ((c2.length : Nat) : Int)) _ h23) ?_
 refine zU ?_
 refine zM ⟨[(7, .own 105 1 0 c2.length), (8, .p (.int .i64 ((c2.length : Nat) : Int))), (11, .p (.int .i64 r22)), (12, .p (.func (.func 36) []))], [(3, .arr 25 3 1 [.p (encTable t1)]), (6, .arr 31 5 1 [.agg [.p (.str []), .nils, .nils, .nils, .nils]]), (105, .arr 36 1 1 (List.map AV.p (List.map (encL (PV.int .i64)) c2)))]⟩ ?_
 refine AL_inline (avs := [.own 105 1 0 c2.length, .p (.int .i64 0), .p (.int .i64 ((c2.length : Nat) : Int)), .p (.int .i64 r22), .p (.func (.func 36) [])]) 390 rfl (guard_none rfl) rfl Tryz.func74 rfl Tryz.call74 Tryz.ntmps74 (by simp) (by simp only [go_sem, seval, h7F, h8F, h12F, h15, h16]; all_goals rfl) ?_
 intro i24 w25
 show AWp _ _ _ ⟨[(0, .own 105 1 0 c2.length), (1, .p (.int .i64 0)), (2, .p (.int .i64 ((c2.length : Nat) : Int))), (3, .p (.int .i64 r22)), (4, .p (.func (.func 36) []))], [(3, .arr 25 3 1 [.p (encTable t1)]), (6, .arr 31 5 1 [.agg [.p (.str []), .nils, .nils, .nils, .nils]]), (105, .arr 36 1 1 (List.map AV.p (List.map (encL (PV.int .i64)) c2)))]⟩
 refine zs (zr ?_)
 refine zU (zl (zn (zs (zr ?_))))
 refine zU (zl (zn (zb ?_)))
 obtain ⟨b26, h27, h⟩ := zB h
 refine zO (fun (s : Unit) => ⟨[(0, .own 105 1 0 c2.length), (1, .p (.int .i64 0)), (2, .p (.int .i64 ((c2.length : Nat) : Int))), (3, .p (.int .i64 r22)), (4, .p (.func (.func 36) [])), (10, .p (.bool true)), (11, .p (.bool true))], [(3, .arr 25 3 1 [.p (encTable t1)]), (6, .arr 31 5 1 [.agg [.p (.str []), .nils, .nils, .nils, .nils]]), (105, .arr 36 1 1 (List.map AV.p (List.map (encL (PV.int .i64)) c2)))]⟩) (fun (o28 : List (List Int)) => tE ⟨Tryz.prog, 148, 390, X, [(3, .arr 25 3 1 [.p (encTable t1)]), (6, .arr 31 5 1 [.agg [.p (.str []), .nils, .nils, .nils, .nils]]), (105, .arr 36 1 1 (List.map AV.p (List.map (encL (PV.int .i64)) c2)))], i24, w25⟩ .ret ⟨[], [(3, .arr 25 3 1 [.p (encTable t1)]), (6, .arr 31 5 1 [.agg [.p (.str []), .nils, .nils, .nils, .nils]]), (105, .arr 36 1 1 (List.map AV.p (List.map (encL (PV.int .i64)) o28)))]⟩) h27 ?_ ?_
 clear h h6 h7 h7F h8 h8F h10 h12 h12F h14 h15 h16 h23 h27
 intro s x h
 simp only [survivor_Table_l18] at h
 refine zb (zs (zr ?_))
 refine zU (zl (zn (zs (zs (zr ?_)))))
 refine zU (zl (zn ?_))
 rcases zI h with ⟨h29, h⟩ | ⟨h29, h⟩
 have h29T := eq_true h29
 refine zi (zs (zr ?_))
 refine zU ?_
 refine zM ⟨[(26, .own 105 1 0 c2.length), (27, .p (.int .i64 0)), (28, .p (.int .i64 ((c2.length : Nat) : Int))), (29, .p (.func (.func 36) []))], [(3, .arr 25 3 1 [.p (encTable t1)]), (6, .arr 31 5 1 [.agg [.p (.str []), .nils, .nils, .nils, .nils]]), (105, .arr 36 1 1 (List.map AV.p (List.map (encL (PV.int .i64)) c2)))]⟩ ?_
 refine AL_inline (avs := [.own 105 1 0 c2.length, .p (.int .i64 0), .p (.int .i64 ((c2.length : Nat) : Int)), .p (.func (.func 36) [])]) 591 rfl (guard_none rfl) rfl Tryz.func109 rfl Tryz.call109 Tryz.ntmps109 (by simp) (by simp only [go_sem, seval, h29T]; all_goals rfl) ?_
 intro i30 w31
 show AWp _ _ _ ⟨[(0, .own 105 1 0 c2.length), (1, .p (.int .i64 0)), (2, .p (.int .i64 ((c2.length : Nat) : Int))), (3, .p (.func (.func 36) []))], [(3, .arr 25 3 1 [.p (encTable t1)]), (6, .arr 31 5 1 [.agg [.p (.str []), .nils, .nils, .nils, .nils]]), (105, .arr 36 1 1 (List.map AV.p (List.map (encL (PV.int .i64)) c2)))]⟩
 refine zs (zr ?_)
 refine zU (zl (zn (zb ?_)))
 obtain ⟨b32, h33, h⟩ := zB h
 refine zO (fun (s : List (List Int) × Int) => ⟨[(0, .own 105 1 0 s.1.length), (1, .p (.int .i64 0)), (2, .p (.int .i64 ((c2.length : Nat) : Int))), (3, .p (.func (.func 36) [])), (8, .p (.int .i64 s.2))], [(3, .arr 25 3 1 [.p (encTable t1)]), (6, .arr 31 5 1 [.agg [.p (.str []), .nils, .nils, .nils, .nils]]), (105, .arr 36 1 1 (List.map AV.p (List.map (encL (PV.int .i64)) s.1)))]⟩) (fun (o34 : List (List Int)) => tE ⟨Tryz.prog, 53, 591, X, [(3, .arr 25 3 1 [.p (encTable t1)]), (6, .arr 31 5 1 [.agg [.p (.str []), .nils, .nils, .nils, .nils]]), (105, .arr 36 1 1 (List.map AV.p (List.map (encL (PV.int .i64)) c2)))], i30, w31⟩ (.exit 0) ⟨[], [(3, .arr 25 3 1 [.p (encTable t1)]), (6, .arr 31 5 1 [.agg [.p (.str []), .nils, .nils, .nils, .nils]]), (105, .arr 36 1 1 (List.map AV.p (List.map (encL (PV.int .i64)) o34)))]⟩) h33 ?_ ?_
 clear h h29 h29T h33
 intro s x h
 obtain ⟨d35, i36⟩ := s
 simp only [survivor_Table_l17] at h
 dsimp only
 refine zs (zs (zr ?_))
 refine zU (zl (zn ?_))
 rcases zI h with ⟨h37, h⟩ | ⟨h37, h⟩
 refine zi (zk (zn (zs (zb (zs (zr ?_))))))
 refine zU (zl (zn (zb ?_)))
 obtain ⟨d38, h39, h⟩ := zB h
 refine zO (fun (s : List (List Int) × Int) => ⟨[(0, .own 105 1 0 s.1.length), (1, .p (.int .i64 0)), (2, .p (.int .i64 ((c2.length : Nat) : Int))), (3, .p (.func (.func 36) [])), (8, .p (.int .i64 i36)), (9, .p (.int .i64 s.2))], [(3, .arr 25 3 1 [.p (encTable t1)]), (6, .arr 31 5 1 [.agg [.p (.str []), .nils, .nils, .nils, .nils]]), (105, .arr 36 1 1 (List.map AV.p (List.map (encL (PV.int .i64)) s.1)))]⟩) (fun (o40 : List (List Int)) => tE ⟨Tryz.prog, 53, 591, X, [(3, .arr 25 3 1 [.p (encTable t1)]), (6, .arr 31 5 1 [.agg [.p (.str []), .nils, .nils, .nils, .nils]]), (105, .arr 36 1 1 (List.map AV.p (List.map (encL (PV.int .i64)) c2)))], i30, w31⟩ (.exit 2) ⟨[(0, .own 105 1 0 o40.length), (1, .p (.int .i64 0)), (2, .p (.int .i64 ((c2.length : Nat) : Int))), (3, .p (.func (.func 36) [])), (8, .p (.int .i64 i36))], [(3, .arr 25 3 1 [.p (encTable t1)]), (6, .arr 31 5 1 [.agg [.p (.str []), .nils, .nils, .nils, .nils]]), (105, .arr 36 1 1 (List.map AV.p (List.map (encL (PV.int .i64)) o40)))]⟩) h39 ?_ ?_
 clear h h37 h39
 intro s x h
 obtain ⟨d41, j42⟩ := s
 simp only [survivor_Table_l16] at h
 dsimp only
 refine zs (zs (zd ?_))
 refine yU ?_
 rcases zI h with ⟨h43, h⟩ | ⟨h43, h⟩
 refine yw 21 true ?_
 refine yg ?_
 refine yg ?_
 refine yg ?_
 obtain ⟨x44, h45, h45a, h45b, h⟩ := zX h
 refine yg ?_
 refine yg ?_
 refine yg ?_
 refine yg ?_
 refine yg ?_
 obtain ⟨x46, h47, h47a, h47b, h⟩ := zX h
 refine yg ?_
 refine yg ?_
 obtain ⟨r48, h49, h⟩ := zB h
 refine yc (survivor_Table_2_con x44 x46 _ h49) ?_
 refine yg ?_
 refine yU ?_
 refine yd (zn ?_)
 rcases zI h with ⟨h50, h⟩ | ⟨h50, h⟩
 refine zi (zk (zn (zs (zb (zd ?_)))))
 obtain ⟨x51, h52, h52a, h52b, h⟩ := zX h
 have h52B := eq_true (by simpa only [List.length_set] using h52b)
 refine yU ?_
 refine yd (yn (zn (zr ?_)))
 refine zU (zl ?_)
 cases h
 exact ⟨rfl, zE⟩
 refine zj (zx (ze ?_))
 cases h
 exact ⟨rfl, zE⟩
 refine yw 21 false ?_
 refine yk ?_
 refine yU ?_
 refine yd (zn ?_)
 refine zj (zx (ze ?_))
 cases h
 exact ⟨rfl, zE⟩
 try simp only at h
 refine zA (yh (yn (zn (zr ?_))))
 refine zU (zl ?_)
 cases h
 exact ⟨rfl, zE⟩
 refine zj (zx (ze ?_))
 cases h
 exact ⟨rfl, zE⟩
 try simp only at h
 refine zA (yh ?_)
 refine inlQ_n (by simp only [Tryz.results109]; simp only [go_sem, seval, h29T]; exact rfl) ?_
 obtain ⟨h53, h⟩ := ite_some h
 refine zM ⟨[(30, .p (.tup []))], [(3, .arr 25 3 1 [.p (encTable t1)]), (6, .arr 31 5 1 [.agg [.p (.str []), .nils, .nils, .nils, .nils]]), (105, .arr 36 1 1 (List.map AV.p (List.map (encL (PV.int .i64)) b32)))]⟩ ?_
 clear h53
 refine zl (zn (zq (zt (yr ?_))))
 cases h
 exact ⟨rfl, zE⟩
 have h29T := eq_false h29
 cases h
 try simp only at h
 refine zA (yr ?_)
 refine inlQ_ret (by simp only [Tryz.results74]; simp only [go_sem, seval, h7F, h8F, h12F, h15, h16]; exact rfl) ?_
 obtain ⟨h54, h⟩ := ite_some h
 refine zM ⟨[(13, .p (.tup []))], [(3, .arr 25 3 1 [.p (encTable t1)]), (6, .arr 31 5 1 [.agg [.p (.str []), .nils, .nils, .nils, .nils]]), (105, .arr 36 1 1 (List.map AV.p (List.map (encL (PV.int .i64)) b26)))]⟩ ?_
 clear h54
 refine zl ?_
 refine inlQ_n (by simp only [Tryz.results35]; simp only [go_sem, seval, h7F, h8F, h12F, h15, h16]; exact rfl) ?_
 obtain ⟨h55, h⟩ := ite_some h
 refine zM ⟨[(2, .p (.slc (List.map (PV.int .i64) r3))), (3, .loc 3 1 0 0), (6, .loc 6 1 0 0), (9, .own 105 1 0 b26.length), (41, .p (.tup []))], [(3, .arr 25 3 1 [.p (encTable t1)]), (6, .arr 31 5 1 [.agg [.p (.str []), .nils, .nils, .nils, .nils]]), (105, .arr 36 1 1 (List.map AV.p (List.map (encL (PV.int .i64)) b26)))]⟩ ?_
 clear h55
 refine zl (zn (zs (zd ?_)))
 refine yU ?_
 obtain ⟨r56, h57, h⟩ := zB h
 refine yc (slices_Clone_string_con t1.Attrs _ h57) ?_
 refine yU ?_
 refine yd (zn (zs (zs (zr ?_))))
 refine zU (zl (zn (zb ?_)))
 obtain ⟨o58, h59, h⟩ := zB h
 refine zO (fun (s : List Row × List (List Int) × List (List Int) × Int) => ⟨[(2, .p (.slc (List.map (PV.int .i64) r3))), (3, .loc 3 1 0 0), (6, .loc 6 1 0 0), (10, .loc 10 1 0 0), (49, .own 105 1 0 b26.length), (50, .p (.int .i64 ((b26.length : Nat) : Int))), (51, .p (.int .i64 s.2.2.2))], [(3, .arr 25 3 1 [.p (encTable t1)]), (6, .arr 31 5 1 [.agg [.p (.str []), .nils, .nils, .nils, .nils]]), (10, .arr 31 5 1 [.agg [.p (.str t1.Name), .p (.slc (List.map PV.str r56)), .own 74 1 0 s.1.length, .own 82 1 0 s.2.1.length, .own 88 1 0 s.2.2.1.length]]), (74, .arr 56 2 1 (List.map AV.p (List.map encRow s.1))), (82, .arr 36 1 1 (List.map AV.p (List.map (encL (PV.int .i64)) s.2.1))), (88, .arr 36 1 1 (List.map AV.p (List.map (encL (PV.int .i64)) s.2.2.1))), (105, .arr 36 1 1 (List.map AV.p (List.map (encL (PV.int .i64)) b26)))]⟩) (fun (o : (List Row × List (List Int) × List (List Int)) ⊕ (Merged × Int)) => match o with | .inl o60 => tE (cX Tryz.f10 X w) (.exit 0) ⟨[(6, .loc 6 1 0 0), (10, .loc 10 1 0 0)], [(6, .arr 31 5 1 [.agg [.p (.str []), .nils, .nils, .nils, .nils]]), (10, .arr 31 5 1 [.agg [.p (.str t1.Name), .p (.slc (List.map PV.str r56)), .own 74 1 0 o60.1.length, .own 82 1 0 o60.2.1.length, .own 88 1 0 o60.2.2.length]]), (74, .arr 56 2 1 (List.map AV.p (List.map encRow o60.1))), (82, .arr 36 1 1 (List.map AV.p (List.map (encL (PV.int .i64)) o60.2.1))), (88, .arr 36 1 1 (List.map AV.p (List.map (encL (PV.int .i64)) o60.2.2)))]⟩ | .inr o61 => tR Tryz.prog Tryz.f10 (.tup [(encMerged o61.1), (.int .i64 o61.2)])) h59 ?_ ?_
 clear h h6 h7 h7F h8 h8F h10 h12 h12F h14 h15 h16 h23 h27 h57 h59
 intro s x h
 obtain ⟨o62, o63, o64, t65⟩ := s
 simp only [survivor_Table_l19] at h
 dsimp only
 refine zs (zr ?_)
 refine zU (zl (zn (zs ?_)))
 rcases zI h with ⟨h66, h⟩ | ⟨h66, h⟩
 refine zi (zk (zn (zs (zb (zs (zr ?_))))))
 obtain ⟨x67, h68, h68a, h68b, h⟩ := zX h
 refine zU (zl (zn (zs (zr ?_))))
 refine zU ?_
 obtain ⟨r69, h70, h⟩ := zB h
 refine zc (table_Keep_con t1 x67 _ h70) ?_
 refine zU ?_
 obtain ⟨r71, h72, h⟩ := zB h
 refine zc (survivor_Merge_con r69.Rows r3 _ h72) ?_
 refine zU (zl (zn (zs (zs (zr ?_)))))
 refine zU (zl (zn ?_))
 rcases zI h with ⟨h73, h⟩ | ⟨h73, h⟩
 refine zi (zs (zr ?_))
 refine zU (zl (zn (zq (zt (yr (zt ?_))))))
 cases h
 exact ⟨rfl, zT Tryz.results10⟩
 refine zj (zk (zn (zs (zr ?_))))
 obtain ⟨h74, h⟩ := ite_some h
 refine zU (zl (zn (zs (zd ?_))))
 refine yU ?_
 obtain ⟨r75, h76, h⟩ := zB h
 refine yc (slices_Clone_int64_con x67 _ h76) ?_
 obtain ⟨h77, h⟩ := ite_some h
 refine yU ?_
 refine yd (zn (zr ?_))
 obtain ⟨h78, h⟩ := ite_some h
 refine zU (zl (yn (zn (zr ?_))))
 refine zU (zl ?_)
 cases h
 exact ⟨rfl, zE⟩
 refine zj (zx (ze ?_))
 cases h
 exact ⟨rfl, zE⟩
 rcases o58 with ⟨o79, o80, o81⟩ | r82
 try simp only at h
 refine zA (yh (zn (zs (zr ?_))))
 refine zU (zl (zn (zq ?_)))
 cases h
 exact zT Tryz.results10
 try simp only at h
 refine zZ fun s hq => ?_
 refine yr (zt ?_)
 cases h
 exact hq
 refine zi (zs (zr ?_))
 refine zU (zl (zn (zq (zt ?_))))
 cases h
 exact zT Tryz.results10
end Go.Proofs.YtdmddoljldjjeaaGreat
namespace Go.Proofs
open Go Go.Ab Go.Shelf
def YtdmddoljldjjeaaGreat.sort53_ren : Go.Shelf.Ren := ⟨fun | 5 => 53 | 8 => 75 | 7 => 96 | 19 => 117 | 20 => 118 | 10 => 127 | 11 => 128 | 12 => 129 | 13 => 130 | 14 => 131 | 15 => 132 | 16 => 133 | 17 => 134 | 18 => 135 | 30 => 147 | 31 => 141 | 32 => 142 | 33 => 148 | 34 => 149 | 35 => 76 | 40 => 154 | n => n, fun | 23 => 36 | 25 => 2 | 3 => 3 | 32 => 115 | 22 => 36 | 0 => 0 | 44 => 145 | 46 => 147 | 4 => 4 | 36 => 139 | 35 => 138 | 41 => 88 | 5 => 5 | 9 => 9 | 53 => 161 | 57 => 165 | 63 => 173 | 64 => 174 | n => n, fun | n => n⟩
theorem YtdmddoljldjjeaaGreat.sort53 : Go.Proofs.SlLaysM.n5 Tryz.prog YtdmddoljldjjeaaGreat.sort53_ren := {
  mixed := by kernel_rfl
  f5 := ⟨Tryz.f53.name, by decide, Tryz.func53.trans (congrArg some (by kernel_rfl))⟩
  f7 := ⟨Tryz.f96.name, by decide, Tryz.func96.trans (congrArg some (by kernel_rfl))⟩
  f8 := Tryz.func75.trans (congrArg some (by kernel_rfl))
  f10 := ⟨Tryz.f127.name, by decide, Tryz.func127.trans (congrArg some (by kernel_rfl))⟩
  f11 := ⟨Tryz.f128.name, by decide, Tryz.func128.trans (congrArg some (by kernel_rfl))⟩
  f12 := ⟨Tryz.f129.name, by decide, Tryz.func129.trans (congrArg some (by kernel_rfl))⟩
  f13 := ⟨Tryz.f130.name, by decide, Tryz.func130.trans (congrArg some (by kernel_rfl))⟩
  f14 := ⟨Tryz.f131.name, by decide, Tryz.func131.trans (congrArg some (by kernel_rfl))⟩
  f15 := ⟨Tryz.f132.name, by decide, Tryz.func132.trans (congrArg some (by kernel_rfl))⟩
  f16 := ⟨Tryz.f133.name, by decide, Tryz.func133.trans (congrArg some (by kernel_rfl))⟩
  f17 := ⟨Tryz.f134.name, by decide, Tryz.func134.trans (congrArg some (by kernel_rfl))⟩
  f18 := ⟨Tryz.f135.name, by decide, Tryz.func135.trans (congrArg some (by kernel_rfl))⟩
  f19 := Tryz.func117.trans (congrArg some (by kernel_rfl))
  f20 := Tryz.func118.trans (congrArg some (by kernel_rfl))
  f30 := ⟨Tryz.f147.name, by decide, Tryz.func147.trans (congrArg some (by kernel_rfl))⟩
  f31 := Tryz.func141.trans (congrArg some (by kernel_rfl))
  f32 := Tryz.func142.trans (congrArg some (by kernel_rfl))
  f33 := ⟨Tryz.f148.name, by decide, Tryz.func148.trans (congrArg some (by kernel_rfl))⟩
  f34 := ⟨Tryz.f149.name, by decide, Tryz.func149.trans (congrArg some (by kernel_rfl))⟩
  f35 := ⟨Tryz.f76.name, by decide, Tryz.func76.trans (congrArg some (by kernel_rfl))⟩
  f40 := ⟨Tryz.f154.name, by decide, Tryz.func154.trans (congrArg some (by kernel_rfl))⟩
  t0 := Tryz.underlying0
  a0 := Tryz.isAgg0
  z0 := Tryz.sizeOf0
  v0 := Tryz.zeroValue0
  t3 := Tryz.underlying3
  a3 := Tryz.isAgg3
  z3 := Tryz.sizeOf3
  v3 := Tryz.zeroValue3
  t4 := Tryz.underlying4
  a4 := Tryz.isAgg4
  z4 := Tryz.sizeOf4
  v4 := Tryz.zeroValue4
  t5 := Tryz.underlying5
  a5 := Tryz.isAgg5
  z5 := Tryz.sizeOf5
  v5 := Tryz.zeroValue5
  t9 := Tryz.underlying9
  a9 := Tryz.isAgg9
  z9 := Tryz.sizeOf9
  v9 := Tryz.zeroValue9
  t22 := Tryz.underlying36
  a22 := Tryz.isAgg36
  z22 := Tryz.sizeOf36
  v22 := Tryz.zeroValue36
  t23 := Tryz.underlying36
  a23 := Tryz.isAgg36
  z23 := Tryz.sizeOf36
  v23 := Tryz.zeroValue36
  t25 := Tryz.underlying2
  a25 := Tryz.isAgg2
  z25 := Tryz.sizeOf2
  v25 := Tryz.zeroValue2
  t32 := Tryz.underlying115
  a32 := Tryz.isAgg115
  z32 := Tryz.sizeOf115
  v32 := Tryz.zeroValue115
  t35 := Tryz.underlying138
  a35 := Tryz.isAgg138
  z35 := Tryz.sizeOf138
  v35 := Tryz.zeroValue138
  t36 := Tryz.underlying139
  a36 := Tryz.isAgg139
  z36 := Tryz.sizeOf139
  v36 := Tryz.zeroValue139
  t41 := Tryz.underlying88
  a41 := Tryz.isAgg88
  z41 := Tryz.sizeOf88
  v41 := Tryz.zeroValue88
  t44 := Tryz.underlying145
  a44 := Tryz.isAgg145
  z44 := Tryz.sizeOf145
  v44 := Tryz.zeroValue145
  t46 := Tryz.underlying147
  a46 := Tryz.isAgg147
  z46 := Tryz.sizeOf147
  v46 := Tryz.zeroValue147
  t53 := Tryz.underlying161
  a53 := Tryz.isAgg161
  z53 := Tryz.sizeOf161
  v53 := Tryz.zeroValue161
  t57 := Tryz.underlying165
  a57 := Tryz.isAgg165
  z57 := Tryz.sizeOf165
  v57 := Tryz.zeroValue165
  t63 := Tryz.underlying173
  a63 := Tryz.isAgg173
  z63 := Tryz.sizeOf173
  v63 := Tryz.zeroValue173
  t64 := Tryz.underlying174
  a64 := Tryz.isAgg174
  z64 := Tryz.sizeOf174
  v64 := Tryz.zeroValue174 }
theorem YtdmddoljldjjeaaGreat.srt53 : SrtI Tryz.prog 53 := ⟨Tryz.call53, fun blk off cap zs w hH hb hs => AnyM.slices_Sort_int YtdmddoljldjjeaaGreat.sort53 blk off cap zs w hH hb hs, fun p cap w => AnyM.slices_Sort_int_none YtdmddoljldjjeaaGreat.sort53 p cap w⟩
end Go.Proofs
set_option linter.unusedVariables false
set_option linter.unusedSimpArgs false
namespace Go.Proofs.YtdmddoljldjjeaaGreat
open Go Go.Ab
set_option maxHeartbeats 4000000 in
theorem slices_IndexFunc_int64_con (s1 : List Int) (f2 : Int → Option (Bool)) (f2_k : FuncId) (f2_cs : List PV) (f2_h : ∀ (y3 : Int) (r4 : Bool), f2 y3 = some r4 → Con Tryz.prog f2_k ((.int .i64 y3) :: f2_cs) (.bool r4)) (r5 : Int) (h : slices_IndexFunc_int64 s1 f2 = some r5) : Con Tryz.prog 126 [(.slc (List.map (PV.int .i64) s1)), .func (.func f2_k) f2_cs] (.int .i64 r5) := by
 refine zP Tryz.call126 Tryz.func126 rfl Tryz.ntmps126 fun X w => ?_
 simp only [slices_IndexFunc_int64] at h
 refine zs (zr ?_)
 refine zU (zl (zn (zs (zs (zr ?_)))))
 refine zU (zl (zn (zb ?_)))
 obtain ⟨o6, h7, h⟩ := zB h
 refine zO (fun (s : Int) => ⟨[(0, .p (.slc (List.map (PV.int .i64) s1))), (1, .p (.func (.func f2_k) f2_cs)), (7, .p (.int .i64 (s1.length : Int))), (8, .p (.int .i64 s))], []⟩) (fun (o : (Unit) ⊕ (Int)) => match o with | .inl o8 => tE (cX Tryz.f126 X w) (.exit 0) ⟨[], []⟩ | .inr o9 => tR Tryz.prog Tryz.f126 (.int .i64 o9)) h7 ?_ ?_
 clear h h7
 intro t10 x h
 simp only [slices_IndexFunc_int64_l1] at h
 refine zs (zr ?_)
 refine zU (zl (zn (zs ?_)))
 rcases zI h with ⟨h11, h⟩ | ⟨h11, h⟩
 refine zi (zk (zn (zs (zb (zs (zr ?_))))))
 refine zU (zl (zn (zs (zr ?_))))
 obtain ⟨x12, h13, h13a, h13b, h⟩ := zX h
 refine zU ?_
 obtain ⟨r14, h15, h⟩ := zB h
 refine zc (f2_h x12 _ h15) ?_
 refine zl (zn ?_)
 rcases zI h with ⟨h16, h⟩ | ⟨h16, h⟩
 refine zi (zs (zr ?_))
 refine zU (zl (zn (zq (yr (zt ?_)))))
 cases h
 exact ⟨rfl, zT Tryz.results126⟩
 refine zj (zk (yn (zn (zr ?_))))
 refine zU (zl ?_)
 cases h
 exact ⟨rfl, zE⟩
 refine zj (zx (ze ?_))
 cases h
 exact ⟨rfl, zE⟩
 rcases o6 with ⟨⟩ | r17
 try simp only at h
 refine zA (yh (zn (zs (zr ?_))))
 refine zU (zl (zn (zq ?_)))
 cases h
 exact zT Tryz.results126
 try simp only at h
 refine zZ fun s hq => ?_
 refine yr (zt ?_)
 cases h
 exact hq
end Go.Proofs.YtdmddoljldjjeaaGreat
set_option linter.unusedVariables false
set_option linter.unusedSimpArgs false
namespace Go.Proofs.YtdmddoljldjjeaaGreat
open Go Go.Ab
set_option maxHeartbeats 4000000 in
theorem slices_ContainsFunc_int64_con (s1 : List Int) (f2 : Int → Option (Bool)) (f2_k : FuncId) (f2_cs : List PV) (f2_h : ∀ (y3 : Int) (r4 : Bool), f2 y3 = some r4 → Con Tryz.prog f2_k ((.int .i64 y3) :: f2_cs) (.bool r4)) (r5 : Bool) (h : slices_ContainsFunc_int64 s1 f2 = some r5) : Con Tryz.prog 92 [(.slc (List.map (PV.int .i64) s1)), .func (.func f2_k) f2_cs] (.bool r5) := by
 refine zP Tryz.call92 Tryz.func92 rfl Tryz.ntmps92 fun X w => ?_
 simp only [slices_ContainsFunc_int64] at h
 refine zs (zr ?_)
 refine zU (zl (zn (zs (zr ?_))))
 refine zU ?_
 obtain ⟨r6, h7, h⟩ := zB h
 refine zc (slices_IndexFunc_int64_con s1 f2 f2_k f2_cs f2_h _ h7) ?_
 refine zU (zl (zn (zq ?_)))
 cases h
 exact zT Tryz.results92
end Go.Proofs.YtdmddoljldjjeaaGreat
set_option linter.unusedVariables false
set_option linter.unusedSimpArgs false
namespace Go.Proofs.YtdmddoljldjjeaaGreat
open Go Go.Ab
set_option maxHeartbeats 4000000 in
theorem survivor_wellFormed_1_con (i1 : Int) (c2 : Merged) (c3 : Int) (r4 : Bool) (h : survivor_wellFormed_1 i1 c2 c3 = some r4) : Con Tryz.prog 93 [(.int .i64 i1), .imm [.str c2.Table.Name, .slc (List.map PV.str c2.Table.Attrs), .slc (List.map encRow c2.Table.Rows), .slc (List.map (encL (PV.int .i64)) c2.Clusters), .slc (List.map (encL (PV.int .i64)) c2.Origins)], .imm [.int .i64 c3]] (.bool r4) := by
 refine zP Tryz.call93 Tryz.func93 rfl Tryz.ntmps93 fun X w => ?_
 simp only [survivor_wellFormed_1] at h
 refine zs (zr ?_)
 refine zU (zl (zn (zs (zr ?_))))
 obtain ⟨x5, h6, h6a, h6b, h⟩ := zX h
 refine zU ?_
 obtain ⟨r7, h8, h⟩ := zB h
 refine zc (slices_Contains_int64_con x5 i1 _ h8) ?_
 refine zU (zl (zn (zq ?_)))
 cases h
 exact zT Tryz.results93
end Go.Proofs.YtdmddoljldjjeaaGreat
set_option linter.unusedVariables false
set_option linter.unusedSimpArgs false
namespace Go.Proofs.YtdmddoljldjjeaaGreat
open Go Go.Ab
set_option maxHeartbeats 4000000 in
theorem survivor_wellFormed_con (m1 : Merged) (r2 : Bool) (h : survivor_wellFormed m1 = some r2) : Con Tryz.prog 49 [(encMerged m1)] (.bool r2) := by
 refine zP Tryz.call49 Tryz.func49 rfl Tryz.ntmps49 fun X w => ?_
 simp only [survivor_wellFormed] at h
 refine zs (zr ?_)
 refine zU (zl (zn (zs (zs (zr ?_)))))
 refine zU ?_
 obtain ⟨r3, h4, h⟩ := zB h
 refine zc (table_Valid_con m1.Table _ h4) ?_
 refine zU ?_
 rcases zI h with ⟨h5, h⟩ | ⟨h5, h⟩
 refine zw 11 true ?_
 refine zh ?_
 refine zU ?_
 refine zh ?_
 refine zU (zl (zn ?_))
 refine zi (zs (zr ?_))
 refine zU (zl (zn (zq (zt ?_))))
 cases h
 exact zT Tryz.results49
 refine zw 11 false ?_
 refine zg ?_
 refine zg ?_
 refine zg ?_
 refine zg ?_
 refine zg ?_
 refine zg ?_
 refine zg ?_
 refine zg ?_
 refine zU ?_
 rcases zI h with ⟨h6, h⟩ | ⟨h6, h⟩
 refine zw 21 true ?_
 refine zh ?_
 refine zU (zl (zn ?_))
 refine zi (zs (zr ?_))
 refine zU (zl (zn (zq (zt ?_))))
 cases h
 exact zT Tryz.results49
 refine zw 21 false ?_
 refine zg ?_
 refine zg ?_
 refine zg ?_
 refine zg ?_
 refine zg ?_
 refine zg ?_
 refine zg ?_
 refine zg ?_
 refine zU (zl (zn ?_))
 rcases zI h with ⟨h7, h⟩ | ⟨h7, h⟩
 refine zi (zs (zr ?_))
 refine zU (zl (zn (zq (zt ?_))))
 cases h
 exact zT Tryz.results49
 refine zj (zk (zn (zs (zs (zr ?_)))))
 refine zU ?_
 obtain ⟨r8, h9, h⟩ := zB h
 refine zc (survivor_disjoint_con m1.Clusters _ h9) ?_
 refine zU (zl (zn (zs (zr ?_))))
 refine zU (zl (zn ?_))
 rcases zI h with ⟨h10, h⟩ | ⟨h10, h⟩
 refine zj (zk (zn (zs (zs (zr ?_)))))
 refine zU (zl (zn (zb ?_)))
 obtain ⟨o11, h12, h⟩ := zB h
 refine zO (fun (s : Int) => ⟨[(1, .loc 1 1 0 0), (41, .p (.slc (List.map encRow m1.Table.Rows))), (42, .p (.int .i64 (m1.Table.Rows.length : Int))), (43, .p (.int .i64 s))], [(1, .arr 31 5 1 [.p (encMerged m1)])]⟩) (fun (o : (Unit) ⊕ (Bool)) => match o with | .inl o13 => tE (cX Tryz.f49 X w) (.exit 0) ⟨[], []⟩ | .inr o14 => tR Tryz.prog Tryz.f49 (.bool o14)) h12 ?_ ?_
 clear h h4 h5 h6 h7 h9 h10 h12
 intro t15 x h
 simp only [survivor_wellFormed_l1] at h
 refine zs (zr ?_)
 refine zU (zl (zn (zs ?_)))
 rcases zI h with ⟨h16, h⟩ | ⟨h16, h⟩
 refine zi (zk (zn (zs (zb (zs (zr ?_))))))
 obtain ⟨x17, h18, h18a, h18b, h⟩ := zX h
 refine zU (zl (zn (zs (zd ?_))))
 obtain ⟨x19, h20, h20a, h20b, h⟩ := zX h
 obtain ⟨x21, h22, h22l, h22L, h⟩ := zY 0 h
 refine yU ?_
 rcases zI h with ⟨h23, h⟩ | ⟨h23, h⟩
 refine yw 58 true ?_
 refine yk ?_
 refine yU ?_
 refine yk ?_
 refine yU ?_
 refine yd (zn ?_)
 refine zi (zs (zr ?_))
 refine zU (zl (zn (zq (yr (zt ?_)))))
 cases h
 exact ⟨rfl, zT Tryz.results49⟩
 refine yw 58 false ?_
 refine yg ?_
 refine yg ?_
 refine yg ?_
 obtain ⟨x24, h25, h25a, h25b, h⟩ := zX h
 refine yg ?_
 refine yg ?_
 refine yg ?_
 refine yg ?_
 refine yg ?_
 refine yg ?_
 refine yg ?_
 refine yg ?_
 refine yU ?_
 rcases zI h with ⟨h26, h⟩ | ⟨h26, h⟩
 refine yw 71 true ?_
 refine yk ?_
 refine yU ?_
 refine yd (zn ?_)
 refine zi (zs (zr ?_))
 refine zU (zl (zn (zq (yr (zt ?_)))))
 cases h
 exact ⟨rfl, zT Tryz.results49⟩
 refine yw 71 false ?_
 refine yg ?_
 refine yg ?_
 refine yg ?_
 refine yg ?_
 refine yg ?_
 refine yg ?_
 obtain ⟨r27, h28, h⟩ := zB h
 refine yc (slices_ContainsFunc_int64_con x24 (fun (y29 : Int) => survivor_wellFormed_1 y29 m1 t15) 93 [.imm [.str m1.Table.Name, .slc (List.map PV.str m1.Table.Attrs), .slc (List.map encRow m1.Table.Rows), .slc (List.map (encL (PV.int .i64)) m1.Clusters), .slc (List.map (encL (PV.int .i64)) m1.Origins)], .imm [.int .i64 t15]] (fun y29 r h => survivor_wellFormed_1_con y29 m1 t15 r h) _ h28) ?_
 refine yU ?_
 refine yd (zn ?_)
 rcases zI h with ⟨h30, h⟩ | ⟨h30, h⟩
 refine zi (zs (zr ?_))
 refine zU (zl (zn (zq (yr (zt ?_)))))
 cases h
 exact ⟨rfl, zT Tryz.results49⟩
 refine zj (zk (yn (zn (zr ?_))))
 refine zU (zl ?_)
 cases h
 exact ⟨rfl, zE⟩
 refine zj (zx (ze ?_))
 cases h
 exact ⟨rfl, zE⟩
 rcases o11 with ⟨⟩ | r31
 try simp only at h
 refine zA (yh (zn (zs (zr ?_))))
 refine zU (zl (zn (zq ?_)))
 cases h
 exact zT Tryz.results49
 try simp only at h
 refine zZ fun s hq => ?_
 refine yr (zt ?_)
 cases h
 exact hq
 refine zi (zs (zr ?_))
 refine zU (zl (zn (zq (zt ?_))))
 cases h
 exact zT Tryz.results49
end Go.Proofs.YtdmddoljldjjeaaGreat
set_option linter.unusedVariables false
set_option linter.unusedSimpArgs false
namespace Go.Proofs.YtdmddoljldjjeaaGreat
open Go Go.Ab
set_option maxHeartbeats 4000000 in
theorem table_Find_1_con (r1 : Row) (c2 : Int) (r3 : Bool) (h : table_Find_1 r1 c2 = some r3) : Con Tryz.prog 95 [(encRow r1), .imm [.int .i64 c2]] (.bool r3) := by
 refine zP Tryz.call95 Tryz.func95 rfl Tryz.ntmps95 fun X w => ?_
 simp only [table_Find_1] at h
 refine zs (zr ?_)
 refine zU (zl (zn (zs (zr ?_))))
 refine zU (zl (zn (zq ?_)))
 cases h
 exact zT Tryz.results95
end Go.Proofs.YtdmddoljldjjeaaGreat
set_option linter.unusedVariables false
set_option linter.unusedSimpArgs false
namespace Go.Proofs.YtdmddoljldjjeaaGreat
open Go Go.Ab
set_option maxHeartbeats 4000000 in
theorem table_Find_con (t1 : Table) (i2 : Int) (r3 : Int × Bool) (h : table_Find t1 i2 = some r3) : Con Tryz.prog 52 [(encTable t1), (.int .i64 i2)] (.tup [(.int .i64 r3.1), (.bool r3.2)]) := by
 refine zP Tryz.call52 Tryz.func52 rfl Tryz.ntmps52 fun X w => ?_
 simp only [table_Find] at h
 refine zs (zr ?_)
 refine zU (zl (zn (zs (zr ?_))))
 refine zU ?_
 obtain ⟨r4, h5, h⟩ := zB h
 refine zc (slices_IndexFunc_Row_con t1.Rows (fun (y6 : Row) => table_Find_1 y6 i2) 95 [.imm [.int .i64 i2]] (fun y6 r h => table_Find_1_con y6 i2 r h) _ h5) ?_
 refine zU (zl (zn (zs (zr ?_))))
 refine zU (zl (zn (zq ?_)))
 cases h
 exact zT Tryz.results52
end Go.Proofs.YtdmddoljldjjeaaGreat
set_option linter.unusedVariables false
set_option linter.unusedSimpArgs false
namespace Go.Proofs.YtdmddoljldjjeaaGreat
open Go Go.Ab
set_option maxHeartbeats 4000000 in
theorem slices_Equal_string_con (s1 : List (List UInt8)) (s2 : List (List UInt8)) (r3 : Bool) (h : slices_Equal_string s1 s2 = some r3) : Con Tryz.prog 88 [(.slc (List.map PV.str s1)), (.slc (List.map PV.str s2))] (.bool r3) := by
 refine zP Tryz.call88 Tryz.func88 rfl Tryz.ntmps88 fun X w => ?_
 simp only [slices_Equal_string] at h
 refine zs (zr ?_)
 refine zU (zl (zn (zs (zs (zr ?_)))))
 refine zU (zl (zn ?_))
 rcases zI h with ⟨h4, h⟩ | ⟨h4, h⟩
 refine zi (zs (zr ?_))
 refine zU (zl (zn (zq (zt ?_))))
 cases h
 exact zT Tryz.results88
 refine zj (zk (zn (zs (zs (zr ?_)))))
 refine zU (zl (zn (zb ?_)))
 obtain ⟨o5, h6, h⟩ := zB h
 refine zO (fun (s : Int) => ⟨[(0, .p (.slc (List.map PV.str s1))), (1, .p (.slc (List.map PV.str s2))), (12, .p (.int .i64 (s1.length : Int))), (13, .p (.int .i64 s))], []⟩) (fun (o : (Unit) ⊕ (Bool)) => match o with | .inl o7 => tE (cX Tryz.f88 X w) (.exit 0) ⟨[], []⟩ | .inr o8 => tR Tryz.prog Tryz.f88 (.bool o8)) h6 ?_ ?_
 clear h h4 h6
 intro t9 x h
 simp only [slices_Equal_string_l1] at h
 refine zs (zr ?_)
 refine zU (zl (zn (zs ?_)))
 rcases zI h with ⟨h10, h⟩ | ⟨h10, h⟩
 refine zi (zk (zn (zs (zb (zs (zr ?_))))))
 refine zU (zl (zn (zs (zd ?_))))
 obtain ⟨x11, h12, h12a, h12b, h⟩ := zX h
 obtain ⟨x13, h14, h14a, h14b, h⟩ := zX h
 refine yU ?_
 refine yd (zn ?_)
 rcases zI h with ⟨h15, h⟩ | ⟨h15, h⟩
 refine zj (zk (yn (zn (zr ?_))))
 refine zU (zl ?_)
 cases h
 exact ⟨rfl, zE⟩
 refine zi (zs (zr ?_))
 refine zU (zl (zn (zq (yr (zt ?_)))))
 cases h
 exact ⟨rfl, zT Tryz.results88⟩
 refine zj (zx (ze ?_))
 cases h
 exact ⟨rfl, zE⟩
 rcases o5 with ⟨⟩ | r16
 try simp only at h
 refine zA (yh (zn (zs (zr ?_))))
 refine zU (zl (zn (zq ?_)))
 cases h
 exact zT Tryz.results88
 try simp only at h
 refine zZ fun s hq => ?_
 refine yr (zt ?_)
 cases h
 exact hq
end Go.Proofs.YtdmddoljldjjeaaGreat
set_option linter.unusedVariables false
set_option linter.unusedSimpArgs false
namespace Go.Proofs.YtdmddoljldjjeaaGreat
open Go Go.Ab
set_option maxHeartbeats 4000000 in
theorem survivor_merges_con (t1 : Table) (m2 : Merged) (r3 : Bool) (h : survivor_merges t1 m2 = some r3) : Con Tryz.prog 50 [(encTable t1), (encMerged m2)] (.bool r3) := by
 refine zP Tryz.call50 Tryz.func50 rfl Tryz.ntmps50 fun X w => ?_
 simp only [survivor_merges] at h
 refine zs (zr ?_)
 refine zU (zl (zn (zs (zs (zr ?_)))))
 refine zU ?_
 obtain ⟨r4, h5, h⟩ := zB h
 refine zc (survivor_wellFormed_con m2 _ h5) ?_
 refine zU ?_
 rcases zI h with ⟨h6, h⟩ | ⟨h6, h⟩
 refine zw 14 false ?_
 refine zg ?_
 refine zg ?_
 refine zg ?_
 refine zg ?_
 refine zg ?_
 refine zg ?_
 refine zU ?_
 rcases zI h with ⟨h7, h⟩ | ⟨h7, h⟩
 refine zw 22 false ?_
 refine zg ?_
 refine zg ?_
 refine zg ?_
 refine zg ?_
 refine zg ?_
 obtain ⟨r8, h9, h⟩ := zB h
 refine zc (slices_Equal_string_con t1.Attrs m2.Table.Attrs _ h9) ?_
 refine zg ?_
 refine zU ?_
 rcases zI h with ⟨h10, h⟩ | ⟨h10, h⟩
 refine zw 31 false ?_
 refine zg ?_
 refine zg ?_
 refine zg ?_
 obtain ⟨r11, h12, h⟩ := zB h
 refine zc (survivor_divides_con t1 m2.Clusters _ h12) ?_
 refine zg ?_
 refine zU (zl (zn ?_))
 rcases zI h with ⟨h13, h⟩ | ⟨h13, h⟩
 refine zj (zk (zn (zs (zs (zr ?_)))))
 refine zU (zl (zn (zb ?_)))
 obtain ⟨o14, h15, h⟩ := zB h
 refine zO (fun (s : Int) => ⟨[(2, .loc 2 1 0 0), (3, .loc 3 1 0 0), (40, .p (.slc (List.map encRow m2.Table.Rows))), (41, .p (.int .i64 (m2.Table.Rows.length : Int))), (42, .p (.int .i64 s))], [(2, .arr 25 3 1 [.p (encTable t1)]), (3, .arr 31 5 1 [.p (encMerged m2)])]⟩) (fun (o : (Unit) ⊕ (Bool)) => match o with | .inl o16 => tE (cX Tryz.f50 X w) (.exit 0) ⟨[], []⟩ | .inr o17 => tR Tryz.prog Tryz.f50 (.bool o17)) h15 ?_ ?_
 clear h h5 h6 h7 h9 h10 h12 h13 h15
 intro t18 x h
 simp only [survivor_merges_l4] at h
 refine zs (zr ?_)
 refine zU (zl (zn (zs ?_)))
 rcases zI h with ⟨h19, h⟩ | ⟨h19, h⟩
 refine zi (zk (zn (zs (zb (zs (zr ?_))))))
 obtain ⟨x20, h21, h21a, h21b, h⟩ := zX h
 refine zU (zl (zn (zs (zr ?_))))
 refine zU (zl (zn (zb ?_)))
 obtain ⟨o22, h23, h⟩ := zB h
 refine zO (fun (s : Int) => ⟨[(2, .loc 2 1 0 0), (3, .loc 3 1 0 0), (5, .p (.int .i64 t18)), (40, .p (.slc (List.map encRow m2.Table.Rows))), (41, .p (.int .i64 (m2.Table.Rows.length : Int))), (42, .p (.int .i64 t18)), (48, .p (.slc (List.map encValue x20.Values))), (49, .p (.int .i64 (x20.Values.length : Int))), (50, .p (.int .i64 s))], [(2, .arr 25 3 1 [.p (encTable t1)]), (3, .arr 31 5 1 [.p (encMerged m2)])]⟩) (fun (o : (Unit) ⊕ (Bool)) => match o with | .inl o24 => tE (cX Tryz.f50 X w) (.exit 2) ⟨[(2, .loc 2 1 0 0), (3, .loc 3 1 0 0), (40, .p (.slc (List.map encRow m2.Table.Rows))), (41, .p (.int .i64 (m2.Table.Rows.length : Int))), (42, .p (.int .i64 t18))], [(2, .arr 25 3 1 [.p (encTable t1)]), (3, .arr 31 5 1 [.p (encMerged m2)])]⟩ | .inr o25 => tR Tryz.prog Tryz.f50 (.bool o25)) h23 ?_ ?_
 clear h h19 h21 h21a h21b h23
 intro t26 x h
 simp only [survivor_merges_l3] at h
 refine zs (zr ?_)
 refine zU (zl (zn (zs ?_)))
 rcases zI h with ⟨h27, h⟩ | ⟨h27, h⟩
 refine zi (zk (zn (zs (zb (zs (zr ?_))))))
 obtain ⟨x28, h29, h29a, h29b, h⟩ := zX h
 refine zU (zl (zn (zs (zd ?_))))
 obtain ⟨x30, h31, h31a, h31b, h⟩ := zX h
 obtain ⟨x32, h33, h33a, h33b, h⟩ := zX h
 refine yU ?_
 obtain ⟨r34, h35, h⟩ := zB h
 refine yc (table_Find_con t1 x32 _ h35) ?_
 refine yU ?_
 refine yd (zn (zs (zd ?_)))
 obtain ⟨x36, h37, h37a, h37b, h⟩ := zX h
 obtain ⟨x38, h39, h39a, h39b, h⟩ := zX h
 refine yU ?_
 refine yd (zn ?_)
 rcases zI h with ⟨h40, h⟩ | ⟨h40, h⟩
 refine zj (zk (yn (zn (zr ?_))))
 refine zU (zl ?_)
 cases h
 exact ⟨rfl, zE⟩
 refine zi (zs (zr ?_))
 refine zU (zl (zn (zq (yr (zt ?_)))))
 cases h
 exact ⟨rfl, zT Tryz.results50⟩
 refine zj (zx (ze ?_))
 cases h
 exact ⟨rfl, zE⟩
 rcases o22 with ⟨⟩ | r41
 try simp only at h
 refine zA (yh (yn (zn (zr ?_))))
 refine zU (zl ?_)
 cases h
 exact ⟨rfl, zE⟩
 try simp only at h
 refine zZ fun s hq => ?_
 refine yr (yr (zt ?_))
 cases h
 refine ⟨rfl, ?_⟩
 exact hq
 refine zj (zx (ze ?_))
 cases h
 exact ⟨rfl, zE⟩
 rcases o14 with ⟨⟩ | r42
 try simp only at h
 refine zA (yh (zn (zs (zr ?_))))
 refine zU (zl (zn (zq ?_)))
 cases h
 exact zT Tryz.results50
 try simp only at h
 refine zZ fun s hq => ?_
 refine yr (zt ?_)
 cases h
 exact hq
 refine zi (zs (zr ?_))
 refine zU (zl (zn (zq (zt ?_))))
 cases h
 exact zT Tryz.results50
 refine zw 31 true ?_
 refine zh ?_
 refine zU (zl (zn ?_))
 refine zi (zs (zr ?_))
 refine zU (zl (zn (zq (zt ?_))))
 cases h
 exact zT Tryz.results50
 refine zw 22 true ?_
 refine zh ?_
 refine zU ?_
 refine zh ?_
 refine zU (zl (zn ?_))
 refine zi (zs (zr ?_))
 refine zU (zl (zn (zq (zt ?_))))
 cases h
 exact zT Tryz.results50
 refine zw 14 true ?_
 refine zh ?_
 refine zU ?_
 refine zh ?_
 refine zU ?_
 refine zh ?_
 refine zU (zl (zn ?_))
 refine zi (zs (zr ?_))
 refine zU (zl (zn (zq (zt ?_))))
 cases h
 exact zT Tryz.results50
end Go.Proofs.YtdmddoljldjjeaaGreat
set_option linter.unusedVariables false
set_option linter.unusedSimpArgs false
namespace Go.Proofs.YtdmddoljldjjeaaGreat
open Go Go.Ab
set_option maxHeartbeats 4000000 in
theorem survivor_ids_con (t1 : Table) (r2 : List Int) (h : survivor_ids t1 = some r2) : Con Tryz.prog 51 [(encTable t1)] (.slc (List.map (PV.int .i64) r2)) := by
 refine zP Tryz.call51 Tryz.func51 rfl Tryz.ntmps51 fun X w => ?_
 simp only [survivor_ids] at h
 refine zs (zr ?_)
 refine zU (zl (zn (zs (zr ?_))))
 refine zU (zl (zn (zs (zs (zr ?_)))))
 refine zU (zl (zn (zb ?_)))
 obtain ⟨o3, h4, h⟩ := zB h
 refine zO (fun (s : List Int × Int) => ⟨[(3, .own 17 1 0 s.1.length), (7, .p (.slc (List.map encRow t1.Rows))), (8, .p (.int .i64 (t1.Rows.length : Int))), (9, .p (.int .i64 s.2))], [(17, .arr 2 1 1 (List.map AV.p (List.map (PV.int .i64) s.1)))]⟩) (fun (o5 : List Int) => tE (cX Tryz.f51 X w) (.exit 0) ⟨[(3, .own 17 1 0 o5.length)], [(17, .arr 2 1 1 (List.map AV.p (List.map (PV.int .i64) o5)))]⟩) h4 ?_ ?_
 clear h h4
 intro s x h
 obtain ⟨o6, t7⟩ := s
 simp only [survivor_ids_l1] at h
 dsimp only
 refine zs (zr ?_)
 refine zU (zl (zn (zs ?_)))
 rcases zI h with ⟨h8, h⟩ | ⟨h8, h⟩
 refine zi (zk (zn (zs (zb (zs (zr ?_))))))
 obtain ⟨x9, h10, h10a, h10b, h⟩ := zX h
 refine zU (zl (zn (zr ?_)))
 obtain ⟨h11, h⟩ := ite_some h
 refine zU (zl (yn (zn (zr ?_))))
 refine zU (zl ?_)
 cases h
 exact ⟨rfl, zE⟩
 refine zj (zx (ze ?_))
 cases h
 exact ⟨rfl, zE⟩
 try simp only at h
 refine zA (yh (zn (zs (zr ?_))))
 refine zU (zl (zn (zq ?_)))
 cases h
 exact zT Tryz.results51
end Go.Proofs.YtdmddoljldjjeaaGreat
set_option linter.unusedVariables false
set_option linter.unusedSimpArgs false
namespace Go.Proofs.YtdmddoljldjjeaaGreat
open Go Go.Ab
set_option maxHeartbeats 4000000 in
theorem survivor_Compose_con (a1 : Merged) (b2 : Merged) (r3 : Merged × Int) (h : survivor_Compose a1 b2 = some r3) : Con Tryz.prog 18 [(encMerged a1), (encMerged b2)] (.tup [(encMerged r3.1), (.int .i64 r3.2)]) := by
 refine zP Tryz.call18 Tryz.func18 rfl Tryz.ntmps18 fun X w => ?_
 simp only [survivor_Compose] at h
 refine zs (zr ?_)
 refine zU (zl (zn (zs (zs (zr ?_)))))
 refine zU ?_
 obtain ⟨r4, h5, h⟩ := zB h
 refine zc (survivor_wellFormed_con a1 _ h5) ?_
 refine zU ?_
 rcases zI h with ⟨h6, h⟩ | ⟨h6, h⟩
 refine zw 21 false ?_
 refine zg ?_
 refine zg ?_
 refine zg ?_
 obtain ⟨r7, h8, h⟩ := zB h
 refine zc (survivor_merges_con a1.Table b2 _ h8) ?_
 refine zg ?_
 refine zU (zl (zn ?_))
 rcases zI h with ⟨h9, h⟩ | ⟨h9, h⟩
 refine zj (zk (zn (zs (zd ?_))))
 refine yU ?_
 obtain ⟨r10, h11, h⟩ := zB h
 refine yc (survivor_ids_con b2.Table _ h11) ?_
 obtain ⟨r12, h13, h⟩ := zB h
 refine yc (table_Keep_con b2.Table r10 _ h13) ?_
 refine yU ?_
 refine yd (zn (zs (zs (zr ?_))))
 refine zU (zl (zn (zb ?_)))
 obtain ⟨o14, h15, h⟩ := zB h
 refine zO (fun (s : List (List Int) × List (List Int) × Int) => ⟨[(2, .loc 2 1 0 0), (3, .loc 3 1 0 0), (4, .loc 4 1 0 0), (6, .loc 6 1 0 0), (39, .p (.int .i64 (b2.Table.Rows.length : Int))), (40, .p (.int .i64 s.2.2))], [(2, .arr 31 5 1 [.p (encMerged a1)]), (3, .arr 31 5 1 [.p (encMerged b2)]), (4, .arr 31 5 1 [.agg [.p (.str []), .nils, .nils, .nils, .nils]]), (6, .arr 31 5 1 [.agg [.p (.str r12.Name), .p (.slc (List.map PV.str r12.Attrs)), .p (.slc (List.map encRow r12.Rows)), .own 104 1 0 s.1.length, .own 110 1 0 s.2.1.length]]), (104, .arr 36 1 1 (List.map AV.p (List.map (encL (PV.int .i64)) s.1))), (110, .arr 36 1 1 (List.map AV.p (List.map (encL (PV.int .i64)) s.2.1)))]⟩) (fun (o16 : List (List Int) × List (List Int)) => tE (cX Tryz.f18 X w) (.exit 0) ⟨[(4, .loc 4 1 0 0), (6, .loc 6 1 0 0)], [(4, .arr 31 5 1 [.agg [.p (.str []), .nils, .nils, .nils, .nils]]), (6, .arr 31 5 1 [.agg [.p (.str r12.Name), .p (.slc (List.map PV.str r12.Attrs)), .p (.slc (List.map encRow r12.Rows)), .own 104 1 0 o16.1.length, .own 110 1 0 o16.2.length]]), (104, .arr 36 1 1 (List.map AV.p (List.map (encL (PV.int .i64)) o16.1))), (110, .arr 36 1 1 (List.map AV.p (List.map (encL (PV.int .i64)) o16.2)))]⟩) h15 ?_ ?_
 clear h h5 h6 h8 h9 h11 h13 h15
 intro s x h
 obtain ⟨o17, o18, t19⟩ := s
 simp only [survivor_Compose_l7] at h
 dsimp only
 refine zs (zr ?_)
 refine zU (zl (zn (zs ?_)))
 rcases zI h with ⟨h20, h⟩ | ⟨h20, h⟩
 refine zi (zk (zn (zs (zb (zs (zr ?_))))))
 refine zU (zl (zn (zs (zr ?_))))
 refine zU (zl (zn (zs (zs (zr ?_)))))
 obtain ⟨x21, h22, h22a, h22b, h⟩ := zX h
 refine zU (zl (zn (zb ?_)))
 obtain ⟨c23, h24, h⟩ := zB h
 refine zO (fun (s : List Int × Int) => ⟨[(2, .loc 2 1 0 0), (3, .loc 3 1 0 0), (4, .loc 4 1 0 0), (6, .loc 6 1 0 0), (7, .p (.int .i64 t19)), (8, .own 66 1 0 s.1.length), (9, .nils), (39, .p (.int .i64 (b2.Table.Rows.length : Int))), (40, .p (.int .i64 t19)), (47, .p (.slc (List.map (PV.int .i64) x21))), (48, .p (.int .i64 (x21.length : Int))), (49, .p (.int .i64 s.2))], [(2, .arr 31 5 1 [.p (encMerged a1)]), (3, .arr 31 5 1 [.p (encMerged b2)]), (4, .arr 31 5 1 [.agg [.p (.str []), .nils, .nils, .nils, .nils]]), (6, .arr 31 5 1 [.agg [.p (.str r12.Name), .p (.slc (List.map PV.str r12.Attrs)), .p (.slc (List.map encRow r12.Rows)), .own 104 1 0 o17.length, .own 110 1 0 o18.length]]), (66, .arr 2 1 1 (List.map AV.p (List.map (PV.int .i64) s.1))), (104, .arr 36 1 1 (List.map AV.p (List.map (encL (PV.int .i64)) o17))), (110, .arr 36 1 1 (List.map AV.p (List.map (encL (PV.int .i64)) o18)))]⟩) (fun (o25 : List Int) => tE (cX Tryz.f18 X w) (.exit 2) ⟨[(2, .loc 2 1 0 0), (3, .loc 3 1 0 0), (4, .loc 4 1 0 0), (6, .loc 6 1 0 0), (7, .p (.int .i64 t19)), (8, .own 66 1 0 o25.length), (9, .nils), (39, .p (.int .i64 (b2.Table.Rows.length : Int))), (40, .p (.int .i64 t19))], [(2, .arr 31 5 1 [.p (encMerged a1)]), (3, .arr 31 5 1 [.p (encMerged b2)]), (4, .arr 31 5 1 [.agg [.p (.str []), .nils, .nils, .nils, .nils]]), (6, .arr 31 5 1 [.agg [.p (.str r12.Name), .p (.slc (List.map PV.str r12.Attrs)), .p (.slc (List.map encRow r12.Rows)), .own 104 1 0 o17.length, .own 110 1 0 o18.length]]), (66, .arr 2 1 1 (List.map AV.p (List.map (PV.int .i64) o25))), (104, .arr 36 1 1 (List.map AV.p (List.map (encL (PV.int .i64)) o17))), (110, .arr 36 1 1 (List.map AV.p (List.map (encL (PV.int .i64)) o18)))]⟩) h24 ?_ ?_
 clear h h20 h22 h22a h22b h24
 intro s x h
 obtain ⟨c26, t27⟩ := s
 simp only [survivor_Compose_l5] at h
 dsimp only
 refine zs (zr ?_)
 refine zU (zl (zn (zs ?_)))
 rcases zI h with ⟨h28, h⟩ | ⟨h28, h⟩
 refine zi (zk (zn (zs (zb (zs (zr ?_))))))
 obtain ⟨x29, h30, h30a, h30b, h⟩ := zX h
 refine zU (zl (zn (zs (zr ?_))))
 refine zU ?_
 obtain ⟨r31, h32, h⟩ := zB h
 refine zc (table_Find_con a1.Table x29 _ h32) ?_
 refine zU (zl (zn (zr ?_)))
 obtain ⟨x33, h34, h34a, h34b, h⟩ := zX h
 obtain ⟨h35, h⟩ := ite_some h
 refine zU (zl (yn (zn (zr ?_))))
 refine zU (zl ?_)
 cases h
 exact ⟨rfl, zE⟩
 refine zj (zx (ze ?_))
 cases h
 exact ⟨rfl, zE⟩
 try simp only at h
 refine zA (yh (zn (zs (zr ?_))))
 refine zU ?_
 refine zM ⟨[(2, .loc 2 1 0 0), (3, .loc 3 1 0 0), (4, .loc 4 1 0 0), (6, .loc 6 1 0 0), (7, .p (.int .i64 t19)), (8, .own 66 1 0 c23.length), (9, .nils), (39, .p (.int .i64 (b2.Table.Rows.length : Int))), (40, .p (.int .i64 t19)), (68, .own 66 1 0 c23.length)], [(2, .arr 31 5 1 [.p (encMerged a1)]), (3, .arr 31 5 1 [.p (encMerged b2)]), (4, .arr 31 5 1 [.agg [.p (.str []), .nils, .nils, .nils, .nils]]), (6, .arr 31 5 1 [.agg [.p (.str r12.Name), .p (.slc (List.map PV.str r12.Attrs)), .p (.slc (List.map encRow r12.Rows)), .own 104 1 0 o17.length, .own 110 1 0 o18.length]]), (66, .arr 2 1 1 (List.map AV.p (List.map (PV.int .i64) c23))), (104, .arr 36 1 1 (List.map AV.p (List.map (encL (PV.int .i64)) o17))), (110, .arr 36 1 1 (List.map AV.p (List.map (encL (PV.int .i64)) o18)))]⟩ ?_
 obtain ⟨l36, h37, h⟩ := zB h
 refine zSI srt53 h37 ?_
 have h38 := srtIF_len h37
 refine zM ⟨[(2, .loc 2 1 0 0), (3, .loc 3 1 0 0), (4, .loc 4 1 0 0), (6, .loc 6 1 0 0), (7, .p (.int .i64 t19)), (8, .own 66 1 0 l36.length), (9, .nils), (39, .p (.int .i64 (b2.Table.Rows.length : Int))), (40, .p (.int .i64 t19)), (69, .p (.tup []))], [(2, .arr 31 5 1 [.p (encMerged a1)]), (3, .arr 31 5 1 [.p (encMerged b2)]), (4, .arr 31 5 1 [.agg [.p (.str []), .nils, .nils, .nils, .nils]]), (6, .arr 31 5 1 [.agg [.p (.str r12.Name), .p (.slc (List.map PV.str r12.Attrs)), .p (.slc (List.map encRow r12.Rows)), .own 104 1 0 o17.length, .own 110 1 0 o18.length]]), (66, .arr 2 1 1 (List.map AV.p (List.map (PV.int .i64) l36))), (104, .arr 36 1 1 (List.map AV.p (List.map (encL (PV.int .i64)) o17))), (110, .arr 36 1 1 (List.map AV.p (List.map (encL (PV.int .i64)) o18)))]⟩ ?_
 clear h38
 refine zl (zn (zs (zs (zr ?_))))
 obtain ⟨x39, h40, h40a, h40b, h⟩ := zX h
 refine zU (zl (zn (zb ?_)))
 obtain ⟨o41, h42, h⟩ := zB h
 refine zO (fun (s : List Int × Int) => ⟨[(2, .loc 2 1 0 0), (3, .loc 3 1 0 0), (4, .loc 4 1 0 0), (6, .loc 6 1 0 0), (8, .own 66 1 0 l36.length), (9, .own 98 1 0 s.1.length), (39, .p (.int .i64 (b2.Table.Rows.length : Int))), (40, .p (.int .i64 t19)), (74, .p (.slc (List.map (PV.int .i64) x39))), (75, .p (.int .i64 (x39.length : Int))), (76, .p (.int .i64 s.2))], [(2, .arr 31 5 1 [.p (encMerged a1)]), (3, .arr 31 5 1 [.p (encMerged b2)]), (4, .arr 31 5 1 [.agg [.p (.str []), .nils, .nils, .nils, .nils]]), (6, .arr 31 5 1 [.agg [.p (.str r12.Name), .p (.slc (List.map PV.str r12.Attrs)), .p (.slc (List.map encRow r12.Rows)), .own 104 1 0 o17.length, .own 110 1 0 o18.length]]), (66, .arr 2 1 1 (List.map AV.p (List.map (PV.int .i64) l36))), (98, .arr 2 1 1 (List.map AV.p (List.map (PV.int .i64) s.1))), (104, .arr 36 1 1 (List.map AV.p (List.map (encL (PV.int .i64)) o17))), (110, .arr 36 1 1 (List.map AV.p (List.map (encL (PV.int .i64)) o18)))]⟩) (fun (o43 : List Int) => tE (cX Tryz.f18 X w) (.exit 4) ⟨[(2, .loc 2 1 0 0), (3, .loc 3 1 0 0), (4, .loc 4 1 0 0), (6, .loc 6 1 0 0), (8, .own 66 1 0 l36.length), (9, .own 98 1 0 o43.length), (39, .p (.int .i64 (b2.Table.Rows.length : Int))), (40, .p (.int .i64 t19))], [(2, .arr 31 5 1 [.p (encMerged a1)]), (3, .arr 31 5 1 [.p (encMerged b2)]), (4, .arr 31 5 1 [.agg [.p (.str []), .nils, .nils, .nils, .nils]]), (6, .arr 31 5 1 [.agg [.p (.str r12.Name), .p (.slc (List.map PV.str r12.Attrs)), .p (.slc (List.map encRow r12.Rows)), .own 104 1 0 o17.length, .own 110 1 0 o18.length]]), (66, .arr 2 1 1 (List.map AV.p (List.map (PV.int .i64) l36))), (98, .arr 2 1 1 (List.map AV.p (List.map (PV.int .i64) o43))), (104, .arr 36 1 1 (List.map AV.p (List.map (encL (PV.int .i64)) o17))), (110, .arr 36 1 1 (List.map AV.p (List.map (encL (PV.int .i64)) o18)))]⟩) h42 ?_ ?_
 clear h h20 h22 h22a h22b h24 h37 h40 h40a h40b h42
 intro s x h
 obtain ⟨o44, t45⟩ := s
 simp only [survivor_Compose_l6] at h
 dsimp only
 refine zs (zr ?_)
 refine zU (zl (zn (zs ?_)))
 rcases zI h with ⟨h46, h⟩ | ⟨h46, h⟩
 refine zi (zk (zn (zs (zb (zs (zr ?_))))))
 obtain ⟨x47, h48, h48a, h48b, h⟩ := zX h
 refine zU (zl (zn (zs (zr ?_))))
 refine zU ?_
 obtain ⟨r49, h50, h⟩ := zB h
 refine zc (table_Find_con a1.Table x47 _ h50) ?_
 refine zU (zl (zn (zr ?_)))
 obtain ⟨x51, h52, h52a, h52b, h⟩ := zX h
 obtain ⟨x53, h54, h54a, h54b, h⟩ := zX h
 obtain ⟨h55, h⟩ := ite_some h
 refine zU (zl (yn (zn (zr ?_))))
 refine zU (zl ?_)
 cases h
 exact ⟨rfl, zE⟩
 refine zj (zx (ze ?_))
 cases h
 exact ⟨rfl, zE⟩
 try simp only at h
 refine zA (yh (zn (zs (zr ?_))))
 refine zW 4 ?_
 refine zM ⟨[(2, .loc 2 1 0 0), (3, .loc 3 1 0 0), (4, .loc 4 1 0 0), (6, .loc 6 1 0 0), (9, .own 98 1 0 o41.length), (39, .p (.int .i64 (b2.Table.Rows.length : Int))), (40, .p (.int .i64 t19)), (101, .own 104 1 0 o17.length), (103, .own 103 1 0 1)], [(2, .arr 31 5 1 [.p (encMerged a1)]), (3, .arr 31 5 1 [.p (encMerged b2)]), (4, .arr 31 5 1 [.agg [.p (.str []), .nils, .nils, .nils, .nils]]), (6, .arr 31 5 1 [.agg [.p (.str r12.Name), .p (.slc (List.map PV.str r12.Attrs)), .p (.slc (List.map encRow r12.Rows)), .own 104 1 0 o17.length, .own 110 1 0 o18.length]]), (98, .arr 2 1 1 (List.map AV.p (List.map (PV.int .i64) o41))), (103, .arr 36 1 1 [.p (.slc (List.map (PV.int .i64) l36))]), (104, .arr 36 1 1 (List.map AV.p (List.map (encL (PV.int .i64)) o17))), (110, .arr 36 1 1 (List.map AV.p (List.map (encL (PV.int .i64)) o18)))]⟩ ?_
 obtain ⟨h56, h⟩ := ite_some h
 refine zU (zl (zn (zr ?_)))
 refine zW 4 ?_
 refine zM ⟨[(2, .loc 2 1 0 0), (3, .loc 3 1 0 0), (4, .loc 4 1 0 0), (6, .loc 6 1 0 0), (39, .p (.int .i64 (b2.Table.Rows.length : Int))), (40, .p (.int .i64 t19)), (107, .own 110 1 0 o18.length), (109, .own 109 1 0 1)], [(2, .arr 31 5 1 [.p (encMerged a1)]), (3, .arr 31 5 1 [.p (encMerged b2)]), (4, .arr 31 5 1 [.agg [.p (.str []), .nils, .nils, .nils, .nils]]), (6, .arr 31 5 1 [.agg [.p (.str r12.Name), .p (.slc (List.map PV.str r12.Attrs)), .p (.slc (List.map encRow r12.Rows)), .own 104 1 0 ((o17 ++ [l36])).length, .own 110 1 0 o18.length]]), (104, .arr 36 1 1 (List.map AV.p (List.map (encL (PV.int .i64)) (o17 ++ [l36])))), (109, .arr 36 1 1 [.p (.slc (List.map (PV.int .i64) o41))]), (110, .arr 36 1 1 (List.map AV.p (List.map (encL (PV.int .i64)) o18)))]⟩ ?_
 obtain ⟨h57, h⟩ := ite_some h
 refine zU (zl (yn (zn (zr ?_))))
 refine zU (zl ?_)
 cases h
 exact ⟨rfl, zE⟩
 refine zj (zx (ze ?_))
 cases h
 exact ⟨rfl, zE⟩
 obtain ⟨o58, o59⟩ := o14
 try simp only at h
 refine zA (yh (zn (zs (zr ?_))))
 refine zU (zl (zn (zq ?_)))
 cases h
 exact zT Tryz.results18
 refine zi (zs (zr ?_))
 refine zU (zl (zn (zq (zt ?_))))
 cases h
 exact zT Tryz.results18
 refine zw 21 true ?_
 refine zh ?_
 refine zU (zl (zn ?_))
 refine zi (zs (zr ?_))
 refine zU (zl (zn (zq (zt ?_))))
 cases h
 exact zT Tryz.results18
end Go.Proofs.YtdmddoljldjjeaaGreat
set_option linter.unusedVariables false
set_option linter.unusedSimpArgs false
namespace Go.Proofs.YtdmddoljldjjeaaGreat
open Go Go.Ab
set_option maxHeartbeats 4000000 in
theorem drossref01_Of_con (c1 : Int) (r2 : Value) (h : drossref01_Of c1 = some r2) : Con Tryz.prog 97 [(.int .u8 c1)] (encValue r2) := by
 refine zP Tryz.call97 Tryz.func97 rfl Tryz.ntmps97 fun X w => ?_
 simp only [drossref01_Of] at h
 refine zs (zr ?_)
 refine zU (zl (zn (zs (zs (zr ?_)))))
 refine zU (zl (zn (zb (zs (zr ?_)))))
 refine zU (zl (zn ?_))
 rcases zI h with ⟨h3, h⟩ | ⟨h3, h⟩
 refine zi (zs (zr ?_))
 refine zU (zl (zn (zq (yr (zt ?_)))))
 cases h
 exact zT Tryz.results97
 refine zj (zs (zr ?_))
 refine zU (zl (zn ?_))
 rcases zI h with ⟨h4, h⟩ | ⟨h4, h⟩
 refine zi (zs (zr ?_))
 refine zU (zl (zn (zq (yr (zt ?_)))))
 cases h
 exact zT Tryz.results97
 refine zj (zs (zr ?_))
 refine zU (zl (zn ?_))
 rcases zI h with ⟨h5, h⟩ | ⟨h5, h⟩
 refine zi (zs (zr ?_))
 refine zU (zl (zn (zq (yr (zt ?_)))))
 cases h
 exact zT Tryz.results97
 refine zj (zs (zr ?_))
 refine zU (zl (zn ?_))
 rcases zI h with ⟨h6, h⟩ | ⟨h6, h⟩
 refine zi (zs (zr ?_))
 refine zU (zl (zn (zq (yr (zt ?_)))))
 cases h
 exact zT Tryz.results97
 refine zj (zs (zr ?_))
 refine zU (zl (zn ?_))
 rcases zI h with ⟨h7, h⟩ | ⟨h7, h⟩
 refine zi (zs (zr ?_))
 refine zU (zl (zn (zq (yr (zt ?_)))))
 cases h
 exact zT Tryz.results97
 refine zj (zs (zr ?_))
 refine zU (zl (zn ?_))
 rcases zI h with ⟨h8, h⟩ | ⟨h8, h⟩
 refine zi (zs (zr ?_))
 refine zU (zl (zn (zq (yr (zt ?_)))))
 cases h
 exact zT Tryz.results97
 refine zj (zs (zr ?_))
 refine zU (zl (zn ?_))
 rcases zI h with ⟨h9, h⟩ | ⟨h9, h⟩
 refine zi (zs (zr ?_))
 refine zU (zl (zn (zq (yr (zt ?_)))))
 cases h
 exact zT Tryz.results97
 refine zj (zs (zr ?_))
 refine zU (zl (zn ?_))
 rcases zI h with ⟨h10, h⟩ | ⟨h10, h⟩
 refine zi (zs (zr ?_))
 refine zU (zl (zn (zq (yr (zt ?_)))))
 cases h
 exact zT Tryz.results97
 refine zj (zs (zr ?_))
 refine zU (zl (zn ?_))
 rcases zI h with ⟨h11, h⟩ | ⟨h11, h⟩
 refine zi (zs (zr ?_))
 refine zU (zl (zn (zq (yr (zt ?_)))))
 cases h
 exact zT Tryz.results97
 refine zj (zs (zr ?_))
 refine zU (zl (zn ?_))
 rcases zI h with ⟨h12, h⟩ | ⟨h12, h⟩
 refine zi (zs (zr ?_))
 refine zU (zl (zn (zq (yr (zt ?_)))))
 cases h
 exact zT Tryz.results97
 refine zj (zs (zr ?_))
 refine zU (zl (zn ?_))
 rcases zI h with ⟨h13, h⟩ | ⟨h13, h⟩
 refine zi (zs (zr ?_))
 refine zU (zl (zn (zq (yr (zt ?_)))))
 cases h
 exact zT Tryz.results97
 refine zj (zk (yn (zn (zs (zr ?_)))))
 refine zU (zl (zn (zq ?_)))
 cases h
 exact zT Tryz.results97
end Go.Proofs.YtdmddoljldjjeaaGreat
set_option linter.unusedVariables false
set_option linter.unusedSimpArgs false
namespace Go.Proofs.YtdmddoljldjjeaaGreat
open Go Go.Ab
set_option maxHeartbeats 4000000 in
theorem drossref03_Wide_con (x1 : Drossref03_Recipe) (n2 : Int) (r3 : Table) (h : drossref03_Wide x1 n2 = some r3) : Con Tryz.prog 56 [(encDrossref03_Recipe x1), (.int .i64 n2)] (encTable r3) := by
 refine zP Tryz.call56 Tryz.func56 rfl Tryz.ntmps56 fun X w => ?_
 simp only [drossref03_Wide] at h
 refine zs (zr ?_)
 refine zU (zl (zn (zs (zr ?_))))
 obtain ⟨h4, h⟩ := ite_some h
 obtain ⟨h5, h⟩ := ite_some h
 refine zW 4 ?_
 obtain ⟨l6, h7, h⟩ := zB h
 replace h7 := Option.some.inj h7
 refine AL_le (st' := ⟨[(1, .p (.int .i64 n2)), (2, .loc 2 1 0 0), (4, .loc 4 1 0 0), (10, .own 10 1 0 0), (13, .own 11 1 0 n2.toNat)], [(2, .arr 45 3 1 [.p (encDrossref03_Recipe x1)]), (4, .arr 25 3 1 [.agg [.p (.str []), .nils, .nils]]), (10, .arr 9 1 1 []), (11, .arr 9 1 1 (List.map AV.p (List.map PV.str l6)))]⟩) (by simp only [go_sem, seval, ← h7]; all_goals ((repeat' refine And.intro ?_ ?_) <;> first | rfl | (simp; done) | (simp; rfl) | (simp [*]; done) | (simp [*]; rfl))) ?_
 have h7n : l6.length = 8 := by rw [← h7]; rfl
 clear h7
 obtain ⟨h8, h⟩ := ite_some h
 refine zU (zl (zn (zs (zs (zr ?_)))))
 refine zU (zl (zn (zb ?_)))
 obtain ⟨t9, h10, h⟩ := zB h
 refine zO (fun (s : List Row × Int) => ⟨[(1, .p (.int .i64 n2)), (2, .loc 2 1 0 0), (4, .loc 4 1 0 0), (5, .loc 5 1 0 0), (6, .p (.int .i64 s.2))], [(2, .arr 45 3 1 [.p (encDrossref03_Recipe x1)]), (4, .arr 25 3 1 [.agg [.p (.str []), .nils, .nils]]), (5, .arr 25 3 1 [.agg [.p (.str [114]), .own 10 1 0 ((l6.take n2.toNat)).length, .own 64 1 0 s.1.length]]), (10, .arr 9 1 1 (List.map AV.p (List.map PV.str (l6.take n2.toNat)))), (64, .arr 56 2 1 (List.map AV.p (List.map encRow s.1)))]⟩) (fun (o11 : List Row) => tE (cX Tryz.f56 X w) (.exit 0) ⟨[(4, .loc 4 1 0 0), (5, .loc 5 1 0 0)], [(4, .arr 25 3 1 [.agg [.p (.str []), .nils, .nils]]), (5, .arr 25 3 1 [.agg [.p (.str [114]), .own 10 1 0 ((l6.take n2.toNat)).length, .own 64 1 0 o11.length]]), (10, .arr 9 1 1 (List.map AV.p (List.map PV.str (l6.take n2.toNat)))), (64, .arr 56 2 1 (List.map AV.p (List.map encRow o11)))]⟩) h10 ?_ ?_
 clear h h4 h5 h7n h8 h10
 intro s x h
 obtain ⟨t12, i13⟩ := s
 simp only [drossref03_Wide_l4] at h
 dsimp only
 refine zs (zs (zr ?_))
 refine zU (zl (zn ?_))
 rcases zI h with ⟨h14, h⟩ | ⟨h14, h⟩
 refine zi (zk (zn (zs (zb (zs (zr ?_))))))
 refine zU (zl (zn (zs (zs (zr ?_)))))
 refine zU (zl (zn (zb ?_)))
 obtain ⟨r15, h16, h⟩ := zB h
 refine zO (fun (s : List Value × Int) => ⟨[(1, .p (.int .i64 n2)), (2, .loc 2 1 0 0), (4, .loc 4 1 0 0), (5, .loc 5 1 0 0), (6, .p (.int .i64 i13)), (7, .loc 7 1 0 0), (8, .p (.int .i64 s.2))], [(2, .arr 45 3 1 [.p (encDrossref03_Recipe x1)]), (4, .arr 25 3 1 [.agg [.p (.str []), .nils, .nils]]), (5, .arr 25 3 1 [.agg [.p (.str [114]), .own 10 1 0 ((l6.take n2.toNat)).length, .own 64 1 0 t12.length]]), (7, .arr 56 2 1 [.agg [.p (.int .i64 (IntKind.i64.wrap (1 + (IntKind.i64.wrap (i13 * (IntKind.i64.wrap (1 + (IntKind.i64.wrap (Int.tmod x1.Gap 3))))))))), .own 58 1 0 s.1.length]]), (10, .arr 9 1 1 (List.map AV.p (List.map PV.str (l6.take n2.toNat)))), (58, .arr 64 3 1 (List.map AV.p (List.map encValue s.1))), (64, .arr 56 2 1 (List.map AV.p (List.map encRow t12)))]⟩) (fun (o17 : List Value) => tE (cX Tryz.f56 X w) (.exit 2) ⟨[(1, .p (.int .i64 n2)), (2, .loc 2 1 0 0), (4, .loc 4 1 0 0), (5, .loc 5 1 0 0), (6, .p (.int .i64 i13)), (7, .loc 7 1 0 0)], [(2, .arr 45 3 1 [.p (encDrossref03_Recipe x1)]), (4, .arr 25 3 1 [.agg [.p (.str []), .nils, .nils]]), (5, .arr 25 3 1 [.agg [.p (.str [114]), .own 10 1 0 ((l6.take n2.toNat)).length, .own 64 1 0 t12.length]]), (7, .arr 56 2 1 [.agg [.p (.int .i64 (IntKind.i64.wrap (1 + (IntKind.i64.wrap (i13 * (IntKind.i64.wrap (1 + (IntKind.i64.wrap (Int.tmod x1.Gap 3))))))))), .own 58 1 0 o17.length]]), (10, .arr 9 1 1 (List.map AV.p (List.map PV.str (l6.take n2.toNat)))), (58, .arr 64 3 1 (List.map AV.p (List.map encValue o17))), (64, .arr 56 2 1 (List.map AV.p (List.map encRow t12)))]⟩) h16 ?_ ?_
 clear h h14 h16
 intro s x h
 obtain ⟨r18, k19⟩ := s
 simp only [drossref03_Wide_l3] at h
 dsimp only
 refine zs (zs (zr ?_))
 refine zU (zl (zn ?_))
 rcases zI h with ⟨h20, h⟩ | ⟨h20, h⟩
 refine zi (zk (zn (zs (zb (zs (zr ?_))))))
 refine zU (zl (zn (zs (zs (zr ?_)))))
 obtain ⟨x21, h22, h22a, h22b, h⟩ := zX h
 refine zU (zl (zn ?_))
 rcases zI h with ⟨h23, h⟩ | ⟨h23, h⟩
 refine zi (zr ?_)
 obtain ⟨x24, h25, h25a, h25b, h⟩ := zX h
 refine zU (zl (zn (zd ?_)))
 refine yU ?_
 obtain ⟨r26, h27, h⟩ := zB h
 refine yc (drossref01_Of_con x24 _ h27) ?_
 obtain ⟨h28, h⟩ := ite_some h
 refine yU ?_
 refine yd (yn (zn (zr ?_)))
 refine zU (zl ?_)
 cases h
 exact ⟨rfl, zE⟩
 refine zj (zk (zn (zd ?_)))
 refine yU ?_
 obtain ⟨r29, h30, h⟩ := zB h
 refine yc (drossref01_Of_con 0 _ h30) ?_
 obtain ⟨h31, h⟩ := ite_some h
 refine yU ?_
 refine yd (yn (zn (zr ?_)))
 refine zU (zl ?_)
 cases h
 exact ⟨rfl, zE⟩
 refine zj (zx (ze ?_))
 cases h
 exact ⟨rfl, zE⟩
 try simp only at h
 refine zA (yh (zn (zr ?_)))
 refine zW 4 ?_
 refine zM ⟨[(1, .p (.int .i64 n2)), (2, .loc 2 1 0 0), (4, .loc 4 1 0 0), (5, .loc 5 1 0 0), (6, .p (.int .i64 i13)), (61, .own 64 1 0 t12.length), (63, .own 63 1 0 1)], [(2, .arr 45 3 1 [.p (encDrossref03_Recipe x1)]), (4, .arr 25 3 1 [.agg [.p (.str []), .nils, .nils]]), (5, .arr 25 3 1 [.agg [.p (.str [114]), .own 10 1 0 ((l6.take n2.toNat)).length, .own 64 1 0 t12.length]]), (10, .arr 9 1 1 (List.map AV.p (List.map PV.str (l6.take n2.toNat)))), (63, .arr 56 2 1 [.p (.agg [.int .i64 (IntKind.i64.wrap (1 + (IntKind.i64.wrap (i13 * (IntKind.i64.wrap (1 + (IntKind.i64.wrap (Int.tmod x1.Gap 3)))))))), .slc (List.map encValue r15)])]), (64, .arr 56 2 1 (List.map AV.p (List.map encRow t12)))]⟩ ?_
 obtain ⟨h32, h⟩ := ite_some h
 refine zU (zl (yn (zn (zr ?_))))
 refine zU (zl ?_)
 cases h
 exact ⟨rfl, zE⟩
 refine zj (zx (ze ?_))
 cases h
 exact ⟨rfl, zE⟩
 try simp only at h
 refine zA (yh (zn (zs (zr ?_))))
 refine zU (zl (zn (zq ?_)))
 cases h
 exact zT Tryz.results56
end Go.Proofs.YtdmddoljldjjeaaGreat
set_option linter.unusedVariables false
set_option linter.unusedSimpArgs false
namespace Go.Proofs.YtdmddoljldjjeaaGreat
open Go Go.Ab
set_option maxHeartbeats 4000000 in
theorem drossref03_Table_con (x1 : Drossref03_Recipe) (m2 : Int) (r3 : Table × Bool) (h : drossref03_Table x1 m2 = some r3) : Con Tryz.prog 20 [(encDrossref03_Recipe x1), (.int .i64 m2)] (.tup [(encTable r3.1), (.bool r3.2)]) := by
 refine zP Tryz.call20 Tryz.func20 rfl Tryz.ntmps20 fun X w => ?_
 simp only [drossref03_Table] at h
 refine zs (zr ?_)
 refine zU (zl (zn (zs (zs (zr ?_)))))
 refine zU (zl (zn ?_))
 rcases zI h with ⟨h4, h⟩ | ⟨h4, h⟩
 refine zi (zs (zr ?_))
 refine zU (zl (zn (zq (zt ?_))))
 cases h
 exact zT Tryz.results20
 refine zj (zk (zn (zs (zr ?_))))
 refine zU ?_
 obtain ⟨r5, h6, h⟩ := zB h
 refine zc (drossref03_Wide_con x1 (IntKind.i64.wrap (Int.tmod x1.Attrs 6)) _ h6) ?_
 refine zU (zl (zn (zq ?_)))
 cases h
 exact zT Tryz.results20
end Go.Proofs.YtdmddoljldjjeaaGreat
set_option linter.unusedVariables false
set_option linter.unusedSimpArgs false
namespace Go.Proofs.YtdmddoljldjjeaaGreat
open Go Go.Ab
set_option maxHeartbeats 4000000 in
theorem drossref55_List_con (t1 : Table) (p2 : Drossref55_Plan) (r3 : List Int) (h : drossref55_List t1 p2 = some r3) : Con Tryz.prog 21 [(encTable t1), (encDrossref55_Plan p2)] (.slc (List.map (PV.int .i64) r3)) := by
 refine zP Tryz.call21 Tryz.func21 rfl Tryz.ntmps21 fun X w => ?_
 simp only [drossref55_List] at h
 refine zs (zr ?_)
 refine zU (zl (zn (zs (zr ?_))))
 refine zU (zl (zn (zs (zs (zr ?_)))))
 refine zU (zl (zn (zb ?_)))
 obtain ⟨o4, h5, h⟩ := zB h
 refine zO (fun (s : List Int × Int) => ⟨[(2, .loc 2 1 0 0), (3, .loc 3 1 0 0), (5, .own 31 1 0 s.1.length), (6, .p (.int .i64 s.2))], [(2, .arr 25 3 1 [.p (encTable t1)]), (3, .arr 48 2 1 [.p (encDrossref55_Plan p2)]), (31, .arr 3 1 1 (List.map AV.p (List.map (PV.int .i64) s.1)))]⟩) (fun (o6 : List Int) => tE (cX Tryz.f21 X w) (.exit 0) ⟨[(5, .own 31 1 0 o6.length)], [(31, .arr 3 1 1 (List.map AV.p (List.map (PV.int .i64) o6)))]⟩) h5 ?_ ?_
 clear h h5
 intro s x h
 obtain ⟨o7, i8⟩ := s
 simp only [drossref55_List_l1] at h
 dsimp only
 refine zs (zs (zr ?_))
 refine zU (zl (zn ?_))
 rcases zI h with ⟨h9, h⟩ | ⟨h9, h⟩
 refine zi (zk (zn (zs (zb (zs (zr ?_))))))
 refine zU (zl (zn (zs (zs (zr ?_)))))
 refine zU (zl (zn ?_))
 rcases zI h with ⟨h10, h⟩ | ⟨h10, h⟩
 refine zi (zr ?_)
 obtain ⟨x11, h12, h12a, h12b, h⟩ := zX h
 refine zU (zl (zn (zr ?_)))
 obtain ⟨h13, h⟩ := ite_some h
 refine zU (zl (yn (zn (zr ?_))))
 refine zU (zl ?_)
 cases h
 exact ⟨rfl, zE⟩
 refine zj (zk (zn (zr ?_)))
 obtain ⟨h14, h⟩ := ite_some h
 refine zU (zl (yn (zn (zr ?_))))
 refine zU (zl ?_)
 cases h
 exact ⟨rfl, zE⟩
 refine zj (zx (ze ?_))
 cases h
 exact ⟨rfl, zE⟩
 try simp only at h
 refine zA (yh (zn (zs (zr ?_))))
 refine zU (zl (zn (zq ?_)))
 cases h
 exact zT Tryz.results21
end Go.Proofs.YtdmddoljldjjeaaGreat
set_option linter.unusedVariables false
set_option linter.unusedSimpArgs false
namespace Go.Proofs.YtdmddoljldjjeaaGreat
open Go Go.Ab
set_option maxHeartbeats 4000000 in
theorem drossref55_label_con (p1 : Drossref55_Plan) (i2 : Int) (r3 : Int) (h : drossref55_label p1 i2 = some r3) : Con Tryz.prog 57 [(encDrossref55_Plan p1), (.int .i64 i2)] (.int .u8 r3) := by
 refine zP Tryz.call57 Tryz.func57 rfl Tryz.ntmps57 fun X w => ?_
 simp only [drossref55_label] at h
 refine zs (zr ?_)
 refine zU (zl (zn (zs (zs (zr ?_)))))
 refine zU (zl (zn ?_))
 rcases zI h with ⟨h4, h⟩ | ⟨h4, h⟩
 refine zi (zs (zr ?_))
 obtain ⟨x5, h6, h6a, h6b, h⟩ := zX h
 refine zU (zl (zn (zq (zt ?_))))
 cases h
 exact zT Tryz.results57
 refine zj (zk (zn (zs (zr ?_))))
 refine zU (zl (zn (zq ?_)))
 cases h
 exact zT Tryz.results57
end Go.Proofs.YtdmddoljldjjeaaGreat
set_option linter.unusedVariables false
set_option linter.unusedSimpArgs false
namespace Go.Proofs.YtdmddoljldjjeaaGreat
open Go Go.Ab
set_option maxHeartbeats 4000000 in
theorem drossref55_Clusters_con (t1 : Table) (p2 : Drossref55_Plan) (r3 : List (List Int)) (h : drossref55_Clusters t1 p2 = some r3) : Con Tryz.prog 22 [(encTable t1), (encDrossref55_Plan p2)] (.slc (List.map (encL (PV.int .i64)) r3)) := by
 refine zP Tryz.call22 Tryz.func22 rfl Tryz.ntmps22 fun X w => ?_
 simp only [drossref55_Clusters] at h
 refine zs (zr ?_)
 refine zU (zl (zn (zs (zr ?_))))
 refine zU (zl (zn (zs (zs (zr ?_)))))
 refine zU (zl (zn (zb ?_)))
 obtain ⟨o4, h5, h⟩ := zB h
 refine zO (fun (s : List (List Int) × Int) => ⟨[(2, .loc 2 1 0 0), (3, .loc 3 1 0 0), (5, .own 40 1 0 s.1.length), (6, .p (.int .u8 s.2))], [(2, .arr 25 3 1 [.p (encTable t1)]), (3, .arr 48 2 1 [.p (encDrossref55_Plan p2)]), (40, .arr 36 1 1 (List.map AV.p (List.map (encL (PV.int .i64)) s.1)))]⟩) (fun (o6 : List (List Int)) => tE (cX Tryz.f22 X w) (.exit 0) ⟨[(5, .own 40 1 0 o6.length)], [(40, .arr 36 1 1 (List.map AV.p (List.map (encL (PV.int .i64)) o6)))]⟩) h5 ?_ ?_
 clear h h5
 intro s x h
 obtain ⟨o7, n8⟩ := s
 simp only [drossref55_Clusters_l4] at h
 dsimp only
 refine zs (zs (zr ?_))
 refine zU (zl (zn ?_))
 rcases zI h with ⟨h9, h⟩ | ⟨h9, h⟩
 refine zi (zk (zn (zs (zb (zs (zr ?_))))))
 refine zU (zl (zn (zs (zs (zr ?_)))))
 refine zU (zl (zn (zb ?_)))
 obtain ⟨l10, h11, h⟩ := zB h
 refine zO (fun (s : List Int × Int) => ⟨[(2, .loc 2 1 0 0), (3, .loc 3 1 0 0), (5, .own 40 1 0 o7.length), (6, .p (.int .u8 n8)), (7, .own 33 1 0 s.1.length), (8, .p (.int .i64 s.2))], [(2, .arr 25 3 1 [.p (encTable t1)]), (3, .arr 48 2 1 [.p (encDrossref55_Plan p2)]), (33, .arr 2 1 1 (List.map AV.p (List.map (PV.int .i64) s.1))), (40, .arr 36 1 1 (List.map AV.p (List.map (encL (PV.int .i64)) o7)))]⟩) (fun (o12 : List Int) => tE (cX Tryz.f22 X w) (.exit 2) ⟨[(2, .loc 2 1 0 0), (3, .loc 3 1 0 0), (5, .own 40 1 0 o7.length), (6, .p (.int .u8 n8)), (7, .own 33 1 0 o12.length)], [(2, .arr 25 3 1 [.p (encTable t1)]), (3, .arr 48 2 1 [.p (encDrossref55_Plan p2)]), (33, .arr 2 1 1 (List.map AV.p (List.map (PV.int .i64) o12))), (40, .arr 36 1 1 (List.map AV.p (List.map (encL (PV.int .i64)) o7)))]⟩) h11 ?_ ?_
 clear h h9 h11
 intro s x h
 obtain ⟨l13, i14⟩ := s
 simp only [drossref55_Clusters_l3] at h
 dsimp only
 refine zs (zs (zr ?_))
 refine zU (zl (zn ?_))
 rcases zI h with ⟨h15, h⟩ | ⟨h15, h⟩
 refine zi (zk (zn (zs (zb (zs (zr ?_))))))
 refine zU ?_
 obtain ⟨r16, h17, h⟩ := zB h
 refine zc (drossref55_label_con p2 i14 _ h17) ?_
 refine zU (zl (zn ?_))
 rcases zI h with ⟨h18, h⟩ | ⟨h18, h⟩
 refine zi (zr ?_)
 obtain ⟨x19, h20, h20a, h20b, h⟩ := zX h
 obtain ⟨h21, h⟩ := ite_some h
 refine zU (zl (yn (zn (zr ?_))))
 refine zU (zl ?_)
 cases h
 exact ⟨rfl, zE⟩
 refine zj (zk (yn (zn (zr ?_))))
 refine zU (zl ?_)
 cases h
 exact ⟨rfl, zE⟩
 refine zj (zx (ze ?_))
 cases h
 exact ⟨rfl, zE⟩
 try simp only at h
 refine zA (yh (zn (zs (zr ?_))))
 refine zU (zl (zn ?_))
 rcases zI h with ⟨h22, h⟩ | ⟨h22, h⟩
 refine zi (zr ?_)
 refine zW 3 ?_
 refine zM ⟨[(2, .loc 2 1 0 0), (3, .loc 3 1 0 0), (6, .p (.int .u8 n8)), (37, .own 40 1 0 o7.length), (39, .own 39 1 0 1)], [(2, .arr 25 3 1 [.p (encTable t1)]), (3, .arr 48 2 1 [.p (encDrossref55_Plan p2)]), (39, .arr 36 1 1 [.p (.slc (List.map (PV.int .i64) l10))]), (40, .arr 36 1 1 (List.map AV.p (List.map (encL (PV.int .i64)) o7)))]⟩ ?_
 obtain ⟨h23, h⟩ := ite_some h
 refine zU (zl (yn (zn (zr ?_))))
 refine zU (zl ?_)
 cases h
 exact ⟨rfl, zE⟩
 refine zj (zk (yn (zn (zr ?_))))
 refine zU (zl ?_)
 cases h
 exact ⟨rfl, zE⟩
 refine zj (zx (ze ?_))
 cases h
 exact ⟨rfl, zE⟩
 try simp only at h
 refine zA (yh (zn (zs (zr ?_))))
 refine zU (zl (zn (zq ?_)))
 cases h
 exact zT Tryz.results22
end Go.Proofs.YtdmddoljldjjeaaGreat
set_option linter.unusedVariables false
set_option linter.unusedSimpArgs false
namespace Go.Proofs.YtdmddoljldjjeaaGreat
open Go Go.Ab
set_option maxHeartbeats 4000000 in
theorem drossref03_Find_con (t1 : Table) (i2 : Int) (r3 : Int × Bool) (h : drossref03_Find t1 i2 = some r3) : Con Tryz.prog 55 [(encTable t1), (.int .i64 i2)] (.tup [(.int .i64 r3.1), (.bool r3.2)]) := by
 refine zP Tryz.call55 Tryz.func55 rfl Tryz.ntmps55 fun X w => ?_
 simp only [drossref03_Find] at h
 refine zs (zr ?_)
 refine zU (zl (zn (zs (zs (zr ?_)))))
 refine zU (zl (zn (zb ?_)))
 obtain ⟨o4, h5, h⟩ := zB h
 refine zO (fun (s : Int) => ⟨[(1, .p (.int .i64 i2)), (2, .loc 2 1 0 0), (6, .p (.int .i64 s))], [(2, .arr 25 3 1 [.p (encTable t1)])]⟩) (fun (o : (Unit) ⊕ (Int × Bool)) => match o with | .inl o6 => tE (cX Tryz.f55 X w) (.exit 0) ⟨[], []⟩ | .inr o7 => tR Tryz.prog Tryz.f55 (.tup [(.int .i64 o7.1), (.bool o7.2)])) h5 ?_ ?_
 clear h h5
 intro i8 x h
 simp only [drossref03_Find_l1] at h
 refine zs (zs (zr ?_))
 refine zU (zl (zn ?_))
 rcases zI h with ⟨h9, h⟩ | ⟨h9, h⟩
 refine zi (zk (zn (zs (zb (zs (zr ?_))))))
 obtain ⟨x10, h11, h11a, h11b, h⟩ := zX h
 refine zU (zl (zn ?_))
 rcases zI h with ⟨h12, h⟩ | ⟨h12, h⟩
 refine zi (zs (zr ?_))
 refine zU (zl (zn (zq (yr (zt ?_)))))
 cases h
 exact ⟨rfl, zT Tryz.results55⟩
 refine zj (zk (yn (zn (zr ?_))))
 refine zU (zl ?_)
 cases h
 exact ⟨rfl, zE⟩
 refine zj (zx (ze ?_))
 cases h
 exact ⟨rfl, zE⟩
 rcases o4 with ⟨⟩ | r13
 try simp only at h
 refine zA (yh (zn (zs (zr ?_))))
 refine zU (zl (zn (zq ?_)))
 cases h
 exact zT Tryz.results55
 try simp only at h
 refine zZ fun s hq => ?_
 refine yr (zt ?_)
 cases h
 exact hq
end Go.Proofs.YtdmddoljldjjeaaGreat
set_option linter.unusedVariables false
set_option linter.unusedSimpArgs false
namespace Go.Proofs.YtdmddoljldjjeaaGreat
open Go Go.Ab
set_option maxHeartbeats 4000000 in
theorem drossref03_Has_con (l1 : List Int) (i2 : Int) (r3 : Bool) (h : drossref03_Has l1 i2 = some r3) : Con Tryz.prog 85 [(.slc (List.map (PV.int .i64) l1)), (.int .i64 i2)] (.bool r3) := by
 refine zP Tryz.call85 Tryz.func85 rfl Tryz.ntmps85 fun X w => ?_
 simp only [drossref03_Has] at h
 refine zs (zr ?_)
 refine zU (zl (zn (zs (zs (zr ?_)))))
 refine zU (zl (zn (zb ?_)))
 obtain ⟨o4, h5, h⟩ := zB h
 refine zO (fun (s : Int) => ⟨[(0, .p (.slc (List.map (PV.int .i64) l1))), (1, .p (.int .i64 i2)), (5, .p (.int .i64 s))], []⟩) (fun (o : (Unit) ⊕ (Bool)) => match o with | .inl o6 => tE (cX Tryz.f85 X w) (.exit 0) ⟨[], []⟩ | .inr o7 => tR Tryz.prog Tryz.f85 (.bool o7)) h5 ?_ ?_
 clear h h5
 intro i8 x h
 simp only [drossref03_Has_l1] at h
 refine zs (zs (zr ?_))
 refine zU (zl (zn ?_))
 rcases zI h with ⟨h9, h⟩ | ⟨h9, h⟩
 refine zi (zk (zn (zs (zb (zs (zr ?_))))))
 obtain ⟨x10, h11, h11a, h11b, h⟩ := zX h
 refine zU (zl (zn ?_))
 rcases zI h with ⟨h12, h⟩ | ⟨h12, h⟩
 refine zi (zs (zr ?_))
 refine zU (zl (zn (zq (yr (zt ?_)))))
 cases h
 exact ⟨rfl, zT Tryz.results85⟩
 refine zj (zk (yn (zn (zr ?_))))
 refine zU (zl ?_)
 cases h
 exact ⟨rfl, zE⟩
 refine zj (zx (ze ?_))
 cases h
 exact ⟨rfl, zE⟩
 rcases o4 with ⟨⟩ | r13
 try simp only at h
 refine zA (yh (zn (zs (zr ?_))))
 refine zU (zl (zn (zq ?_)))
 cases h
 exact zT Tryz.results85
 try simp only at h
 refine zZ fun s hq => ?_
 refine yr (zt ?_)
 cases h
 exact hq
end Go.Proofs.YtdmddoljldjjeaaGreat
set_option linter.unusedVariables false
set_option linter.unusedSimpArgs false
namespace Go.Proofs.YtdmddoljldjjeaaGreat
open Go Go.Ab
set_option maxHeartbeats 4000000 in
theorem drossref55_Cluster_con (l1 : List Int) (r2 : Bool) (h : drossref55_Cluster l1 = some r2) : Con Tryz.prog 124 [(.slc (List.map (PV.int .i64) l1))] (.bool r2) := by
 refine zP Tryz.call124 Tryz.func124 rfl Tryz.ntmps124 fun X w => ?_
 simp only [drossref55_Cluster] at h
 refine zs (zr ?_)
 refine zU (zl (zn (zs (zs (zr ?_)))))
 refine zU (zl (zn (zb ?_)))
 obtain ⟨o3, h4, h⟩ := zB h
 refine zO (fun (s : Int) => ⟨[(0, .p (.slc (List.map (PV.int .i64) l1))), (3, .p (.int .i64 s))], []⟩) (fun (o : (Unit) ⊕ (Bool)) => match o with | .inl o5 => tE (cX Tryz.f124 X w) (.exit 0) ⟨[(0, .p (.slc (List.map (PV.int .i64) l1)))], []⟩ | .inr o6 => tR Tryz.prog Tryz.f124 (.bool o6)) h4 ?_ ?_
 clear h h4
 intro i7 x h
 simp only [drossref55_Cluster_l1] at h
 refine zs (zs (zr ?_))
 refine zU (zl (zn ?_))
 rcases zI h with ⟨h8, h⟩ | ⟨h8, h⟩
 refine zi (zk (zn (zs (zb (zs (zd ?_))))))
 obtain ⟨x9, h10, h10a, h10b, h⟩ := zX h
 obtain ⟨x11, h12, h12a, h12b, h⟩ := zX h
 refine yU ?_
 refine yd (zn ?_)
 rcases zI h with ⟨h13, h⟩ | ⟨h13, h⟩
 refine zi (zs (zr ?_))
 refine zU (zl (zn (zq (yr (zt ?_)))))
 cases h
 exact ⟨rfl, zT Tryz.results124⟩
 refine zj (zk (yn (zn (zr ?_))))
 refine zU (zl ?_)
 cases h
 exact ⟨rfl, zE⟩
 refine zj (zx (ze ?_))
 cases h
 exact ⟨rfl, zE⟩
 rcases o3 with ⟨⟩ | r14
 try simp only at h
 refine zA (yh (zn (zs (zr ?_))))
 refine zU (zl (zn (zq ?_)))
 cases h
 exact zT Tryz.results124
 try simp only at h
 refine zZ fun s hq => ?_
 refine yr (zt ?_)
 cases h
 exact hq
end Go.Proofs.YtdmddoljldjjeaaGreat
set_option linter.unusedVariables false
set_option linter.unusedSimpArgs false
namespace Go.Proofs.YtdmddoljldjjeaaGreat
open Go Go.Ab
set_option maxHeartbeats 4000000 in
theorem drossref55_once_con (l1 : List (List Int)) (r2 : Bool) (h : drossref55_once l1 = some r2) : Con Tryz.prog 82 [(.slc (List.map (encL (PV.int .i64)) l1))] (.bool r2) := by
 refine zP Tryz.call82 Tryz.func82 rfl Tryz.ntmps82 fun X w => ?_
 simp only [drossref55_once] at h
 refine zs (zr ?_)
 refine zU (zl (zn (zs (zr ?_))))
 refine zU (zl (zn (zs (zs (zr ?_)))))
 refine zU (zl (zn (zb ?_)))
 obtain ⟨o3, h4, h⟩ := zB h
 refine zO (fun (s : List Int × Int) => ⟨[(0, .p (.slc (List.map (encL (PV.int .i64)) l1))), (3, .own 41 1 0 s.1.length), (4, .p (.int .i64 s.2))], [(41, .arr 2 1 1 (List.map AV.p (List.map (PV.int .i64) s.1)))]⟩) (fun (o : (Unit) ⊕ (Bool)) => match o with | .inl o5 => tE (cX Tryz.f82 X w) (.exit 0) ⟨[], []⟩ | .inr o6 => tR Tryz.prog Tryz.f82 (.bool o6)) h4 ?_ ?_
 clear h h4
 intro s x h
 obtain ⟨a7, i8⟩ := s
 simp only [drossref55_once_l4] at h
 dsimp only
 refine zs (zs (zr ?_))
 refine zU (zl (zn ?_))
 rcases zI h with ⟨h9, h⟩ | ⟨h9, h⟩
 refine zi (zk (zn (zs (zb (zs (zs (zr ?_)))))))
 obtain ⟨x10, h11, h11a, h11b, h⟩ := zX h
 refine zU ?_
 obtain ⟨r12, h13, h⟩ := zB h
 refine zc (drossref55_Cluster_con x10 _ h13) ?_
 refine zU (zl (zn ?_))
 rcases zI h with ⟨h14, h⟩ | ⟨h14, h⟩
 refine zj (zk (zn (zs (zs (zr ?_)))))
 refine zU (zl (zn (zb ?_)))
 obtain ⟨o15, h16, h⟩ := zB h
 refine zO (fun (s : Int) => ⟨[(0, .p (.slc (List.map (encL (PV.int .i64)) l1))), (3, .own 41 1 0 a7.length), (4, .p (.int .i64 i8)), (5, .p (.int .i64 s))], [(41, .arr 2 1 1 (List.map AV.p (List.map (PV.int .i64) a7)))]⟩) (fun (o : (Unit) ⊕ (Bool)) => match o with | .inl o17 => tE (cX Tryz.f82 X w) (.exit 2) ⟨[(0, .p (.slc (List.map (encL (PV.int .i64)) l1))), (3, .own 41 1 0 a7.length), (4, .p (.int .i64 i8))], [(41, .arr 2 1 1 (List.map AV.p (List.map (PV.int .i64) a7)))]⟩ | .inr o18 => tR Tryz.prog Tryz.f82 (.bool o18)) h16 ?_ ?_
 clear h h9 h11 h11a h11b h13 h14 h16
 intro k19 x h
 simp only [drossref55_once_l3] at h
 refine zs (zs (zr ?_))
 obtain ⟨x20, h21, h21a, h21b, h⟩ := zX h
 refine zU (zl (zn ?_))
 rcases zI h with ⟨h22, h⟩ | ⟨h22, h⟩
 refine zi (zk (zn (zs (zb (zs (zr ?_))))))
 obtain ⟨x23, h24, h24a, h24b, h⟩ := zX h
 refine zU ?_
 obtain ⟨r25, h26, h⟩ := zB h
 refine zc (drossref03_Has_con a7 x23 _ h26) ?_
 refine zl (zn ?_)
 rcases zI h with ⟨h27, h⟩ | ⟨h27, h⟩
 refine zi (zs (zr ?_))
 refine zU (zl (zn (zq (yr (zt ?_)))))
 cases h
 exact ⟨rfl, zT Tryz.results82⟩
 refine zj (zk (yn (zn (zr ?_))))
 refine zU (zl ?_)
 cases h
 exact ⟨rfl, zE⟩
 refine zj (zx (ze ?_))
 cases h
 exact ⟨rfl, zE⟩
 rcases o15 with ⟨⟩ | r28
 try simp only at h
 refine zA (yh (zn (zr ?_)))
 obtain ⟨h29, h⟩ := ite_some h
 refine zU (zl (yn (zn (zr ?_))))
 refine zU (zl ?_)
 cases h
 exact ⟨rfl, zE⟩
 try simp only at h
 refine zZ fun s hq => ?_
 refine yr (zt (yr (zt ?_)))
 cases h
 refine ⟨rfl, ?_⟩
 exact hq
 refine zi (zs (zr ?_))
 refine zU (zl (zn (zq (zt (yr (zt ?_))))))
 cases h
 exact ⟨rfl, zT Tryz.results82⟩
 refine zj (zx (ze ?_))
 cases h
 exact ⟨rfl, zE⟩
 rcases o3 with ⟨⟩ | r30
 try simp only at h
 refine zA (yh (zn (zs (zr ?_))))
 refine zU (zl (zn (zq ?_)))
 cases h
 exact zT Tryz.results82
 try simp only at h
 refine zZ fun s hq => ?_
 refine yr (zt ?_)
 cases h
 exact hq
end Go.Proofs.YtdmddoljldjjeaaGreat
set_option linter.unusedVariables false
set_option linter.unusedSimpArgs false
namespace Go.Proofs.YtdmddoljldjjeaaGreat
open Go Go.Ab
set_option maxHeartbeats 4000000 in
theorem drossref55_Of_con (t1 : Table) (l2 : List (List Int)) (r3 : Bool) (h : drossref55_Of t1 l2 = some r3) : Con Tryz.prog 43 [(encTable t1), (.slc (List.map (encL (PV.int .i64)) l2))] (.bool r3) := by
 refine zP Tryz.call43 Tryz.func43 rfl Tryz.ntmps43 fun X w => ?_
 simp only [drossref55_Of] at h
 refine zs (zr ?_)
 refine zU (zl (zn (zs (zs (zr ?_)))))
 refine zU ?_
 obtain ⟨r4, h5, h⟩ := zB h
 refine zc (drossref55_once_con l2 _ h5) ?_
 refine zU (zl (zn ?_))
 rcases zI h with ⟨h6, h⟩ | ⟨h6, h⟩
 refine zj (zk (zn (zs (zr ?_))))
 refine zU (zl (zn (zs (zs (zr ?_)))))
 refine zU (zl (zn (zb ?_)))
 obtain ⟨o7, h8, h⟩ := zB h
 refine zO (fun (s : Int × Int) => ⟨[(1, .p (.slc (List.map (encL (PV.int .i64)) l2))), (2, .loc 2 1 0 0), (5, .p (.int .i64 s.1)), (6, .p (.int .i64 s.2))], [(2, .arr 25 3 1 [.p (encTable t1)])]⟩) (fun (o : (Int) ⊕ (Bool)) => match o with | .inl o9 => tE (cX Tryz.f43 X w) (.exit 0) ⟨[(2, .loc 2 1 0 0), (5, .p (.int .i64 o9))], [(2, .arr 25 3 1 [.p (encTable t1)])]⟩ | .inr o10 => tR Tryz.prog Tryz.f43 (.bool o10)) h8 ?_ ?_
 clear h h5 h6 h8
 intro s x h
 obtain ⟨n11, i12⟩ := s
 simp only [drossref55_Of_l4] at h
 dsimp only
 refine zs (zs (zr ?_))
 refine zU (zl (zn ?_))
 rcases zI h with ⟨h13, h⟩ | ⟨h13, h⟩
 refine zi (zk (zn (zs (zb (zs (zr ?_))))))
 obtain ⟨x14, h15, h15a, h15b, h⟩ := zX h
 refine zU (zl (zn (zs (zr ?_))))
 refine zU (zl (zn (zb ?_)))
 obtain ⟨o16, h17, h⟩ := zB h
 refine zO (fun (s : Int) => ⟨[(1, .p (.slc (List.map (encL (PV.int .i64)) l2))), (2, .loc 2 1 0 0), (5, .p (.int .i64 (IntKind.i64.wrap (n11 + (x14.length : Int))))), (6, .p (.int .i64 i12)), (7, .p (.int .i64 s))], [(2, .arr 25 3 1 [.p (encTable t1)])]⟩) (fun (o : (Unit) ⊕ (Bool)) => match o with | .inl o18 => tE (cX Tryz.f43 X w) (.exit 2) ⟨[(1, .p (.slc (List.map (encL (PV.int .i64)) l2))), (2, .loc 2 1 0 0), (5, .p (.int .i64 (IntKind.i64.wrap (n11 + (x14.length : Int))))), (6, .p (.int .i64 i12))], [(2, .arr 25 3 1 [.p (encTable t1)])]⟩ | .inr o19 => tR Tryz.prog Tryz.f43 (.bool o19)) h17 ?_ ?_
 clear h h13 h15 h15a h15b h17
 intro k20 x h
 simp only [drossref55_Of_l3] at h
 refine zs (zs (zr ?_))
 obtain ⟨x21, h22, h22a, h22b, h⟩ := zX h
 refine zU (zl (zn ?_))
 rcases zI h with ⟨h23, h⟩ | ⟨h23, h⟩
 refine zi (zk (zn (zs (zb (zs (zd ?_))))))
 obtain ⟨x24, h25, h25a, h25b, h⟩ := zX h
 refine yU ?_
 obtain ⟨r26, h27, h⟩ := zB h
 refine yc (drossref03_Find_con t1 x24 _ h27) ?_
 refine yU ?_
 refine yd (zn (zs (zr ?_)))
 refine zU (zl (zn ?_))
 rcases zI h with ⟨h28, h⟩ | ⟨h28, h⟩
 refine zj (zk (yn (zn (zr ?_))))
 refine zU (zl ?_)
 cases h
 exact ⟨rfl, zE⟩
 refine zi (zs (zr ?_))
 refine zU (zl (zn (zq (yr (zt ?_)))))
 cases h
 exact ⟨rfl, zT Tryz.results43⟩
 refine zj (zx (ze ?_))
 cases h
 exact ⟨rfl, zE⟩
 rcases o16 with ⟨⟩ | r29
 try simp only at h
 refine zA (yh (yn (zn (zr ?_))))
 refine zU (zl ?_)
 cases h
 exact ⟨rfl, zE⟩
 try simp only at h
 refine zZ fun s hq => ?_
 refine yr (yr (zt ?_))
 cases h
 refine ⟨rfl, ?_⟩
 exact hq
 refine zj (zx (ze ?_))
 cases h
 exact ⟨rfl, zE⟩
 rcases o7 with n30 | r31
 try simp only at h
 refine zA (yh (zn (zs (zr ?_))))
 refine zU (zl (zn (zq ?_)))
 cases h
 exact zT Tryz.results43
 try simp only at h
 refine zZ fun s hq => ?_
 refine yr (zt ?_)
 cases h
 exact hq
 refine zi (zs (zr ?_))
 refine zU (zl (zn (zq (zt ?_))))
 cases h
 exact zT Tryz.results43
end Go.Proofs.YtdmddoljldjjeaaGreat
set_option linter.unusedVariables false
set_option linter.unusedSimpArgs false
namespace Go.Proofs.YtdmddoljldjjeaaGreat
open Go Go.Ab
set_option maxHeartbeats 4000000 in
theorem drossref03_letter_con (c1 : Int) (r2 : Bool) (h : drossref03_letter c1 = some r2) : Con Tryz.prog 121 [(.int .u8 c1)] (.bool r2) := by
 refine zP Tryz.call121 Tryz.func121 rfl Tryz.ntmps121 fun X w => ?_
 simp only [drossref03_letter] at h
 refine zs (zr ?_)
 refine zU (zl (zn (zs (zr ?_))))
 refine zU ?_
 rcases zI h with ⟨h3, h⟩ | ⟨h3, h⟩
 refine zw 5 true ?_
 refine zg ?_
 refine zg ?_
 refine zU ?_
 rcases zI h with ⟨h4, h⟩ | ⟨h4, h⟩
 refine zw 9 true ?_
 refine zh ?_
 refine zU ?_
 refine zh ?_
 refine zU (zl (zn (zq ?_)))
 cases h
 exact zT Tryz.results121
 refine zw 9 false ?_
 refine zg ?_
 refine zg ?_
 refine zg ?_
 rcases zI h with ⟨h5, h⟩ | ⟨h5, h⟩
 refine zw 12 true ?_
 refine zg ?_
 refine zg ?_
 refine zg ?_
 refine zU ?_
 rcases zI h with ⟨h6, h⟩ | ⟨h6, h⟩
 refine zw 17 true ?_
 refine zh ?_
 refine zU (zl (zn (zq ?_)))
 cases h
 exact zT Tryz.results121
 refine zw 17 false ?_
 refine zg ?_
 refine zg ?_
 refine zU (zl (zn (zq ?_)))
 cases h
 exact zT Tryz.results121
 refine zw 12 false ?_
 refine zh ?_
 refine zg ?_
 refine zU ?_
 refine zg ?_
 refine zg ?_
 refine zU (zl (zn (zq ?_)))
 cases h
 exact zT Tryz.results121
 refine zw 5 false ?_
 refine zh ?_
 refine zU ?_
 refine zg ?_
 refine zg ?_
 refine zg ?_
 rcases zI h with ⟨h7, h⟩ | ⟨h7, h⟩
 refine zw 12 true ?_
 refine zg ?_
 refine zg ?_
 refine zg ?_
 refine zU ?_
 rcases zI h with ⟨h8, h⟩ | ⟨h8, h⟩
 refine zw 17 true ?_
 refine zh ?_
 refine zU (zl (zn (zq ?_)))
 cases h
 exact zT Tryz.results121
 refine zw 17 false ?_
 refine zg ?_
 refine zg ?_
 refine zU (zl (zn (zq ?_)))
 cases h
 exact zT Tryz.results121
 refine zw 12 false ?_
 refine zh ?_
 refine zg ?_
 refine zU ?_
 refine zg ?_
 refine zg ?_
 refine zU (zl (zn (zq ?_)))
 cases h
 exact zT Tryz.results121
end Go.Proofs.YtdmddoljldjjeaaGreat
set_option linter.unusedVariables false
set_option linter.unusedSimpArgs false
namespace Go.Proofs.YtdmddoljldjjeaaGreat
open Go Go.Ab
set_option maxHeartbeats 4000000 in
theorem drossref03_Name_con (s1 : List UInt8) (r2 : Bool) (h : drossref03_Name s1 = some r2) : Con Tryz.prog 79 [(.str s1)] (.bool r2) := by
 refine zP Tryz.call79 Tryz.func79 rfl Tryz.ntmps79 fun X w => ?_
 simp only [drossref03_Name] at h
 refine zs (zr ?_)
 refine zU (zl (zn (zs (zs (zr ?_)))))
 refine zU ?_
 rcases zI h with ⟨h3, h⟩ | ⟨h3, h⟩
 refine zw 7 true ?_
 refine zh ?_
 refine zU ?_
 refine zh ?_
 refine zU ?_
 refine zh ?_
 refine zU (zl (zn ?_))
 refine zi (zs (zr ?_))
 refine zU (zl (zn (zq (zt ?_))))
 cases h
 exact zT Tryz.results79
 refine zw 7 false ?_
 refine zg ?_
 refine zg ?_
 refine zg ?_
 refine zU ?_
 rcases zI h with ⟨h4, h⟩ | ⟨h4, h⟩
 refine zw 12 true ?_
 refine zh ?_
 refine zU ?_
 refine zh ?_
 refine zU (zl (zn ?_))
 refine zi (zs (zr ?_))
 refine zU (zl (zn (zq (zt ?_))))
 cases h
 exact zT Tryz.results79
 refine zw 12 false ?_
 refine zg ?_
 obtain ⟨c5, h6, h6l, h6L, h⟩ := zY 0 h
 refine zg ?_
 obtain ⟨r7, h8, h⟩ := zB h
 refine zc (drossref03_letter_con ((c5.toNat : Nat) : Int) _ h8) ?_
 refine zg ?_
 refine zU ?_
 rcases zI h with ⟨h9, h⟩ | ⟨h9, h⟩
 refine zw 18 false ?_
 refine zg ?_
 refine zg ?_
 refine zU (zl (zn ?_))
 rcases zI h with ⟨h10, h⟩ | ⟨h10, h⟩
 refine zi (zs (zr ?_))
 refine zU (zl (zn (zq (zt ?_))))
 cases h
 exact zT Tryz.results79
 refine zj (zk (zn (zs (zs (zr ?_)))))
 refine zU (zl (zn (zb ?_)))
 obtain ⟨o11, h12, h⟩ := zB h
 refine zO (fun (s : Int) => ⟨[(0, .p (.str s1)), (3, .p (.int .i64 s))], []⟩) (fun (o : (Unit) ⊕ (Bool)) => match o with | .inl o13 => tE (cX Tryz.f79 X w) (.exit 0) ⟨[], []⟩ | .inr o14 => tR Tryz.prog Tryz.f79 (.bool o14)) h12 ?_ ?_
 clear h h3 h4 h6 h6l h6L h8 h9 h10 h12
 intro i15 x h
 simp only [drossref03_Name_l1] at h
 refine zs (zs (zr ?_))
 refine zU (zl (zn ?_))
 rcases zI h with ⟨h16, h⟩ | ⟨h16, h⟩
 refine zi (zk (zn (zs (zb (zs (zr ?_))))))
 obtain ⟨c17, h18, h18a, h18b, h⟩ := zX h
 refine zU ?_
 obtain ⟨r19, h20, h⟩ := zB h
 refine zc (drossref03_letter_con ((c17.toNat : Nat) : Int) _ h20) ?_
 refine zU ?_
 rcases zI h with ⟨h21, h⟩ | ⟨h21, h⟩
 refine zw 33 false ?_
 refine zh ?_
 refine zU (zl (zn ?_))
 refine zj (zk (yn (zn (zr ?_))))
 refine zU (zl ?_)
 cases h
 exact ⟨rfl, zE⟩
 refine zw 33 true ?_
 refine zg ?_
 refine zg ?_
 refine zg ?_
 refine zg ?_
 refine zg ?_
 rcases zI h with ⟨h22, h⟩ | ⟨h22, h⟩
 refine zw 38 true ?_
 refine zh ?_
 refine zg ?_
 refine zU (zl (zn ?_))
 refine zi (zs (zr ?_))
 refine zU (zl (zn (zq (yr (zt ?_)))))
 cases h
 exact ⟨rfl, zT Tryz.results79⟩
 refine zw 38 false ?_
 refine zg ?_
 refine zg ?_
 refine zg ?_
 refine zg ?_
 refine zg ?_
 refine zU (zl (zn ?_))
 rcases zI h with ⟨h23, h⟩ | ⟨h23, h⟩
 refine zi (zs (zr ?_))
 refine zU (zl (zn (zq (yr (zt ?_)))))
 cases h
 exact ⟨rfl, zT Tryz.results79⟩
 refine zj (zk (yn (zn (zr ?_))))
 refine zU (zl ?_)
 cases h
 exact ⟨rfl, zE⟩
 refine zj (zx (ze ?_))
 cases h
 exact ⟨rfl, zE⟩
 rcases o11 with ⟨⟩ | r24
 try simp only at h
 refine zA (yh (zn (zs (zr ?_))))
 refine zU (zl (zn (zq ?_)))
 cases h
 exact zT Tryz.results79
 try simp only at h
 refine zZ fun s hq => ?_
 refine yr (zt ?_)
 cases h
 exact hq
 refine zw 18 true ?_
 refine zh ?_
 refine zU (zl (zn ?_))
 refine zi (zs (zr ?_))
 refine zU (zl (zn (zq (zt ?_))))
 cases h
 exact zT Tryz.results79
end Go.Proofs.YtdmddoljldjjeaaGreat
set_option linter.unusedVariables false
set_option linter.unusedSimpArgs false
namespace Go.Proofs.YtdmddoljldjjeaaGreat
open Go Go.Ab
set_option maxHeartbeats 4000000 in
theorem drossref03_Attr_con (l1 : List (List UInt8)) (n2 : List UInt8) (r3 : Int) (h : drossref03_Attr l1 n2 = some r3) : Con Tryz.prog 122 [(.slc (List.map PV.str l1)), (.str n2)] (.int .i64 r3) := by
 refine zP Tryz.call122 Tryz.func122 rfl Tryz.ntmps122 fun X w => ?_
 simp only [drossref03_Attr] at h
 refine zs (zr ?_)
 refine zU (zl (zn (zs (zs (zr ?_)))))
 refine zU (zl (zn (zb ?_)))
 obtain ⟨o4, h5, h⟩ := zB h
 refine zO (fun (s : Int) => ⟨[(0, .p (.slc (List.map PV.str l1))), (1, .p (.str n2)), (5, .p (.int .i64 s))], []⟩) (fun (o : (Unit) ⊕ (Int)) => match o with | .inl o6 => tE (cX Tryz.f122 X w) (.exit 0) ⟨[], []⟩ | .inr o7 => tR Tryz.prog Tryz.f122 (.int .i64 o7)) h5 ?_ ?_
 clear h h5
 intro i8 x h
 simp only [drossref03_Attr_l1] at h
 refine zs (zs (zr ?_))
 refine zU (zl (zn ?_))
 rcases zI h with ⟨h9, h⟩ | ⟨h9, h⟩
 refine zi (zk (zn (zs (zb (zs (zr ?_))))))
 obtain ⟨x10, h11, h11a, h11b, h⟩ := zX h
 refine zU (zl (zn ?_))
 rcases zI h with ⟨h12, h⟩ | ⟨h12, h⟩
 refine zi (zs (zr ?_))
 refine zU (zl (zn (zq (yr (zt ?_)))))
 cases h
 exact ⟨rfl, zT Tryz.results122⟩
 refine zj (zk (yn (zn (zr ?_))))
 refine zU (zl ?_)
 cases h
 exact ⟨rfl, zE⟩
 refine zj (zx (ze ?_))
 cases h
 exact ⟨rfl, zE⟩
 rcases o4 with ⟨⟩ | r13
 try simp only at h
 refine zA (yh (zn (zs (zr ?_))))
 refine zU (zl (zn (zq ?_)))
 cases h
 exact zT Tryz.results122
 try simp only at h
 refine zZ fun s hq => ?_
 refine yr (zt ?_)
 cases h
 exact hq
end Go.Proofs.YtdmddoljldjjeaaGreat
set_option linter.unusedVariables false
set_option linter.unusedSimpArgs false
namespace Go.Proofs.YtdmddoljldjjeaaGreat
open Go Go.Ab
set_option maxHeartbeats 4000000 in
theorem drossref03_Names_con (l1 : List (List UInt8)) (r2 : Bool) (h : drossref03_Names l1 = some r2) : Con Tryz.prog 80 [(.slc (List.map PV.str l1))] (.bool r2) := by
 refine zP Tryz.call80 Tryz.func80 rfl Tryz.ntmps80 fun X w => ?_
 simp only [drossref03_Names] at h
 refine zs (zr ?_)
 refine zU (zl (zn (zs (zs (zr ?_)))))
 refine zU (zl (zn (zb ?_)))
 obtain ⟨o3, h4, h⟩ := zB h
 refine zO (fun (s : Int) => ⟨[(0, .p (.slc (List.map PV.str l1))), (3, .p (.int .i64 s))], []⟩) (fun (o : (Unit) ⊕ (Bool)) => match o with | .inl o5 => tE (cX Tryz.f80 X w) (.exit 0) ⟨[], []⟩ | .inr o6 => tR Tryz.prog Tryz.f80 (.bool o6)) h4 ?_ ?_
 clear h h4
 intro i7 x h
 simp only [drossref03_Names_l1] at h
 refine zs (zs (zr ?_))
 refine zU (zl (zn ?_))
 rcases zI h with ⟨h8, h⟩ | ⟨h8, h⟩
 refine zi (zk (zn (zs (zb (zs (zd ?_))))))
 obtain ⟨x9, h10, h10a, h10b, h⟩ := zX h
 refine yU ?_
 obtain ⟨r11, h12, h⟩ := zB h
 refine yc (drossref03_Name_con x9 _ h12) ?_
 refine yU ?_
 rcases zI h with ⟨h13, h⟩ | ⟨h13, h⟩
 refine yw 16 false ?_
 refine yg ?_
 refine yg ?_
 obtain ⟨h14, h⟩ := ite_some h
 obtain ⟨h15, h⟩ := ite_some h
 refine yg ?_
 refine yg ?_
 refine yg ?_
 refine yg ?_
 refine yg ?_
 obtain ⟨r16, h17, h⟩ := zB h
 refine yc (drossref03_Attr_con (l1.take (i7.toNat)) x9 _ h17) ?_
 refine yg ?_
 refine yU ?_
 refine yd (zn ?_)
 rcases zI h with ⟨h18, h⟩ | ⟨h18, h⟩
 refine zi (zs (zr ?_))
 refine zU (zl (zn (zq (yr (zt ?_)))))
 cases h
 exact ⟨rfl, zT Tryz.results80⟩
 refine zj (zk (yn (zn (zr ?_))))
 refine zU (zl ?_)
 cases h
 exact ⟨rfl, zE⟩
 refine yw 16 true ?_
 refine yk ?_
 refine yU ?_
 refine yd (zn ?_)
 refine zi (zs (zr ?_))
 refine zU (zl (zn (zq (yr (zt ?_)))))
 cases h
 exact ⟨rfl, zT Tryz.results80⟩
 refine zj (zx (ze ?_))
 cases h
 exact ⟨rfl, zE⟩
 rcases o3 with ⟨⟩ | r19
 try simp only at h
 refine zA (yh (zn (zs (zr ?_))))
 refine zU (zl (zn (zq ?_)))
 cases h
 exact zT Tryz.results80
 try simp only at h
 refine zZ fun s hq => ?_
 refine yr (zt ?_)
 cases h
 exact hq
end Go.Proofs.YtdmddoljldjjeaaGreat
set_option linter.unusedVariables false
set_option linter.unusedSimpArgs false
namespace Go.Proofs.YtdmddoljldjjeaaGreat
open Go Go.Ab
set_option maxHeartbeats 4000000 in
theorem drossref01_Valid_con (v1 : Value) (r2 : Bool) (h : drossref01_Valid v1 = some r2) : Con Tryz.prog 123 [(encValue v1)] (.bool r2) := by
 refine zP Tryz.call123 Tryz.func123 rfl Tryz.ntmps123 fun X w => ?_
 simp only [drossref01_Valid] at h
 refine zs (zr ?_)
 refine zU (zl (zn (zs (zs (zr ?_)))))
 refine zU (zl (zn (zb (zs (zr ?_)))))
 refine zU (zl (zn ?_))
 rcases zI h with ⟨h3, h⟩ | ⟨h3, h⟩
 refine zi (zs (zr ?_))
 refine zU ?_
 rcases zI h with ⟨h4, h⟩ | ⟨h4, h⟩
 refine zw 10 true ?_
 refine zg ?_
 refine zg ?_
 refine zg ?_
 refine zU (zl (zn (zq (yr (zt ?_)))))
 cases h
 exact zT Tryz.results123
 refine zw 10 false ?_
 refine zh ?_
 refine zU (zl (zn (zq (yr (zt ?_)))))
 cases h
 exact zT Tryz.results123
 refine zj (zs (zr ?_))
 refine zU (zl (zn ?_))
 rcases zI h with ⟨h5, h⟩ | ⟨h5, h⟩
 refine zi (zs (zr ?_))
 refine zU (zl (zn (zq (yr (zt ?_)))))
 cases h
 exact zT Tryz.results123
 refine zj (zs (zr ?_))
 refine zU (zl (zn ?_))
 rcases zI h with ⟨h6, h⟩ | ⟨h6, h⟩
 refine zi (zs (zr ?_))
 refine zU ?_
 rcases zI h with ⟨h7, h⟩ | ⟨h7, h⟩
 refine zw 25 true ?_
 refine zg ?_
 refine zg ?_
 refine zg ?_
 refine zg ?_
 refine zU (zl (zn (zq (yr (zt ?_)))))
 cases h
 exact zT Tryz.results123
 refine zw 25 false ?_
 refine zh ?_
 refine zU (zl (zn (zq (yr (zt ?_)))))
 cases h
 exact zT Tryz.results123
 refine zj (zk (yn (zn (zs (zr ?_)))))
 refine zU ?_
 rcases zI h with ⟨h8, h⟩ | ⟨h8, h⟩
 refine zw 34 true ?_
 refine zg ?_
 refine zg ?_
 refine zg ?_
 refine zU ?_
 rcases zI h with ⟨h9, h⟩ | ⟨h9, h⟩
 refine zw 39 true ?_
 refine zg ?_
 refine zg ?_
 refine zg ?_
 refine zU (zl (zn (zq ?_)))
 cases h
 exact zT Tryz.results123
 refine zw 39 false ?_
 refine zh ?_
 refine zU (zl (zn (zq ?_)))
 cases h
 exact zT Tryz.results123
 refine zw 34 false ?_
 refine zh ?_
 refine zU ?_
 refine zh ?_
 refine zU (zl (zn (zq ?_)))
 cases h
 exact zT Tryz.results123
end Go.Proofs.YtdmddoljldjjeaaGreat
set_option linter.unusedVariables false
set_option linter.unusedSimpArgs false
namespace Go.Proofs.YtdmddoljldjjeaaGreat
open Go Go.Ab
set_option maxHeartbeats 4000000 in
theorem drossref01_Valids_con (l1 : List Value) (r2 : Bool) (h : drossref01_Valids l1 = some r2) : Con Tryz.prog 81 [(.slc (List.map encValue l1))] (.bool r2) := by
 refine zP Tryz.call81 Tryz.func81 rfl Tryz.ntmps81 fun X w => ?_
 simp only [drossref01_Valids] at h
 refine zs (zr ?_)
 refine zU (zl (zn (zs (zs (zr ?_)))))
 refine zU (zl (zn (zb ?_)))
 obtain ⟨o3, h4, h⟩ := zB h
 refine zO (fun (s : Int) => ⟨[(0, .p (.slc (List.map encValue l1))), (3, .p (.int .i64 s))], []⟩) (fun (o : (Unit) ⊕ (Bool)) => match o with | .inl o5 => tE (cX Tryz.f81 X w) (.exit 0) ⟨[], []⟩ | .inr o6 => tR Tryz.prog Tryz.f81 (.bool o6)) h4 ?_ ?_
 clear h h4
 intro i7 x h
 simp only [drossref01_Valids_l1] at h
 refine zs (zs (zr ?_))
 refine zU (zl (zn ?_))
 rcases zI h with ⟨h8, h⟩ | ⟨h8, h⟩
 refine zi (zk (zn (zs (zb (zs (zr ?_))))))
 obtain ⟨x9, h10, h10a, h10b, h⟩ := zX h
 refine zU ?_
 obtain ⟨r11, h12, h⟩ := zB h
 refine zc (drossref01_Valid_con x9 _ h12) ?_
 refine zU (zl (zn ?_))
 rcases zI h with ⟨h13, h⟩ | ⟨h13, h⟩
 refine zj (zk (yn (zn (zr ?_))))
 refine zU (zl ?_)
 cases h
 exact ⟨rfl, zE⟩
 refine zi (zs (zr ?_))
 refine zU (zl (zn (zq (yr (zt ?_)))))
 cases h
 exact ⟨rfl, zT Tryz.results81⟩
 refine zj (zx (ze ?_))
 cases h
 exact ⟨rfl, zE⟩
 rcases o3 with ⟨⟩ | r14
 try simp only at h
 refine zA (yh (zn (zs (zr ?_))))
 refine zU (zl (zn (zq ?_)))
 cases h
 exact zT Tryz.results81
 try simp only at h
 refine zZ fun s hq => ?_
 refine yr (zt ?_)
 cases h
 exact hq
end Go.Proofs.YtdmddoljldjjeaaGreat
set_option linter.unusedVariables false
set_option linter.unusedSimpArgs false
namespace Go.Proofs.YtdmddoljldjjeaaGreat
open Go Go.Ab
set_option maxHeartbeats 4000000 in
theorem drossref03_Valid_con (t1 : Table) (r2 : Int) (h : drossref03_Valid t1 = some r2) : Con Tryz.prog 41 [(encTable t1)] (.int .i64 r2) := by
 refine zP Tryz.call41 Tryz.func41 rfl Tryz.ntmps41 fun X w => ?_
 simp only [drossref03_Valid] at h
 refine zs (zr ?_)
 refine zU (zl (zn (zs (zs (zr ?_)))))
 refine zU ?_
 obtain ⟨r3, h4, h⟩ := zB h
 refine zc (drossref03_Name_con t1.Name _ h4) ?_
 refine zU (zl (zn ?_))
 rcases zI h with ⟨h5, h⟩ | ⟨h5, h⟩
 refine zj (zk (zn (zs (zs (zr ?_)))))
 refine zU ?_
 rcases zI h with ⟨h6, h⟩ | ⟨h6, h⟩
 refine zw 14 true ?_
 refine zh ?_
 refine zU (zl (zn ?_))
 refine zi (zs (zr ?_))
 refine zU (zl (zn (zq (zt ?_))))
 cases h
 exact zT Tryz.results41
 refine zw 14 false ?_
 refine zg ?_
 refine zg ?_
 refine zg ?_
 refine zg ?_
 refine zU (zl (zn ?_))
 rcases zI h with ⟨h7, h⟩ | ⟨h7, h⟩
 refine zi (zs (zr ?_))
 refine zU (zl (zn (zq (zt ?_))))
 cases h
 exact zT Tryz.results41
 refine zj (zk (zn (zs (zs (zr ?_)))))
 refine zU ?_
 obtain ⟨r8, h9, h⟩ := zB h
 refine zc (drossref03_Names_con t1.Attrs _ h9) ?_
 refine zU (zl (zn ?_))
 rcases zI h with ⟨h10, h⟩ | ⟨h10, h⟩
 refine zj (zk (zn (zs (zr ?_))))
 refine zU (zl (zn (zs (zs (zr ?_)))))
 refine zU (zl (zn (zb ?_)))
 obtain ⟨o11, h12, h⟩ := zB h
 refine zO (fun (s : Int × Int) => ⟨[(1, .loc 1 1 0 0), (3, .p (.int .i64 s.1)), (4, .p (.int .i64 s.2))], [(1, .arr 25 3 1 [.p (encTable t1)])]⟩) (fun (o : (Unit) ⊕ (Int)) => match o with | .inl o13 => tE (cX Tryz.f41 X w) (.exit 0) ⟨[], []⟩ | .inr o14 => tR Tryz.prog Tryz.f41 (.int .i64 o14)) h12 ?_ ?_
 clear h h4 h5 h6 h7 h9 h10 h12
 intro s x h
 obtain ⟨b15, i16⟩ := s
 simp only [drossref03_Valid_l1] at h
 dsimp only
 refine zs (zs (zr ?_))
 refine zU (zl (zn ?_))
 rcases zI h with ⟨h17, h⟩ | ⟨h17, h⟩
 refine zi (zk (zn (zs (zb (zs (zr ?_))))))
 obtain ⟨x18, h19, h19a, h19b, h⟩ := zX h
 refine zU (zl (zn (zs (zs (zr ?_)))))
 refine zU (zl (zn ?_))
 rcases zI h with ⟨h20, h⟩ | ⟨h20, h⟩
 refine zi (zs (zr ?_))
 refine zU (zl (zn (zq (zt (yr (zt ?_))))))
 cases h
 exact ⟨rfl, zT Tryz.results41⟩
 refine zj (zk (zn (zs (zr ?_))))
 refine zU (zl (zn (zs (zs (zr ?_)))))
 refine zU (zl (zn ?_))
 rcases zI h with ⟨h21, h⟩ | ⟨h21, h⟩
 refine zi (zs (zr ?_))
 refine zU (zl (zn (zq (zt (yr (zt ?_))))))
 cases h
 exact ⟨rfl, zT Tryz.results41⟩
 refine zj (zk (zn (zs (zr ?_))))
 refine zU ?_
 obtain ⟨r22, h23, h⟩ := zB h
 refine zc (drossref01_Valids_con x18.Values _ h23) ?_
 refine zU (zl (zn ?_))
 rcases zI h with ⟨h24, h⟩ | ⟨h24, h⟩
 refine zj (zk (yn (zn (zr ?_))))
 refine zU (zl ?_)
 cases h
 exact ⟨rfl, zE⟩
 refine zi (zs (zr ?_))
 refine zU (zl (zn (zq (yr (zt ?_)))))
 cases h
 exact ⟨rfl, zT Tryz.results41⟩
 refine zj (zx (ze ?_))
 cases h
 exact ⟨rfl, zE⟩
 rcases o11 with ⟨⟩ | r25
 try simp only at h
 refine zA (yh (zn (zs (zr ?_))))
 refine zU (zl (zn (zq ?_)))
 cases h
 exact zT Tryz.results41
 try simp only at h
 refine zZ fun s hq => ?_
 refine yr (zt ?_)
 cases h
 exact hq
 refine zi (zs (zr ?_))
 refine zU (zl (zn (zq (zt ?_))))
 cases h
 exact zT Tryz.results41
 refine zi (zs (zr ?_))
 refine zU (zl (zn (zq (zt ?_))))
 cases h
 exact zT Tryz.results41
end Go.Proofs.YtdmddoljldjjeaaGreat
set_option linter.unusedVariables false
set_option linter.unusedSimpArgs false
namespace Go.Proofs.YtdmddoljldjjeaaGreat
open Go Go.Ab
set_option maxHeartbeats 4000000 in
theorem drossref55_WellFormed_con (m1 : Merged) (r2 : Bool) (h : drossref55_WellFormed m1 = some r2) : Con Tryz.prog 54 [(encMerged m1)] (.bool r2) := by
 refine zP Tryz.call54 Tryz.func54 rfl Tryz.ntmps54 fun X w => ?_
 simp only [drossref55_WellFormed] at h
 refine zs (zr ?_)
 refine zU (zl (zn (zs (zs (zr ?_)))))
 refine zU ?_
 obtain ⟨r3, h4, h⟩ := zB h
 refine zc (drossref03_Valid_con m1.Table _ h4) ?_
 refine zU ?_
 rcases zI h with ⟨h5, h⟩ | ⟨h5, h⟩
 refine zw 9 true ?_
 refine zh ?_
 refine zU ?_
 refine zh ?_
 refine zU ?_
 refine zh ?_
 refine zU (zl (zn ?_))
 refine zi (zs (zr ?_))
 refine zU (zl (zn (zq (zt ?_))))
 cases h
 exact zT Tryz.results54
 refine zw 9 false ?_
 refine zg ?_
 refine zg ?_
 refine zg ?_
 refine zg ?_
 refine zg ?_
 refine zg ?_
 refine zg ?_
 refine zg ?_
 refine zU ?_
 rcases zI h with ⟨h6, h⟩ | ⟨h6, h⟩
 refine zw 19 true ?_
 refine zh ?_
 refine zU ?_
 refine zh ?_
 refine zU (zl (zn ?_))
 refine zi (zs (zr ?_))
 refine zU (zl (zn (zq (zt ?_))))
 cases h
 exact zT Tryz.results54
 refine zw 19 false ?_
 refine zg ?_
 refine zg ?_
 refine zg ?_
 refine zg ?_
 refine zg ?_
 refine zg ?_
 refine zg ?_
 refine zg ?_
 refine zU ?_
 rcases zI h with ⟨h7, h⟩ | ⟨h7, h⟩
 refine zw 29 true ?_
 refine zh ?_
 refine zU (zl (zn ?_))
 refine zi (zs (zr ?_))
 refine zU (zl (zn (zq (zt ?_))))
 cases h
 exact zT Tryz.results54
 refine zw 29 false ?_
 refine zg ?_
 refine zg ?_
 obtain ⟨r8, h9, h⟩ := zB h
 refine zc (drossref55_once_con m1.Clusters _ h9) ?_
 refine zg ?_
 refine zU (zl (zn ?_))
 rcases zI h with ⟨h10, h⟩ | ⟨h10, h⟩
 refine zj (zk (zn (zs (zs (zr ?_)))))
 refine zU (zl (zn (zb ?_)))
 obtain ⟨o11, h12, h⟩ := zB h
 refine zO (fun (s : Int) => ⟨[(1, .loc 1 1 0 0), (3, .p (.int .i64 s))], [(1, .arr 31 5 1 [.p (encMerged m1)])]⟩) (fun (o : (Unit) ⊕ (Bool)) => match o with | .inl o13 => tE (cX Tryz.f54 X w) (.exit 0) ⟨[], []⟩ | .inr o14 => tR Tryz.prog Tryz.f54 (.bool o14)) h12 ?_ ?_
 clear h h4 h5 h6 h7 h9 h10 h12
 intro i15 x h
 simp only [drossref55_WellFormed_l4] at h
 refine zs (zs (zr ?_))
 refine zU (zl (zn ?_))
 rcases zI h with ⟨h16, h⟩ | ⟨h16, h⟩
 refine zi (zk (zn (zs (zb (zs (zs (zd ?_)))))))
 obtain ⟨x17, h18, h18a, h18b, h⟩ := zX h
 obtain ⟨x19, h20, h20a, h20b, h⟩ := zX h
 obtain ⟨x21, h22, h22l, h22L, h⟩ := zY 0 h
 refine yU ?_
 rcases zI h with ⟨h23, h⟩ | ⟨h23, h⟩
 refine yw 57 true ?_
 refine yk ?_
 refine yU ?_
 refine yd (zn ?_)
 refine zi (zs (zr ?_))
 refine zU (zl (zn (zq (zt (yr (zt ?_))))))
 cases h
 exact ⟨rfl, zT Tryz.results54⟩
 refine yw 57 false ?_
 refine yg ?_
 refine yg ?_
 refine yg ?_
 obtain ⟨x24, h25, h25a, h25b, h⟩ := zX h
 refine yg ?_
 refine yg ?_
 refine yg ?_
 refine yg ?_
 refine yg ?_
 refine yg ?_
 refine yg ?_
 refine yg ?_
 refine yU ?_
 refine yd (zn ?_)
 rcases zI h with ⟨h26, h⟩ | ⟨h26, h⟩
 refine zi (zs (zr ?_))
 refine zU (zl (zn (zq (zt (yr (zt ?_))))))
 cases h
 exact ⟨rfl, zT Tryz.results54⟩
 refine zj (zk (zn (zs (zr ?_))))
 refine zU (zl (zn (zb ?_)))
 obtain ⟨o27, h28, h⟩ := zB h
 refine zO (fun (s : Int) => ⟨[(1, .loc 1 1 0 0), (3, .p (.int .i64 i15)), (4, .p (.int .i64 s)), (58, .loc 1 1 0 4), (59, .p (.slc (List.map (encL (PV.int .i64)) m1.Origins))), (60, .p (.int .i64 i15)), (61, .p (.imm [.slc (List.map (PV.int .i64) x24)])), (62, .p (.slc (List.map (PV.int .i64) x24))), (63, .p (.int .i64 (x24.length : Int))), (64, .loc 1 1 0 0), (65, .loc 1 1 0 1), (66, .p (.slc (List.map PV.str m1.Table.Attrs))), (67, .p (.int .i64 (m1.Table.Attrs.length : Int))), (68, .p (.bool ((x24.length : Int) != (m1.Table.Attrs.length : Int))))], [(1, .arr 31 5 1 [.p (encMerged m1)])]⟩) (fun (o : (Unit) ⊕ (Bool)) => match o with | .inl o29 => tE (cX Tryz.f54 X w) (.exit 2) ⟨[(1, .loc 1 1 0 0), (3, .p (.int .i64 i15)), (58, .loc 1 1 0 4), (59, .p (.slc (List.map (encL (PV.int .i64)) m1.Origins))), (60, .p (.int .i64 i15)), (61, .p (.imm [.slc (List.map (PV.int .i64) x24)])), (62, .p (.slc (List.map (PV.int .i64) x24))), (63, .p (.int .i64 (x24.length : Int))), (64, .loc 1 1 0 0), (65, .loc 1 1 0 1), (66, .p (.slc (List.map PV.str m1.Table.Attrs))), (67, .p (.int .i64 (m1.Table.Attrs.length : Int))), (68, .p (.bool ((x24.length : Int) != (m1.Table.Attrs.length : Int))))], [(1, .arr 31 5 1 [.p (encMerged m1)])]⟩ | .inr o30 => tR Tryz.prog Tryz.f54 (.bool o30)) h28 ?_ ?_
 clear h h16 h18 h18a h18b h20 h20a h20b h22 h22l h22L h23 h25 h25a h25b h26 h28
 intro k31 x h
 simp only [drossref55_WellFormed_l3] at h
 refine zs (zs (zr ?_))
 obtain ⟨x32, h33, h33a, h33b, h⟩ := zX h
 refine zU (zl (zn ?_))
 rcases zI h with ⟨h34, h⟩ | ⟨h34, h⟩
 refine zi (zk (zn (zs (zb (zs (zd ?_))))))
 obtain ⟨x35, h36, h36a, h36b, h⟩ := zX h
 obtain ⟨x37, h38, h38a, h38b, h⟩ := zX h
 refine yU ?_
 obtain ⟨r39, h40, h⟩ := zB h
 refine yc (drossref03_Has_con x35 x37 _ h40) ?_
 refine yU ?_
 refine yd (zn ?_)
 rcases zI h with ⟨h41, h⟩ | ⟨h41, h⟩
 refine zj (zk (yn (zn (zr ?_))))
 refine zU (zl ?_)
 cases h
 exact ⟨rfl, zE⟩
 refine zi (zs (zr ?_))
 refine zU (zl (zn (zq (yr (zt ?_)))))
 cases h
 exact ⟨rfl, zT Tryz.results54⟩
 refine zj (zx (ze ?_))
 cases h
 exact ⟨rfl, zE⟩
 rcases o27 with ⟨⟩ | r42
 try simp only at h
 refine zA (yh (yn (zn (zr ?_))))
 refine zU (zl ?_)
 cases h
 exact ⟨rfl, zE⟩
 try simp only at h
 refine zZ fun s hq => ?_
 refine yr (yr (zt ?_))
 cases h
 refine ⟨rfl, ?_⟩
 exact hq
 refine zj (zx (ze ?_))
 cases h
 exact ⟨rfl, zE⟩
 rcases o11 with ⟨⟩ | r43
 try simp only at h
 refine zA (yh (zn (zs (zr ?_))))
 refine zU (zl (zn (zq ?_)))
 cases h
 exact zT Tryz.results54
 try simp only at h
 refine zZ fun s hq => ?_
 refine yr (zt ?_)
 cases h
 exact hq
 refine zi (zs (zr ?_))
 refine zU (zl (zn (zq (zt ?_))))
 cases h
 exact zT Tryz.results54
end Go.Proofs.YtdmddoljldjjeaaGreat
set_option linter.unusedVariables false
set_option linter.unusedSimpArgs false
namespace Go.Proofs.YtdmddoljldjjeaaGreat
open Go Go.Ab
set_option maxHeartbeats 4000000 in
theorem drossref03_Strings_con (a1 : List (List UInt8)) (b2 : List (List UInt8)) (r3 : Bool) (h : drossref03_Strings a1 b2 = some r3) : Con Tryz.prog 58 [(.slc (List.map PV.str a1)), (.slc (List.map PV.str b2))] (.bool r3) := by
 refine zP Tryz.call58 Tryz.func58 rfl Tryz.ntmps58 fun X w => ?_
 simp only [drossref03_Strings] at h
 refine zs (zr ?_)
 refine zU (zl (zn (zs (zs (zr ?_)))))
 refine zU (zl (zn ?_))
 rcases zI h with ⟨h4, h⟩ | ⟨h4, h⟩
 refine zi (zs (zr ?_))
 refine zU (zl (zn (zq (zt ?_))))
 cases h
 exact zT Tryz.results58
 refine zj (zk (zn (zs (zs (zr ?_)))))
 refine zU (zl (zn (zb ?_)))
 obtain ⟨o5, h6, h⟩ := zB h
 refine zO (fun (s : Int) => ⟨[(0, .p (.slc (List.map PV.str a1))), (1, .p (.slc (List.map PV.str b2))), (5, .p (.int .i64 s))], []⟩) (fun (o : (Unit) ⊕ (Bool)) => match o with | .inl o7 => tE (cX Tryz.f58 X w) (.exit 0) ⟨[], []⟩ | .inr o8 => tR Tryz.prog Tryz.f58 (.bool o8)) h6 ?_ ?_
 clear h h4 h6
 intro i9 x h
 simp only [drossref03_Strings_l1] at h
 refine zs (zs (zr ?_))
 refine zU (zl (zn ?_))
 rcases zI h with ⟨h10, h⟩ | ⟨h10, h⟩
 refine zi (zk (zn (zs (zb (zs (zd ?_))))))
 obtain ⟨x11, h12, h12a, h12b, h⟩ := zX h
 obtain ⟨x13, h14, h14a, h14b, h⟩ := zX h
 refine yU ?_
 refine yd (zn ?_)
 rcases zI h with ⟨h15, h⟩ | ⟨h15, h⟩
 refine zj (zk (yn (zn (zr ?_))))
 refine zU (zl ?_)
 cases h
 exact ⟨rfl, zE⟩
 refine zi (zs (zr ?_))
 refine zU (zl (zn (zq (yr (zt ?_)))))
 cases h
 exact ⟨rfl, zT Tryz.results58⟩
 refine zj (zx (ze ?_))
 cases h
 exact ⟨rfl, zE⟩
 rcases o5 with ⟨⟩ | r16
 try simp only at h
 refine zA (yh (zn (zs (zr ?_))))
 refine zU (zl (zn (zq ?_)))
 cases h
 exact zT Tryz.results58
 try simp only at h
 refine zZ fun s hq => ?_
 refine yr (zt ?_)
 cases h
 exact hq
end Go.Proofs.YtdmddoljldjjeaaGreat
set_option linter.unusedVariables false
set_option linter.unusedSimpArgs false
namespace Go.Proofs.YtdmddoljldjjeaaGreat
open Go Go.Ab
set_option maxHeartbeats 4000000 in
theorem drossref01_sign_con (a1 : Int) (b2 : Int) (r3 : Int) (h : drossref01_sign a1 b2 = some r3) : Con Tryz.prog 98 [(.int .i64 a1), (.int .i64 b2)] (.int .i64 r3) := by
 refine zP Tryz.call98 Tryz.func98 rfl Tryz.ntmps98 fun X w => ?_
 simp only [drossref01_sign] at h
 refine zs (zr ?_)
 refine zU (zl (zn (zs (zs (zr ?_)))))
 refine zU (zl (zn ?_))
 rcases zI h with ⟨h4, h⟩ | ⟨h4, h⟩
 refine zi (zs (zr ?_))
 refine zU (zl (zn (zq (zt ?_))))
 cases h
 exact zT Tryz.results98
 refine zj (zk (zn (zs (zs (zr ?_)))))
 refine zU (zl (zn ?_))
 rcases zI h with ⟨h5, h⟩ | ⟨h5, h⟩
 refine zi (zs (zr ?_))
 refine zU (zl (zn (zq (zt ?_))))
 cases h
 exact zT Tryz.results98
 refine zj (zk (zn (zs (zr ?_))))
 refine zU (zl (zn (zq ?_)))
 cases h
 exact zT Tryz.results98
end Go.Proofs.YtdmddoljldjjeaaGreat
set_option linter.unusedVariables false
set_option linter.unusedSimpArgs false
namespace Go.Proofs.YtdmddoljldjjeaaGreat
open Go Go.Ab
set_option maxHeartbeats 4000000 in
theorem drossref01_strings_con (a1 : List UInt8) (b2 : List UInt8) (r3 : Int) (h : drossref01_strings a1 b2 = some r3) : Con Tryz.prog 99 [(.str a1), (.str b2)] (.int .i64 r3) := by
 refine zP Tryz.call99 Tryz.func99 rfl Tryz.ntmps99 fun X w => ?_
 simp only [drossref01_strings] at h
 refine zs (zr ?_)
 refine zU (zl (zn (zs (zs (zr ?_)))))
 refine zU (zl (zn (zb ?_)))
 obtain ⟨o4, h5, h⟩ := zB h
 refine zO (fun (s : Int) => ⟨[(0, .p (.str a1)), (1, .p (.str b2)), (5, .p (.int .i64 s))], []⟩) (fun (o : (Unit) ⊕ (Int)) => match o with | .inl o6 => tE (cX Tryz.f99 X w) (.exit 0) ⟨[(0, .p (.str a1)), (1, .p (.str b2))], []⟩ | .inr o7 => tR Tryz.prog Tryz.f99 (.int .i64 o7)) h5 ?_ ?_
 clear h h5
 intro i8 x h
 simp only [drossref01_strings_l1] at h
 refine zs (zs (zr ?_))
 refine zU ?_
 rcases zI h with ⟨h9, h⟩ | ⟨h9, h⟩
 refine zw 10 true ?_
 refine zg ?_
 refine zg ?_
 refine zg ?_
 refine zg ?_
 refine zU (zl (zn ?_))
 rcases zI h with ⟨h10, h⟩ | ⟨h10, h⟩
 refine zi (zk (zn (zs (zb (zs (zd ?_))))))
 obtain ⟨c11, h12, h12a, h12b, h⟩ := zX h
 obtain ⟨c13, h14, h14a, h14b, h⟩ := zX h
 refine yU ?_
 refine yd (zn ?_)
 rcases zI h with ⟨h15, h⟩ | ⟨h15, h⟩
 refine zi (zs (zd ?_))
 refine yU ?_
 obtain ⟨r16, h17, h⟩ := zB h
 refine yc (drossref01_sign_con (IntKind.i64.wrap ((c11.toNat : Nat) : Int)) (IntKind.i64.wrap ((c13.toNat : Nat) : Int)) _ h17) ?_
 refine yU ?_
 refine yd (zn (zq (yr (zt ?_))))
 cases h
 exact ⟨rfl, zT Tryz.results99⟩
 refine zj (zk (yn (zn (zr ?_))))
 refine zU (zl ?_)
 cases h
 exact ⟨rfl, zE⟩
 refine zj (zx (ze ?_))
 cases h
 exact ⟨rfl, zE⟩
 refine zw 10 false ?_
 refine zh ?_
 refine zU (zl (zn ?_))
 refine zj (zx (ze ?_))
 cases h
 exact ⟨rfl, zE⟩
 rcases o4 with ⟨⟩ | r18
 try simp only at h
 refine zA (yh (zn (zs (zr ?_))))
 refine zU ?_
 obtain ⟨r19, h20, h⟩ := zB h
 refine zc (drossref01_sign_con (a1.length : Int) (b2.length : Int) _ h20) ?_
 refine zU (zl (zn (zq ?_)))
 cases h
 exact zT Tryz.results99
 try simp only at h
 refine zZ fun s hq => ?_
 refine yr (zt ?_)
 cases h
 exact hq
end Go.Proofs.YtdmddoljldjjeaaGreat
set_option linter.unusedVariables false
set_option linter.unusedSimpArgs false
namespace Go.Proofs.YtdmddoljldjjeaaGreat
open Go Go.Ab
set_option maxHeartbeats 4000000 in
theorem drossref01_Compare_con (a1 : Value) (b2 : Value) (r3 : Int) (h : drossref01_Compare a1 b2 = some r3) : Con Tryz.prog 59 [(encValue a1), (encValue b2)] (.int .i64 r3) := by
 refine zP Tryz.call59 Tryz.func59 rfl Tryz.ntmps59 fun X w => ?_
 simp only [drossref01_Compare] at h
 refine zs (zr ?_)
 refine zU (zl (zn (zs (zs (zr ?_)))))
 refine zU ?_
 obtain ⟨r4, h5, h⟩ := zB h
 refine zc (drossref01_sign_con a1.Kind b2.Kind _ h5) ?_
 refine zU (zl (zn (zs (zr ?_))))
 refine zU (zl (zn ?_))
 rcases zI h with ⟨h6, h⟩ | ⟨h6, h⟩
 refine zi (zs (zr ?_))
 refine zU (zl (zn (zq (zt ?_))))
 cases h
 exact zT Tryz.results59
 refine zj (zk (zn (zs (zs (zr ?_)))))
 refine zU ?_
 obtain ⟨r7, h8, h⟩ := zB h
 refine zc (drossref01_sign_con a1.Num b2.Num _ h8) ?_
 refine zU (zl (zn (zs (zr ?_))))
 refine zU (zl (zn ?_))
 rcases zI h with ⟨h9, h⟩ | ⟨h9, h⟩
 refine zi (zs (zr ?_))
 refine zU (zl (zn (zq (zt ?_))))
 cases h
 exact zT Tryz.results59
 refine zj (zk (zn (zs (zr ?_))))
 refine zU ?_
 obtain ⟨r10, h11, h⟩ := zB h
 refine zc (drossref01_strings_con a1.Str b2.Str _ h11) ?_
 refine zU (zl (zn (zq ?_)))
 cases h
 exact zT Tryz.results59
end Go.Proofs.YtdmddoljldjjeaaGreat
set_option linter.unusedVariables false
set_option linter.unusedSimpArgs false
namespace Go.Proofs.YtdmddoljldjjeaaGreat
open Go Go.Ab
set_option maxHeartbeats 4000000 in
theorem drossref55_Merging_con (t1 : Table) (m2 : Merged) (r3 : Bool) (h : drossref55_Merging t1 m2 = some r3) : Con Tryz.prog 23 [(encTable t1), (encMerged m2)] (.bool r3) := by
 refine zP Tryz.call23 Tryz.func23 rfl Tryz.ntmps23 fun X w => ?_
 simp only [drossref55_Merging] at h
 refine zs (zr ?_)
 refine zU (zl (zn (zs (zs (zr ?_)))))
 refine zU ?_
 obtain ⟨r4, h5, h⟩ := zB h
 refine zc (drossref55_WellFormed_con m2 _ h5) ?_
 refine zU ?_
 rcases zI h with ⟨h6, h⟩ | ⟨h6, h⟩
 refine zw 12 false ?_
 refine zg ?_
 refine zg ?_
 refine zg ?_
 refine zg ?_
 refine zg ?_
 refine zg ?_
 refine zU ?_
 rcases zI h with ⟨h7, h⟩ | ⟨h7, h⟩
 refine zw 20 false ?_
 refine zg ?_
 refine zg ?_
 refine zg ?_
 refine zg ?_
 refine zg ?_
 obtain ⟨r8, h9, h⟩ := zB h
 refine zc (drossref03_Strings_con m2.Table.Attrs t1.Attrs _ h9) ?_
 refine zg ?_
 refine zU ?_
 rcases zI h with ⟨h10, h⟩ | ⟨h10, h⟩
 refine zw 29 false ?_
 refine zg ?_
 refine zg ?_
 refine zg ?_
 obtain ⟨r11, h12, h⟩ := zB h
 refine zc (drossref55_Of_con t1 m2.Clusters _ h12) ?_
 refine zg ?_
 refine zU (zl (zn ?_))
 rcases zI h with ⟨h13, h⟩ | ⟨h13, h⟩
 refine zj (zk (zn (zs (zs (zr ?_)))))
 refine zU (zl (zn (zb ?_)))
 obtain ⟨o14, h15, h⟩ := zB h
 refine zO (fun (s : Int) => ⟨[(2, .loc 2 1 0 0), (3, .loc 3 1 0 0), (5, .p (.int .i64 s))], [(2, .arr 25 3 1 [.p (encTable t1)]), (3, .arr 31 5 1 [.p (encMerged m2)])]⟩) (fun (o : (Unit) ⊕ (Bool)) => match o with | .inl o16 => tE (cX Tryz.f23 X w) (.exit 0) ⟨[], []⟩ | .inr o17 => tR Tryz.prog Tryz.f23 (.bool o17)) h15 ?_ ?_
 clear h h5 h6 h7 h9 h10 h12 h13 h15
 intro i18 x h
 simp only [drossref55_Merging_l4] at h
 refine zs (zs (zr ?_))
 refine zU (zl (zn ?_))
 rcases zI h with ⟨h19, h⟩ | ⟨h19, h⟩
 refine zi (zk (zn (zs (zb (zs (zr ?_))))))
 refine zU (zl (zn (zb ?_)))
 obtain ⟨o20, h21, h⟩ := zB h
 refine zO (fun (s : Int) => ⟨[(2, .loc 2 1 0 0), (3, .loc 3 1 0 0), (5, .p (.int .i64 i18)), (6, .p (.int .i64 s))], [(2, .arr 25 3 1 [.p (encTable t1)]), (3, .arr 31 5 1 [.p (encMerged m2)])]⟩) (fun (o : (Unit) ⊕ (Bool)) => match o with | .inl o22 => tE (cX Tryz.f23 X w) (.exit 2) ⟨[(2, .loc 2 1 0 0), (3, .loc 3 1 0 0), (5, .p (.int .i64 i18))], [(2, .arr 25 3 1 [.p (encTable t1)]), (3, .arr 31 5 1 [.p (encMerged m2)])]⟩ | .inr o23 => tR Tryz.prog Tryz.f23 (.bool o23)) h21 ?_ ?_
 clear h h19 h21
 intro k24 x h
 simp only [drossref55_Merging_l3] at h
 refine zs (zs (zr ?_))
 obtain ⟨x25, h26, h26a, h26b, h⟩ := zX h
 refine zU (zl (zn ?_))
 rcases zI h with ⟨h27, h⟩ | ⟨h27, h⟩
 refine zi (zk (zn (zs (zb (zs (zd ?_))))))
 obtain ⟨x28, h29, h29a, h29b, h⟩ := zX h
 refine yU ?_
 obtain ⟨r30, h31, h⟩ := zB h
 refine yc (drossref03_Find_con t1 x28 _ h31) ?_
 refine yU ?_
 refine yd (zn (zs (zd ?_)))
 obtain ⟨x32, h33, h33a, h33b, h⟩ := zX h
 obtain ⟨x34, h35, h35a, h35b, h⟩ := zX h
 obtain ⟨x36, h37, h37a, h37b, h⟩ := zX h
 obtain ⟨x38, h39, h39a, h39b, h⟩ := zX h
 refine yU ?_
 obtain ⟨r40, h41, h⟩ := zB h
 refine yc (drossref01_Compare_con x34 x38 _ h41) ?_
 refine yU ?_
 refine yd (zn ?_)
 rcases zI h with ⟨h42, h⟩ | ⟨h42, h⟩
 refine zi (zs (zr ?_))
 refine zU (zl (zn (zq (yr (zt ?_)))))
 cases h
 exact ⟨rfl, zT Tryz.results23⟩
 refine zj (zk (yn (zn (zr ?_))))
 refine zU (zl ?_)
 cases h
 exact ⟨rfl, zE⟩
 refine zj (zx (ze ?_))
 cases h
 exact ⟨rfl, zE⟩
 rcases o20 with ⟨⟩ | r43
 try simp only at h
 refine zA (yh (yn (zn (zr ?_))))
 refine zU (zl ?_)
 cases h
 exact ⟨rfl, zE⟩
 try simp only at h
 refine zZ fun s hq => ?_
 refine yr (yr (zt ?_))
 cases h
 refine ⟨rfl, ?_⟩
 exact hq
 refine zj (zx (ze ?_))
 cases h
 exact ⟨rfl, zE⟩
 rcases o14 with ⟨⟩ | r44
 try simp only at h
 refine zA (yh (zn (zs (zr ?_))))
 refine zU (zl (zn (zq ?_)))
 cases h
 exact zT Tryz.results23
 try simp only at h
 refine zZ fun s hq => ?_
 refine yr (zt ?_)
 cases h
 exact hq
 refine zi (zs (zr ?_))
 refine zU (zl (zn (zq (zt ?_))))
 cases h
 exact zT Tryz.results23
 refine zw 29 true ?_
 refine zh ?_
 refine zU (zl (zn ?_))
 refine zi (zs (zr ?_))
 refine zU (zl (zn (zq (zt ?_))))
 cases h
 exact zT Tryz.results23
 refine zw 20 true ?_
 refine zh ?_
 refine zU ?_
 refine zh ?_
 refine zU (zl (zn ?_))
 refine zi (zs (zr ?_))
 refine zU (zl (zn (zq (zt ?_))))
 cases h
 exact zT Tryz.results23
 refine zw 12 true ?_
 refine zh ?_
 refine zU ?_
 refine zh ?_
 refine zU ?_
 refine zh ?_
 refine zU (zl (zn ?_))
 refine zi (zs (zr ?_))
 refine zU (zl (zn (zq (zt ?_))))
 cases h
 exact zT Tryz.results23
end Go.Proofs.YtdmddoljldjjeaaGreat
set_option linter.unusedVariables false
set_option linter.unusedSimpArgs false
namespace Go.Proofs.YtdmddoljldjjeaaGreat
open Go Go.Ab
set_option maxHeartbeats 4000000 in
theorem drossref01_Lists_con (a1 : List Value) (b2 : List Value) (r3 : Int) (h : drossref01_Lists a1 b2 = some r3) : Con Tryz.prog 136 [(.slc (List.map encValue a1)), (.slc (List.map encValue b2))] (.int .i64 r3) := by
 refine zP Tryz.call136 Tryz.func136 rfl Tryz.ntmps136 fun X w => ?_
 simp only [drossref01_Lists] at h
 refine zs (zr ?_)
 refine zU (zl (zn (zs (zs (zr ?_)))))
 refine zU (zl (zn (zb ?_)))
 obtain ⟨o4, h5, h⟩ := zB h
 refine zO (fun (s : Int) => ⟨[(0, .p (.slc (List.map encValue a1))), (1, .p (.slc (List.map encValue b2))), (5, .p (.int .i64 s))], []⟩) (fun (o : (Unit) ⊕ (Int)) => match o with | .inl o6 => tE (cX Tryz.f136 X w) (.exit 0) ⟨[(0, .p (.slc (List.map encValue a1))), (1, .p (.slc (List.map encValue b2)))], []⟩ | .inr o7 => tR Tryz.prog Tryz.f136 (.int .i64 o7)) h5 ?_ ?_
 clear h h5
 intro i8 x h
 simp only [drossref01_Lists_l1] at h
 refine zs (zs (zr ?_))
 refine zU ?_
 rcases zI h with ⟨h9, h⟩ | ⟨h9, h⟩
 refine zw 11 true ?_
 refine zg ?_
 refine zg ?_
 refine zg ?_
 refine zg ?_
 refine zU (zl (zn ?_))
 rcases zI h with ⟨h10, h⟩ | ⟨h10, h⟩
 refine zi (zk (zn (zs (zb (zs (zd ?_))))))
 obtain ⟨x11, h12, h12a, h12b, h⟩ := zX h
 obtain ⟨x13, h14, h14a, h14b, h⟩ := zX h
 refine yU ?_
 obtain ⟨r15, h16, h⟩ := zB h
 refine yc (drossref01_Compare_con x11 x13 _ h16) ?_
 refine yU ?_
 refine yd (zn (zs (zr ?_)))
 refine zU (zl (zn ?_))
 rcases zI h with ⟨h17, h⟩ | ⟨h17, h⟩
 refine zi (zs (zr ?_))
 refine zU (zl (zn (zq (yr (zt ?_)))))
 cases h
 exact ⟨rfl, zT Tryz.results136⟩
 refine zj (zk (yn (zn (zr ?_))))
 refine zU (zl ?_)
 cases h
 exact ⟨rfl, zE⟩
 refine zj (zx (ze ?_))
 cases h
 exact ⟨rfl, zE⟩
 refine zw 11 false ?_
 refine zh ?_
 refine zU (zl (zn ?_))
 refine zj (zx (ze ?_))
 cases h
 exact ⟨rfl, zE⟩
 rcases o4 with ⟨⟩ | r18
 try simp only at h
 refine zA (yh (zn (zs (zr ?_))))
 refine zU ?_
 obtain ⟨r19, h20, h⟩ := zB h
 refine zc (drossref01_sign_con (a1.length : Int) (b2.length : Int) _ h20) ?_
 refine zU (zl (zn (zq ?_)))
 cases h
 exact zT Tryz.results136
 try simp only at h
 refine zZ fun s hq => ?_
 refine yr (zt ?_)
 cases h
 exact hq
end Go.Proofs.YtdmddoljldjjeaaGreat
set_option linter.unusedVariables false
set_option linter.unusedSimpArgs false
namespace Go.Proofs.YtdmddoljldjjeaaGreat
open Go Go.Ab
set_option maxHeartbeats 4000000 in
theorem drossref01_Same_con (a1 : List Value) (b2 : List Value) (r3 : Bool) (h : drossref01_Same a1 b2 = some r3) : Con Tryz.prog 100 [(.slc (List.map encValue a1)), (.slc (List.map encValue b2))] (.bool r3) := by
 refine zP Tryz.call100 Tryz.func100 rfl Tryz.ntmps100 fun X w => ?_
 simp only [drossref01_Same] at h
 refine zs (zr ?_)
 refine zU (zl (zn (zs (zr ?_))))
 refine zU ?_
 obtain ⟨r4, h5, h⟩ := zB h
 refine zc (drossref01_Lists_con a1 b2 _ h5) ?_
 refine zU (zl (zn (zq ?_)))
 cases h
 exact zT Tryz.results100
end Go.Proofs.YtdmddoljldjjeaaGreat
set_option linter.unusedVariables false
set_option linter.unusedSimpArgs false
namespace Go.Proofs.YtdmddoljldjjeaaGreat
open Go Go.Ab
set_option maxHeartbeats 4000000 in
theorem drossref03_EqualRows_con (a1 : Row) (b2 : Row) (r3 : Bool) (h : drossref03_EqualRows a1 b2 = some r3) : Con Tryz.prog 60 [(encRow a1), (encRow b2)] (.bool r3) := by
 refine zP Tryz.call60 Tryz.func60 rfl Tryz.ntmps60 fun X w => ?_
 simp only [drossref03_EqualRows] at h
 refine zs (zr ?_)
 refine zU (zl (zn (zs (zr ?_))))
 refine zU ?_
 rcases zI h with ⟨h4, h⟩ | ⟨h4, h⟩
 refine zw 10 true ?_
 refine zg ?_
 refine zg ?_
 refine zg ?_
 refine zg ?_
 obtain ⟨r5, h6, h⟩ := zB h
 refine zc (drossref01_Same_con a1.Values b2.Values _ h6) ?_
 refine zU (zl (zn (zq ?_)))
 cases h
 exact zT Tryz.results60
 refine zw 10 false ?_
 refine zh ?_
 refine zU (zl (zn (zq ?_)))
 cases h
 exact zT Tryz.results60
end Go.Proofs.YtdmddoljldjjeaaGreat
set_option linter.unusedVariables false
set_option linter.unusedSimpArgs false
namespace Go.Proofs.YtdmddoljldjjeaaGreat
open Go Go.Ab
set_option maxHeartbeats 4000000 in
theorem drossref03_Equal_con (a1 : Table) (b2 : Table) (r3 : Bool) (h : drossref03_Equal a1 b2 = some r3) : Con Tryz.prog 25 [(encTable a1), (encTable b2)] (.bool r3) := by
 refine zP Tryz.call25 Tryz.func25 rfl Tryz.ntmps25 fun X w => ?_
 simp only [drossref03_Equal] at h
 refine zs (zr ?_)
 refine zU (zl (zn (zs (zs (zr ?_)))))
 refine zU ?_
 rcases zI h with ⟨h4, h⟩ | ⟨h4, h⟩
 refine zw 11 false ?_
 refine zg ?_
 refine zg ?_
 refine zg ?_
 refine zg ?_
 obtain ⟨r5, h6, h⟩ := zB h
 refine zc (drossref03_Strings_con a1.Attrs b2.Attrs _ h6) ?_
 refine zg ?_
 refine zU ?_
 rcases zI h with ⟨h7, h⟩ | ⟨h7, h⟩
 refine zw 19 false ?_
 refine zg ?_
 refine zg ?_
 refine zg ?_
 refine zg ?_
 refine zg ?_
 refine zg ?_
 refine zg ?_
 refine zU (zl (zn ?_))
 rcases zI h with ⟨h8, h⟩ | ⟨h8, h⟩
 refine zi (zs (zr ?_))
 refine zU (zl (zn (zq (zt ?_))))
 cases h
 exact zT Tryz.results25
 refine zj (zk (zn (zs (zs (zr ?_)))))
 refine zU (zl (zn (zb ?_)))
 obtain ⟨o9, h10, h⟩ := zB h
 refine zO (fun (s : Int) => ⟨[(2, .loc 2 1 0 0), (3, .loc 3 1 0 0), (5, .p (.int .i64 s))], [(2, .arr 25 3 1 [.p (encTable a1)]), (3, .arr 25 3 1 [.p (encTable b2)])]⟩) (fun (o : (Unit) ⊕ (Bool)) => match o with | .inl o11 => tE (cX Tryz.f25 X w) (.exit 0) ⟨[], []⟩ | .inr o12 => tR Tryz.prog Tryz.f25 (.bool o12)) h10 ?_ ?_
 clear h h4 h6 h7 h8 h10
 intro i13 x h
 simp only [drossref03_Equal_l1] at h
 refine zs (zs (zr ?_))
 refine zU (zl (zn ?_))
 rcases zI h with ⟨h14, h⟩ | ⟨h14, h⟩
 refine zi (zk (zn (zs (zb (zs (zd ?_))))))
 obtain ⟨x15, h16, h16a, h16b, h⟩ := zX h
 obtain ⟨x17, h18, h18a, h18b, h⟩ := zX h
 refine yU ?_
 obtain ⟨r19, h20, h⟩ := zB h
 refine yc (drossref03_EqualRows_con x15 x17 _ h20) ?_
 refine yU ?_
 refine yd (zn ?_)
 rcases zI h with ⟨h21, h⟩ | ⟨h21, h⟩
 refine zj (zk (yn (zn (zr ?_))))
 refine zU (zl ?_)
 cases h
 exact ⟨rfl, zE⟩
 refine zi (zs (zr ?_))
 refine zU (zl (zn (zq (yr (zt ?_)))))
 cases h
 exact ⟨rfl, zT Tryz.results25⟩
 refine zj (zx (ze ?_))
 cases h
 exact ⟨rfl, zE⟩
 rcases o9 with ⟨⟩ | r22
 try simp only at h
 refine zA (yh (zn (zs (zr ?_))))
 refine zU (zl (zn (zq ?_)))
 cases h
 exact zT Tryz.results25
 try simp only at h
 refine zZ fun s hq => ?_
 refine yr (zt ?_)
 cases h
 exact hq
 refine zw 19 true ?_
 refine zh ?_
 refine zU (zl (zn ?_))
 refine zi (zs (zr ?_))
 refine zU (zl (zn (zq (zt ?_))))
 cases h
 exact zT Tryz.results25
 refine zw 11 true ?_
 refine zh ?_
 refine zU ?_
 refine zh ?_
 refine zU (zl (zn ?_))
 refine zi (zs (zr ?_))
 refine zU (zl (zn (zq (zt ?_))))
 cases h
 exact zT Tryz.results25
end Go.Proofs.YtdmddoljldjjeaaGreat
set_option linter.unusedVariables false
set_option linter.unusedSimpArgs false
namespace Go.Proofs.YtdmddoljldjjeaaGreat
open Go Go.Ab
set_option maxHeartbeats 4000000 in
theorem drosslaw55_SurvivorSteps_con (x1 : Drossref03_Recipe) (p2 : Drossref55_Plan) (q3 : Drossref55_Plan) (r4 : Bool) (h : drosslaw55_SurvivorSteps x1 p2 q3 = some r4) : Con Tryz.prog 7 [(encDrossref03_Recipe x1), (encDrossref55_Plan p2), (encDrossref55_Plan q3)] (.bool r4) := by
 refine zP Tryz.call7 Tryz.func7 rfl Tryz.ntmps7 fun X w => ?_
 simp only [drosslaw55_SurvivorSteps] at h
 refine zs (zr ?_)
 refine zU (zl (zn (zs (zr ?_))))
 refine zU ?_
 obtain ⟨r5, h6, h⟩ := zB h
 refine zc (drossref03_Table_con x1 8 _ h6) ?_
 refine zU (zl (zn (zs ?_)))
 obtain ⟨t7, h8, h⟩ := zB h
 refine zJ (fun (o9 : Bool) => tE (cX Tryz.f7 X w) .normal ⟨[(4, .loc 4 1 0 0), (5, .loc 5 1 0 0), (7, .loc 7 1 0 0), (25, .p (.bool o9))], [(4, .arr 48 2 1 [.p (encDrossref55_Plan p2)]), (5, .arr 48 2 1 [.p (encDrossref55_Plan q3)]), (7, .arr 25 3 1 [.p (encTable r5.1)])]⟩) t7 ?_ ?_
 replace h := h8
 clear h8
 refine zr ?_
 obtain ⟨r10, h11, h⟩ := zB h
 refine zc (drosslaw55_awake_con  _ h11) ?_
 refine zU ?_
 rcases zI h with ⟨h12, h⟩ | ⟨h12, h⟩
 refine zw 22 false ?_
 refine zg ?_
 refine zg ?_
 refine zU (zl ?_)
 cases h
 exact ⟨rfl, zE⟩
 refine zw 22 true ?_
 refine zh ?_
 refine zU (zl ?_)
 cases h
 exact ⟨rfl, zE⟩
 try simp only at h
 refine zA (zn ?_)
 rcases zI h with ⟨h13, h⟩ | ⟨h13, h⟩
 refine zi (zs (zr ?_))
 obtain ⟨r14, h15, h⟩ := zB h
 refine zc (drosslaw55_awake_con  _ h15) ?_
 refine zU (zl (zn (zq (zt ?_))))
 cases h
 exact zT Tryz.results7
 refine zj (zk (zn (zs (zd ?_))))
 refine yU ?_
 obtain ⟨r16, h17, h⟩ := zB h
 refine yc (drossref55_Clusters_con r5.1 p2 _ h17) ?_
 refine yU ?_
 obtain ⟨r18, h19, h⟩ := zB h
 refine yc (drossref55_List_con r5.1 p2 _ h19) ?_
 obtain ⟨r20, h21, h⟩ := zB h
 refine yc (survivor_Table_con r5.1 r16 r18 _ h21) ?_
 refine yU ?_
 refine yd (zn (zs (zd ?_)))
 refine yU ?_
 obtain ⟨r22, h23, h⟩ := zB h
 refine yc (drossref55_Clusters_con r20.1.Table q3 _ h23) ?_
 refine yU ?_
 obtain ⟨r24, h25, h⟩ := zB h
 refine yc (drossref55_List_con r5.1 q3 _ h25) ?_
 obtain ⟨r26, h27, h⟩ := zB h
 refine yc (survivor_Table_con r20.1.Table r22 r24 _ h27) ?_
 refine yU ?_
 refine yd (zn (zs (zr ?_)))
 refine zU ?_
 obtain ⟨r28, h29, h⟩ := zB h
 refine zc (survivor_Compose_con r20.1 r26.1 _ h29) ?_
 refine zU (zl (zn (zs (zr ?_))))
 refine zU ?_
 rcases zI h with ⟨h30, h⟩ | ⟨h30, h⟩
 refine zw 59 true ?_
 refine zg ?_
 refine zg ?_
 refine zU ?_
 rcases zI h with ⟨h31, h⟩ | ⟨h31, h⟩
 refine zw 63 true ?_
 refine zg ?_
 refine zg ?_
 refine zU ?_
 rcases zI h with ⟨h32, h⟩ | ⟨h32, h⟩
 refine zw 67 true ?_
 refine zg ?_
 refine zg ?_
 obtain ⟨r33, h34, h⟩ := zB h
 refine zc (drossref55_Merging_con r5.1 r28.1 _ h34) ?_
 refine zU ?_
 rcases zI h with ⟨h35, h⟩ | ⟨h35, h⟩
 refine zw 72 true ?_
 refine zg ?_
 refine zg ?_
 refine zg ?_
 refine zg ?_
 obtain ⟨r36, h37, h⟩ := zB h
 refine zc (drossref03_Equal_con r28.1.Table r26.1.Table _ h37) ?_
 refine zU (zl (zn (zq ?_)))
 cases h
 exact zT Tryz.results7
 refine zw 72 false ?_
 refine zh ?_
 refine zU (zl (zn (zq ?_)))
 cases h
 exact zT Tryz.results7
 refine zw 67 false ?_
 refine zh ?_
 refine zU ?_
 refine zh ?_
 refine zU (zl (zn (zq ?_)))
 cases h
 exact zT Tryz.results7
 refine zw 63 false ?_
 refine zh ?_
 refine zU ?_
 refine zh ?_
 refine zU ?_
 refine zh ?_
 refine zU (zl (zn (zq ?_)))
 cases h
 exact zT Tryz.results7
 refine zw 59 false ?_
 refine zh ?_
 refine zU ?_
 refine zh ?_
 refine zU ?_
 refine zh ?_
 refine zU ?_
 refine zh ?_
 refine zU (zl (zn (zq ?_)))
 cases h
 exact zT Tryz.results7
end Go.Proofs.YtdmddoljldjjeaaGreat
