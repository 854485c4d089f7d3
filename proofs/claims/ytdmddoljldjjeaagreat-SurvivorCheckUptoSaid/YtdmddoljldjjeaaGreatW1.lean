/- Each function of the program computes what its Lean function says, where that has a value. -/
import Derived.Shelf.Small.Strs
import Derived.Test.YtdmddoljldjjeaaGreatT1
import Derived.Test.YtdmddoljldjjeaaGreatL1
set_option linter.unusedVariables false
set_option linter.unusedSimpArgs false
namespace Go.Proofs.YtdmddoljldjjeaaGreat
open Go Go.Ab
theorem mixed : Tryz.prog.follows .mixedOrders = true := by kernel_rfl
def encValue (x : Value) : PV := .agg [.int .i64 x.Kind, .int .i64 x.Num, .str x.Str]
@[go_sem] theorem encValue_fold (x : Value) : PV.agg [.int .i64 x.Kind, .int .i64 x.Num, .str x.Str] = encValue x := rfl
@[go_sem] theorem encValue_cells (x : Value) : (encValue x).cells = [.int .i64 x.Kind, .int .i64 x.Num, .str x.Str] := rfl
@[go_sem] theorem encValue_isAgg (x : Value) : (encValue x).isAgg = true := rfl
@[go_sem] theorem encValue_isTup (x : Value) : (encValue x).isTup = false := rfl
@[go_sem] theorem encValue_sl (l : List Value) : ((l.map encValue).all fun y => y.cells.length == 3) = true := by simp [encValue, PV.cells]
@[go_sem] theorem encValue_ok (l : List Value) : ((l.map encValue).map AV.p).all (elemOk 3) = true := elemOkAll_map _ _ _ fun _ => ⟨rfl, rfl⟩
@[go_sem] theorem encValue_flat (x : Value) : (encValue x).flat = true := rfl
def encRow (x : Row) : PV := .agg [.int .i64 x.ID, .slc (List.map encValue x.Values)]
@[go_sem] theorem encRow_fold (x : Row) : PV.agg [.int .i64 x.ID, .slc (List.map encValue x.Values)] = encRow x := rfl
@[go_sem] theorem encRow_cells (x : Row) : (encRow x).cells = [.int .i64 x.ID, .slc (List.map encValue x.Values)] := rfl
@[go_sem] theorem encRow_isAgg (x : Row) : (encRow x).isAgg = true := rfl
@[go_sem] theorem encRow_isTup (x : Row) : (encRow x).isTup = false := rfl
@[go_sem] theorem encRow_sl (l : List Row) : ((l.map encRow).all fun y => y.cells.length == 2) = true := by simp [encRow, PV.cells]
@[go_sem] theorem encRow_ok (l : List Row) : ((l.map encRow).map AV.p).all (elemOk 2) = true := elemOkAll_map _ _ _ fun _ => ⟨rfl, rfl⟩
def encTable (x : Table) : PV := .agg [.str x.Name, .slc (List.map PV.str x.Attrs), .slc (List.map encRow x.Rows)]
@[go_sem] theorem encTable_fold (x : Table) : PV.agg [.str x.Name, .slc (List.map PV.str x.Attrs), .slc (List.map encRow x.Rows)] = encTable x := rfl
@[go_sem] theorem encTable_cells (x : Table) : (encTable x).cells = [.str x.Name, .slc (List.map PV.str x.Attrs), .slc (List.map encRow x.Rows)] := rfl
@[go_sem] theorem encTable_isAgg (x : Table) : (encTable x).isAgg = true := rfl
@[go_sem] theorem encTable_isTup (x : Table) : (encTable x).isTup = false := rfl
@[go_sem] theorem encTable_sl (l : List Table) : ((l.map encTable).all fun y => y.cells.length == 3) = true := by simp [encTable, PV.cells]
@[go_sem] theorem encTable_ok (l : List Table) : ((l.map encTable).map AV.p).all (elemOk 3) = true := elemOkAll_map _ _ _ fun _ => ⟨rfl, rfl⟩
def encMerged (x : Merged) : PV := .agg [.str x.Table.Name, .slc (List.map PV.str x.Table.Attrs), .slc (List.map encRow x.Table.Rows), .slc (List.map (encL (PV.int .i64)) x.Clusters), .slc (List.map (encL (PV.int .i64)) x.Origins)]
@[go_sem] theorem encMerged_fold (x : Merged) : PV.agg [.str x.Table.Name, .slc (List.map PV.str x.Table.Attrs), .slc (List.map encRow x.Table.Rows), .slc (List.map (encL (PV.int .i64)) x.Clusters), .slc (List.map (encL (PV.int .i64)) x.Origins)] = encMerged x := rfl
@[go_sem] theorem encMerged_cells (x : Merged) : (encMerged x).cells = [.str x.Table.Name, .slc (List.map PV.str x.Table.Attrs), .slc (List.map encRow x.Table.Rows), .slc (List.map (encL (PV.int .i64)) x.Clusters), .slc (List.map (encL (PV.int .i64)) x.Origins)] := rfl
@[go_sem] theorem encMerged_isAgg (x : Merged) : (encMerged x).isAgg = true := rfl
@[go_sem] theorem encMerged_isTup (x : Merged) : (encMerged x).isTup = false := rfl
@[go_sem] theorem encMerged_sl (l : List Merged) : ((l.map encMerged).all fun y => y.cells.length == 5) = true := by simp [encMerged, PV.cells]
@[go_sem] theorem encMerged_ok (l : List Merged) : ((l.map encMerged).map AV.p).all (elemOk 5) = true := elemOkAll_map _ _ _ fun _ => ⟨rfl, rfl⟩
def encDrossref55_Result (x : Drossref55_Result) : PV := .agg [.int .i64 x.Value.Kind, .int .i64 x.Value.Num, .str x.Value.Str, .int .i64 x.Origin]
@[go_sem] theorem encDrossref55_Result_fold (x : Drossref55_Result) : PV.agg [.int .i64 x.Value.Kind, .int .i64 x.Value.Num, .str x.Value.Str, .int .i64 x.Origin] = encDrossref55_Result x := rfl
@[go_sem] theorem encDrossref55_Result_cells (x : Drossref55_Result) : (encDrossref55_Result x).cells = [.int .i64 x.Value.Kind, .int .i64 x.Value.Num, .str x.Value.Str, .int .i64 x.Origin] := rfl
@[go_sem] theorem encDrossref55_Result_isAgg (x : Drossref55_Result) : (encDrossref55_Result x).isAgg = true := rfl
@[go_sem] theorem encDrossref55_Result_isTup (x : Drossref55_Result) : (encDrossref55_Result x).isTup = false := rfl
@[go_sem] theorem encDrossref55_Result_sl (l : List Drossref55_Result) : ((l.map encDrossref55_Result).all fun y => y.cells.length == 4) = true := by simp [encDrossref55_Result, PV.cells]
@[go_sem] theorem encDrossref55_Result_ok (l : List Drossref55_Result) : ((l.map encDrossref55_Result).map AV.p).all (elemOk 4) = true := elemOkAll_map _ _ _ fun _ => ⟨rfl, rfl⟩
@[go_sem] theorem encDrossref55_Result_flat (x : Drossref55_Result) : (encDrossref55_Result x).flat = true := rfl
def encDrossref55_Row (x : Drossref55_Row) : PV := .agg [.int .i64 x.Row.ID, .slc (List.map encValue x.Row.Values), .slc (List.map (PV.int .i64) x.Origins)]
@[go_sem] theorem encDrossref55_Row_fold (x : Drossref55_Row) : PV.agg [.int .i64 x.Row.ID, .slc (List.map encValue x.Row.Values), .slc (List.map (PV.int .i64) x.Origins)] = encDrossref55_Row x := rfl
@[go_sem] theorem encDrossref55_Row_cells (x : Drossref55_Row) : (encDrossref55_Row x).cells = [.int .i64 x.Row.ID, .slc (List.map encValue x.Row.Values), .slc (List.map (PV.int .i64) x.Origins)] := rfl
@[go_sem] theorem encDrossref55_Row_isAgg (x : Drossref55_Row) : (encDrossref55_Row x).isAgg = true := rfl
@[go_sem] theorem encDrossref55_Row_isTup (x : Drossref55_Row) : (encDrossref55_Row x).isTup = false := rfl
@[go_sem] theorem encDrossref55_Row_sl (l : List Drossref55_Row) : ((l.map encDrossref55_Row).all fun y => y.cells.length == 3) = true := by simp [encDrossref55_Row, PV.cells]
@[go_sem] theorem encDrossref55_Row_ok (l : List Drossref55_Row) : ((l.map encDrossref55_Row).map AV.p).all (elemOk 3) = true := elemOkAll_map _ _ _ fun _ => ⟨rfl, rfl⟩
def encDrossref03_Recipe (x : Drossref03_Recipe) : PV := .agg [.int .u8 x.Attrs, .int .u8 x.Gap, .slc (List.map (encL (PV.int .u8)) x.Rows)]
@[go_sem] theorem encDrossref03_Recipe_fold (x : Drossref03_Recipe) : PV.agg [.int .u8 x.Attrs, .int .u8 x.Gap, .slc (List.map (encL (PV.int .u8)) x.Rows)] = encDrossref03_Recipe x := rfl
@[go_sem] theorem encDrossref03_Recipe_cells (x : Drossref03_Recipe) : (encDrossref03_Recipe x).cells = [.int .u8 x.Attrs, .int .u8 x.Gap, .slc (List.map (encL (PV.int .u8)) x.Rows)] := rfl
@[go_sem] theorem encDrossref03_Recipe_isAgg (x : Drossref03_Recipe) : (encDrossref03_Recipe x).isAgg = true := rfl
@[go_sem] theorem encDrossref03_Recipe_isTup (x : Drossref03_Recipe) : (encDrossref03_Recipe x).isTup = false := rfl
@[go_sem] theorem encDrossref03_Recipe_sl (l : List Drossref03_Recipe) : ((l.map encDrossref03_Recipe).all fun y => y.cells.length == 3) = true := by simp [encDrossref03_Recipe, PV.cells]
@[go_sem] theorem encDrossref03_Recipe_ok (l : List Drossref03_Recipe) : ((l.map encDrossref03_Recipe).map AV.p).all (elemOk 3) = true := elemOkAll_map _ _ _ fun _ => ⟨rfl, rfl⟩
def encDrossref55_Plan (x : Drossref55_Plan) : PV := .agg [.slc (List.map (PV.int .u8) x.Labels), .slc (List.map (PV.int .u8) x.Rules)]
@[go_sem] theorem encDrossref55_Plan_fold (x : Drossref55_Plan) : PV.agg [.slc (List.map (PV.int .u8) x.Labels), .slc (List.map (PV.int .u8) x.Rules)] = encDrossref55_Plan x := rfl
@[go_sem] theorem encDrossref55_Plan_cells (x : Drossref55_Plan) : (encDrossref55_Plan x).cells = [.slc (List.map (PV.int .u8) x.Labels), .slc (List.map (PV.int .u8) x.Rules)] := rfl
@[go_sem] theorem encDrossref55_Plan_isAgg (x : Drossref55_Plan) : (encDrossref55_Plan x).isAgg = true := rfl
@[go_sem] theorem encDrossref55_Plan_isTup (x : Drossref55_Plan) : (encDrossref55_Plan x).isTup = false := rfl
@[go_sem] theorem encDrossref55_Plan_sl (l : List Drossref55_Plan) : ((l.map encDrossref55_Plan).all fun y => y.cells.length == 2) = true := by simp [encDrossref55_Plan, PV.cells]
@[go_sem] theorem encDrossref55_Plan_ok (l : List Drossref55_Plan) : ((l.map encDrossref55_Plan).map AV.p).all (elemOk 2) = true := elemOkAll_map _ _ _ fun _ => ⟨rfl, rfl⟩
def encCellRef (x : CellRef) : PV := .agg [.int .i64 x.ID, .int .i64 x.Attr]
@[go_sem] theorem encCellRef_fold (x : CellRef) : PV.agg [.int .i64 x.ID, .int .i64 x.Attr] = encCellRef x := rfl
@[go_sem] theorem encCellRef_cells (x : CellRef) : (encCellRef x).cells = [.int .i64 x.ID, .int .i64 x.Attr] := rfl
@[go_sem] theorem encCellRef_isAgg (x : CellRef) : (encCellRef x).isAgg = true := rfl
@[go_sem] theorem encCellRef_isTup (x : CellRef) : (encCellRef x).isTup = false := rfl
@[go_sem] theorem encCellRef_sl (l : List CellRef) : ((l.map encCellRef).all fun y => y.cells.length == 2) = true := by simp [encCellRef, PV.cells]
@[go_sem] theorem encCellRef_ok (l : List CellRef) : ((l.map encCellRef).map AV.p).all (elemOk 2) = true := elemOkAll_map _ _ _ fun _ => ⟨rfl, rfl⟩
@[go_sem] theorem encCellRef_flat (x : CellRef) : (encCellRef x).flat = true := rfl
end Go.Proofs.YtdmddoljldjjeaaGreat
set_option linter.unusedVariables false
set_option linter.unusedSimpArgs false
namespace Go.Proofs.YtdmddoljldjjeaaGreat
open Go Go.Ab
set_option maxHeartbeats 4000000 in
theorem survivor_validRule_con (rule_1 : Int) (r_3 : Bool) (h : survivor_validRule rule_1 = some r_3) : Con Tryz.prog 33 [(.int .i64 rule_1)] (.bool r_3) := by
  refine ⟨Tryz.call33, ?_⟩
  refine pure_of_awp Tryz.func33 rfl Tryz.ntmps33 (by simp) fun X w => ?_
  show AWp _ _ _ ⟨[(0, .p (.int .i64 rule_1))], []⟩
  simp only [survivor_validRule] at h
  refine awp_seq ?_
  refine awp_region ?_
  refine AL_upto (by exact rfl) (by simp only [go_sem, seval]; exact rfl) ?_
  refine AL_nil ?_
  refine thenA_n ?_
  refine awp_seq ?_
  refine awp_region ?_
  refine AL_upto (by exact rfl) (by simp only [go_sem, seval]; exact rfl) ?_
  by_cases hb_2 : rule_1 ≥ 1
  · rw [if_pos hb_2] at h
    have hb_2T := eq_true hb_2
    refine AL_known (d := 5) (v := .p (.bool true)) (by simp only [go_sem, seval, hb_2T]) ?_
    refine AL_gt' (guard_true' rfl rfl (by exact rfl) (by exact rfl)) rfl (by simp only [go_sem, seval, hb_2T]; exact rfl) ?_
    refine AL_gt' (guard_true' rfl rfl (by exact rfl) (by exact rfl)) rfl (by simp only [go_sem, seval, hb_2T]; exact rfl) ?_
    refine AL_upto (by exact rfl) (by simp only [go_sem, seval, hb_2T]; exact rfl) ?_
    refine AL_nil ?_
    refine thenA_n ?_
    refine awp_ret ?_
    cases h
    refine retQ_ret (by simp only [Tryz.results33]; simp only [go_sem, seval, hb_2T]; exact rfl) ?_
    simp only [go_sem, seval, hb_2T]
    all_goals ((repeat' refine And.intro ?_ ?_) <;> first | rfl | (simp; done) | (simp; rfl) | (simp [*]; done) | (simp [*]; rfl))
  · rw [if_neg hb_2] at h
    have hb_2T := eq_false hb_2
    refine AL_known (d := 5) (v := .p (.bool false)) (by simp only [go_sem, seval, hb_2T]) ?_
    refine AL_skips (by exact rfl) ?_
    refine AL_upto (by exact rfl) (by simp only [go_sem, seval, hb_2T]; exact rfl) ?_
    refine AL_nil ?_
    refine thenA_n ?_
    refine awp_ret ?_
    cases h
    refine retQ_ret (by simp only [Tryz.results33]; simp only [go_sem, seval, hb_2T]; exact rfl) ?_
    simp only [go_sem, seval, hb_2T]
    all_goals ((repeat' refine And.intro ?_ ?_) <;> first | rfl | (simp; done) | (simp; rfl) | (simp [*]; done) | (simp [*]; rfl))
end Go.Proofs.YtdmddoljldjjeaaGreat
set_option linter.unusedVariables false
set_option linter.unusedSimpArgs false
namespace Go.Proofs.YtdmddoljldjjeaaGreat
open Go Go.Ab
set_option maxHeartbeats 4000000 in
theorem survivor_checkRows_con (rows_4 : List Row) (r_37 : Int) (h : survivor_checkRows rows_4 = some r_37) : Con Tryz.prog 61 [(.slc (List.map encRow rows_4))] (.int .i64 r_37) := by
  refine ⟨Tryz.call61, ?_⟩
  refine pure_of_awp Tryz.func61 rfl Tryz.ntmps61 (by simp) fun X w => ?_
  show AWp _ _ _ ⟨[(0, .p (.slc (List.map encRow rows_4)))], []⟩
  simp only [survivor_checkRows] at h
  refine awp_seq ?_
  refine awp_region ?_
  refine AL_upto (by exact rfl) (by simp only [go_sem, seval]; exact rfl) ?_
  refine AL_nil ?_
  refine thenA_n ?_
  refine awp_seq ?_
  refine awp_seq ?_
  refine awp_region ?_
  refine AL_upto (by exact rfl) (by simp only [go_sem, seval]; exact rfl) ?_
  refine AL_nil ?_
  refine thenA_n ?_
  by_cases hb_5 : ((rows_4.length : Int) == 0) = true
  · rw [if_pos hb_5] at h
    refine awp_ct (by simp only [go_sem, seval, hb_5]) ?_
    refine awp_seq ?_
    refine awp_region ?_
    refine AL_upto (by exact rfl) (by simp only [go_sem, seval, hb_5]; exact rfl) ?_
    refine AL_nil ?_
    refine thenA_n ?_
    refine awp_ret ?_
    refine thenA_ret ?_
    cases h
    refine retQ_ret (by simp only [Tryz.results61]; simp only [go_sem, seval, hb_5]; exact rfl) ?_
    simp only [go_sem, seval, hb_5]
    all_goals ((repeat' refine And.intro ?_ ?_) <;> first | rfl | (simp; done) | (simp; rfl) | (simp [*]; done) | (simp [*]; rfl))
  · rw [if_neg hb_5] at h
    have hb_5F := Bool.eq_false_iff.2 hb_5
    refine awp_cf (by simp only [go_sem, seval, hb_5F]) ?_
    refine awp_skip ?_
    refine thenA_n ?_
    refine awp_seq ?_
    refine awp_seq ?_
    refine awp_region ?_
    refine AL_upto (by exact rfl) (by simp only [go_sem, seval, hb_5F]; exact rfl) ?_
    refine AL_nil ?_
    refine thenA_n ?_
    refine awp_block ?_
    obtain ⟨o_32, hL_33, h⟩ := Option.bind_eq_some_iff.1 h
    refine awp_loop_L (fun (s : Int) => ⟨[(0, .p (.slc (List.map encRow rows_4))), (8, .p (.slc (List.map encRow rows_4))), (9, .p (.int .i64 (rows_4.length : Int))), (10, .p (.int .i64 s))], []⟩) (fun (o : (Unit) ⊕ (Int)) (e : Exit) (s' : St) => match o with | .inl o_35 => e = (.exit 0) ∧ Le ⟨Tryz.prog, Tryz.f61.ntmps, 0, X, [], fun _ => none, w⟩ s' ⟨[], []⟩ | .inr o_36 => e = .ret ∧ retQ Tryz.prog Tryz.f61 (.int .i64 o_36) .ret s') (by intro o s hT; rcases o with _ | _ <;> (have hh := hT.1; cases hh)) hL_33 (by simp only [go_sem, seval, hb_5F]; all_goals ((repeat' refine And.intro ?_ ?_) <;> first | rfl | (simp; done) | (simp; rfl) | (simp [*]; done) | (simp [*]; rfl))) ?_ ?_
    · clear h
      intro t10_13 x h
      simp only [survivor_checkRows_l1] at h
      show AWp _ _ _ ⟨[(0, .p (.slc (List.map encRow rows_4))), (8, .p (.slc (List.map encRow rows_4))), (9, .p (.int .i64 (rows_4.length : Int))), (10, .p (.int .i64 t10_13))], []⟩
      refine awp_seq ?_
      refine awp_region ?_
      refine AL_upto (by exact rfl) (by simp only [go_sem, seval]; exact rfl) ?_
      refine AL_nil ?_
      refine thenA_n ?_
      refine awp_seq ?_
      by_cases hb_24 : t10_13 < (rows_4.length : Int)
      · rw [if_pos hb_24] at h
        have hb_24T := eq_true hb_24
        refine awp_ct (by simp only [go_sem, seval, hb_24T]) ?_
        refine awp_skip ?_
        refine thenA_n ?_
        refine awp_seq ?_
        refine awp_block ?_
        refine awp_seq ?_
        refine awp_region ?_
        obtain ⟨x_27, hx_28, h⟩ := Option.bind_eq_some_iff.1 h
        obtain ⟨hx_28a, hx_28, hx_28b⟩ := idx_some hx_28
        have hx_28A := eq_true hx_28a
        have hx_28B := eq_true hx_28b
        refine AL_upto (by exact rfl) (by simp only [go_sem, seval, hb_24T, hx_28, hx_28A, hx_28B]; exact rfl) ?_
        refine AL_nil ?_
        refine thenA_n ?_
        refine awp_seq ?_
        refine awp_drawn_walk mixed (by decide) ?_
        obtain ⟨x_29, hx_30, h⟩ := Option.bind_eq_some_iff.1 h
        have hx_30l := eq_true (lt_of_get hx_30)
        have hx_30L : ((0 : Int) < (rows_4.length : Int)) = True := eq_true (by have := lt_of_get hx_30; omega)
        refine DGo.upto (by exact rfl) (by simp only [go_sem, seval, hb_24T, hx_30, hx_30l, hx_30L]; first | exact ⟨rfl, rfl⟩ | exact rfl) ?_
        refine DGo.fin rfl ?_
        refine thenA_n ?_
        by_cases hb_31 : ((x_27.Values.length : Int) != (x_29.Values.length : Int)) = true
        · rw [if_pos hb_31] at h
          refine awp_ct (by simp only [go_sem, seval, hb_24T, hb_31]) ?_
          refine awp_seq ?_
          refine awp_region ?_
          refine AL_upto (by exact rfl) (by simp only [go_sem, seval, hb_24T, hb_31]; exact rfl) ?_
          refine AL_nil ?_
          refine thenA_n ?_
          refine awp_ret ?_
          refine blockA_ret ?_
          refine thenA_ret ?_
          cases h
          refine ⟨rfl, ?_⟩
          refine retQ_ret (by simp only [Tryz.results61]; simp only [go_sem, seval, hb_24T, hb_31]; exact rfl) ?_
          simp only [go_sem, seval, hb_24T, hb_31]
          all_goals ((repeat' refine And.intro ?_ ?_) <;> first | rfl | (simp; done) | (simp; rfl) | (simp [*]; done) | (simp [*]; rfl))
        · rw [if_neg hb_31] at h
          have hb_31F := Bool.eq_false_iff.2 hb_31
          refine awp_cf (by simp only [go_sem, seval, hb_24T, hb_31F]) ?_
          refine awp_skip ?_
          refine blockA_n ?_
          refine thenA_n ?_
          refine awp_region ?_
          refine AL_upto (by exact rfl) (by simp only [go_sem, seval, hb_24T, hb_31F]; exact rfl) ?_
          refine AL_nil ?_
          cases h
          refine ⟨rfl, ?_⟩
          simp only [go_sem, seval, hb_24T, hb_31F]
          all_goals ((repeat' refine And.intro ?_ ?_) <;> first | rfl | (simp; done) | (simp; rfl) | (simp [*]; done) | (simp [*]; rfl))
      · rw [if_neg hb_24] at h
        have hb_24T := eq_false hb_24
        refine awp_cf (by simp only [go_sem, seval, hb_24T]) ?_
        refine awp_exit ?_
        refine thenA_exit ?_
        cases h
        refine ⟨rfl, ?_⟩
        simp only [go_sem, seval, hb_24T]
        all_goals ((repeat' refine And.intro ?_ ?_) <;> first | rfl | (simp; done) | (simp; rfl) | (simp [*]; done) | (simp [*]; rfl))
    · intro e s' hT
      rcases o_32 with ⟨⟩ | r_34
      · try simp only at h
        try simp only at hT
        obtain ⟨rfl, hle⟩ := hT
        refine Wk.to hle ?_
        clear hle
        refine blockA_here ?_
        refine thenA_n ?_
        refine awp_seq ?_
        refine awp_region ?_
        refine AL_upto (by exact rfl) (by simp only [go_sem, seval, hb_5F]; exact rfl) ?_
        refine AL_nil ?_
        refine thenA_n ?_
        refine awp_ret ?_
        cases h
        refine retQ_ret (by simp only [Tryz.results61]; simp only [go_sem, seval, hb_5F]; exact rfl) ?_
        simp only [go_sem, seval, hb_5F]
        all_goals ((repeat' refine And.intro ?_ ?_) <;> first | rfl | (simp; done) | (simp; rfl) | (simp [*]; done) | (simp [*]; rfl))
      · try simp only at h
        try simp only at hT
        obtain ⟨rfl, hq⟩ := hT
        refine Wk.now ?_
        refine blockA_ret ?_
        refine thenA_ret ?_
        cases h
        exact hq
end Go.Proofs.YtdmddoljldjjeaaGreat
set_option linter.unusedVariables false
set_option linter.unusedSimpArgs false
namespace Go.Proofs.YtdmddoljldjjeaaGreat
open Go Go.Ab
set_option maxHeartbeats 4000000 in
theorem slices_IndexFunc_Value_con (s_38 : List Value) (f_39 : Value → Option (Bool)) (f_39_k : FuncId) (f_39_cs : List PV) (f_39_h : ∀ (y_40 : Value) (r_41 : Bool), f_39 y_40 = some r_41 → Con Tryz.prog f_39_k ((encValue y_40) :: f_39_cs) (.bool r_41)) (r_69 : Int) (h : slices_IndexFunc_Value s_38 f_39 = some r_69) : Con Tryz.prog 137 [(.slc (List.map encValue s_38)), .func (.func f_39_k) f_39_cs] (.int .i64 r_69) := by
  refine ⟨Tryz.call137, ?_⟩
  refine pure_of_awp Tryz.func137 rfl Tryz.ntmps137 (by simp) fun X w => ?_
  show AWp _ _ _ ⟨[(0, .p (.slc (List.map encValue s_38))), (1, .p (.func (.func f_39_k) f_39_cs))], []⟩
  simp only [slices_IndexFunc_Value] at h
  refine awp_seq ?_
  refine awp_region ?_
  refine AL_upto (by exact rfl) (by simp only [go_sem, seval]; exact rfl) ?_
  refine AL_nil ?_
  refine thenA_n ?_
  refine awp_seq ?_
  refine awp_seq ?_
  refine awp_region ?_
  refine AL_upto (by exact rfl) (by simp only [go_sem, seval]; exact rfl) ?_
  refine AL_nil ?_
  refine thenA_n ?_
  refine awp_block ?_
  obtain ⟨o_64, hL_65, h⟩ := Option.bind_eq_some_iff.1 h
  refine awp_loop_L (fun (s : Int) => ⟨[(0, .p (.slc (List.map encValue s_38))), (1, .p (.func (.func f_39_k) f_39_cs)), (7, .p (.int .i64 (s_38.length : Int))), (8, .p (.int .i64 s))], []⟩) (fun (o : (Unit) ⊕ (Int)) (e : Exit) (s' : St) => match o with | .inl o_67 => e = (.exit 0) ∧ Le ⟨Tryz.prog, Tryz.f137.ntmps, 0, X, [], fun _ => none, w⟩ s' ⟨[], []⟩ | .inr o_68 => e = .ret ∧ retQ Tryz.prog Tryz.f137 (.int .i64 o_68) .ret s') (by intro o s hT; rcases o with _ | _ <;> (have hh := hT.1; cases hh)) hL_65 (by simp only [go_sem, seval]; all_goals ((repeat' refine And.intro ?_ ?_) <;> first | rfl | (simp; done) | (simp; rfl) | (simp [*]; done) | (simp [*]; rfl))) ?_ ?_
  · clear h
    intro t8_49 x h
    simp only [slices_IndexFunc_Value_l1] at h
    show AWp _ _ _ ⟨[(0, .p (.slc (List.map encValue s_38))), (1, .p (.func (.func f_39_k) f_39_cs)), (7, .p (.int .i64 (s_38.length : Int))), (8, .p (.int .i64 t8_49))], []⟩
    refine awp_seq ?_
    refine awp_region ?_
    refine AL_upto (by exact rfl) (by simp only [go_sem, seval]; exact rfl) ?_
    refine AL_nil ?_
    refine thenA_n ?_
    refine awp_seq ?_
    by_cases hb_58 : t8_49 < (s_38.length : Int)
    · rw [if_pos hb_58] at h
      have hb_58T := eq_true hb_58
      refine awp_ct (by simp only [go_sem, seval, hb_58T]) ?_
      refine awp_skip ?_
      refine thenA_n ?_
      refine awp_seq ?_
      refine awp_block ?_
      refine awp_seq ?_
      refine awp_region ?_
      refine AL_upto (by exact rfl) (by simp only [go_sem, seval, hb_58T]; exact rfl) ?_
      refine AL_nil ?_
      refine thenA_n ?_
      refine awp_seq ?_
      refine awp_region ?_
      obtain ⟨x_59, hx_60, h⟩ := Option.bind_eq_some_iff.1 h
      obtain ⟨hx_60a, hx_60, hx_60b⟩ := idx_some hx_60
      have hx_60A := eq_true hx_60a
      have hx_60B := eq_true hx_60b
      refine AL_upto (by exact rfl) (by simp only [go_sem, seval, hb_58T, hx_60, hx_60A, hx_60B]; exact rfl) ?_
      obtain ⟨r_61, hr_62, h⟩ := Option.bind_eq_some_iff.1 h
      refine AL_con' rfl (guard_none rfl) rfl (by simp only [go_sem, seval, hb_58T]; exact rfl) (by simp only [go_sem, seval, hb_58T]; all_goals ((repeat' refine And.intro ?_ ?_) <;> first | rfl | (simp; done) | (simp; rfl) | (simp [*]; done) | (simp [*]; rfl))) (f_39_h x_59 _ hr_62) (.inr rfl) rfl ?_
      refine AL_nil ?_
      refine thenA_n ?_
      by_cases hb_63 : r_61 = true
      · rw [if_pos hb_63] at h
        refine awp_ct (by simp only [go_sem, seval, hb_58T, hb_63]) ?_
        refine awp_seq ?_
        refine awp_region ?_
        refine AL_upto (by exact rfl) (by simp only [go_sem, seval, hb_58T, hb_63]; exact rfl) ?_
        refine AL_nil ?_
        refine thenA_n ?_
        refine awp_ret ?_
        refine blockA_ret ?_
        refine thenA_ret ?_
        cases h
        refine ⟨rfl, ?_⟩
        refine retQ_ret (by simp only [Tryz.results137]; simp only [go_sem, seval, hb_58T, hb_63]; exact rfl) ?_
        simp only [go_sem, seval, hb_58T, hb_63]
        all_goals ((repeat' refine And.intro ?_ ?_) <;> first | rfl | (simp; done) | (simp; rfl) | (simp [*]; done) | (simp [*]; rfl))
      · rw [if_neg hb_63] at h
        have hb_63F := Bool.eq_false_iff.2 hb_63
        refine awp_cf (by simp only [go_sem, seval, hb_58T, hb_63F]) ?_
        refine awp_skip ?_
        refine blockA_n ?_
        refine thenA_n ?_
        refine awp_region ?_
        refine AL_upto (by exact rfl) (by simp only [go_sem, seval, hb_58T, hb_63F]; exact rfl) ?_
        refine AL_nil ?_
        cases h
        refine ⟨rfl, ?_⟩
        simp only [go_sem, seval, hb_58T, hb_63F]
        all_goals ((repeat' refine And.intro ?_ ?_) <;> first | rfl | (simp; done) | (simp; rfl) | (simp [*]; done) | (simp [*]; rfl))
    · rw [if_neg hb_58] at h
      have hb_58T := eq_false hb_58
      refine awp_cf (by simp only [go_sem, seval, hb_58T]) ?_
      refine awp_exit ?_
      refine thenA_exit ?_
      cases h
      refine ⟨rfl, ?_⟩
      simp only [go_sem, seval, hb_58T]
      all_goals ((repeat' refine And.intro ?_ ?_) <;> first | rfl | (simp; done) | (simp; rfl) | (simp [*]; done) | (simp [*]; rfl))
  · intro e s' hT
    rcases o_64 with ⟨⟩ | r_66
    · try simp only at h
      try simp only at hT
      obtain ⟨rfl, hle⟩ := hT
      refine Wk.to hle ?_
      clear hle
      refine blockA_here ?_
      refine thenA_n ?_
      refine awp_seq ?_
      refine awp_region ?_
      refine AL_upto (by exact rfl) (by simp only [go_sem, seval]; exact rfl) ?_
      refine AL_nil ?_
      refine thenA_n ?_
      refine awp_ret ?_
      cases h
      refine retQ_ret (by simp only [Tryz.results137]; simp only [go_sem, seval]; exact rfl) ?_
      simp only [go_sem, seval]
      all_goals ((repeat' refine And.intro ?_ ?_) <;> first | rfl | (simp; done) | (simp; rfl) | (simp [*]; done) | (simp [*]; rfl))
    · try simp only at h
      try simp only at hT
      obtain ⟨rfl, hq⟩ := hT
      refine Wk.now ?_
      refine blockA_ret ?_
      refine thenA_ret ?_
      cases h
      exact hq
end Go.Proofs.YtdmddoljldjjeaaGreat
set_option linter.unusedVariables false
set_option linter.unusedSimpArgs false
namespace Go.Proofs.YtdmddoljldjjeaaGreat
open Go Go.Ab
set_option maxHeartbeats 4000000 in
theorem slices_ContainsFunc_Value_con (s_70 : List Value) (f_71 : Value → Option (Bool)) (f_71_k : FuncId) (f_71_cs : List PV) (f_71_h : ∀ (y_72 : Value) (r_73 : Bool), f_71 y_72 = some r_73 → Con Tryz.prog f_71_k ((encValue y_72) :: f_71_cs) (.bool r_73)) (r_76 : Bool) (h : slices_ContainsFunc_Value s_70 f_71 = some r_76) : Con Tryz.prog 101 [(.slc (List.map encValue s_70)), .func (.func f_71_k) f_71_cs] (.bool r_76) := by
  refine ⟨Tryz.call101, ?_⟩
  refine pure_of_awp Tryz.func101 rfl Tryz.ntmps101 (by simp) fun X w => ?_
  show AWp _ _ _ ⟨[(0, .p (.slc (List.map encValue s_70))), (1, .p (.func (.func f_71_k) f_71_cs))], []⟩
  simp only [slices_ContainsFunc_Value] at h
  refine awp_seq ?_
  refine awp_region ?_
  refine AL_upto (by exact rfl) (by simp only [go_sem, seval]; exact rfl) ?_
  refine AL_nil ?_
  refine thenA_n ?_
  refine awp_seq ?_
  refine awp_region ?_
  refine AL_upto (by exact rfl) (by simp only [go_sem, seval]; exact rfl) ?_
  obtain ⟨r_74, hr_75, h⟩ := Option.bind_eq_some_iff.1 h
  refine AL_con' rfl (guard_none rfl) rfl (by simp only [go_sem, seval]; exact rfl) (by simp only [go_sem, seval]; all_goals ((repeat' refine And.intro ?_ ?_) <;> first | rfl | (simp; done) | (simp; rfl) | (simp [*]; done) | (simp [*]; rfl))) (slices_IndexFunc_Value_con s_70 f_71 f_71_k f_71_cs f_71_h _ hr_75) (.inr rfl) rfl ?_
  refine AL_upto (by exact rfl) (by simp only [go_sem, seval]; exact rfl) ?_
  refine AL_nil ?_
  refine thenA_n ?_
  refine awp_ret ?_
  cases h
  refine retQ_ret (by simp only [Tryz.results101]; simp only [go_sem, seval]; exact rfl) ?_
  simp only [go_sem, seval]
  all_goals ((repeat' refine And.intro ?_ ?_) <;> first | rfl | (simp; done) | (simp; rfl) | (simp [*]; done) | (simp [*]; rfl))
end Go.Proofs.YtdmddoljldjjeaaGreat
set_option linter.unusedVariables false
set_option linter.unusedSimpArgs false
namespace Go.Proofs.YtdmddoljldjjeaaGreat
open Go Go.Ab
set_option maxHeartbeats 4000000 in
theorem value_Valid_con (v_77 : Value) (r_85 : Bool) (h : value_Valid v_77 = some r_85) : Con Tryz.prog 103 [(encValue v_77)] (.bool r_85) := by
  refine ⟨Tryz.call103, ?_⟩
  refine pure_of_awp Tryz.func103 rfl Tryz.ntmps103 (by simp) fun X w => ?_
  show AWp _ _ _ ⟨[(0, .p (encValue v_77))], []⟩
  simp only [value_Valid] at h
  refine awp_seq ?_
  refine awp_region ?_
  refine AL_upto (by exact rfl) (by simp only [go_sem, seval]; exact rfl) ?_
  refine AL_nil ?_
  refine thenA_n ?_
  refine awp_seq ?_
  refine awp_seq ?_
  refine awp_region ?_
  refine AL_upto (by exact rfl) (by simp only [go_sem, seval]; exact rfl) ?_
  refine AL_nil ?_
  refine thenA_n ?_
  refine awp_block ?_
  refine awp_seq ?_
  refine awp_region ?_
  refine AL_upto (by exact rfl) (by simp only [go_sem, seval]; exact rfl) ?_
  refine AL_nil ?_
  refine thenA_n ?_
  by_cases hb_78 : (v_77.Kind == 0) = true
  · rw [if_pos hb_78] at h
    refine awp_ct (by simp only [go_sem, seval, hb_78]) ?_
    refine awp_seq ?_
    refine awp_region ?_
    refine AL_upto (by exact rfl) (by simp only [go_sem, seval, hb_78]; exact rfl) ?_
    by_cases hb_79 : (v_77.Num == 0) = true
    · rw [if_pos hb_79] at h
      refine AL_known (d := 10) (v := .p (.bool true)) (by simp only [go_sem, seval, hb_78, hb_79]) ?_
      refine AL_gt' (guard_true' rfl rfl (by exact rfl) (by exact rfl)) rfl (by simp only [go_sem, seval, hb_78, hb_79]; exact rfl) ?_
      refine AL_gt' (guard_true' rfl rfl (by exact rfl) (by exact rfl)) rfl (by simp only [go_sem, seval, hb_78, hb_79]; exact rfl) ?_
      refine AL_gt' (guard_true' rfl rfl (by exact rfl) (by exact rfl)) rfl (by simp only [go_sem, seval, hb_78, hb_79]; exact rfl) ?_
      refine AL_upto (by exact rfl) (by simp only [go_sem, seval, hb_78, hb_79]; exact rfl) ?_
      refine AL_nil ?_
      refine thenA_n ?_
      refine awp_ret ?_
      refine blockA_ret ?_
      refine thenA_ret ?_
      cases h
      refine retQ_ret (by simp only [Tryz.results103]; simp only [go_sem, seval, hb_78, hb_79]; exact rfl) ?_
      simp only [go_sem, seval, hb_78, hb_79]
      all_goals ((repeat' refine And.intro ?_ ?_) <;> first | rfl | (simp; done) | (simp; rfl) | (simp [*]; done) | (simp [*]; rfl))
    · rw [if_neg hb_79] at h
      have hb_79F := Bool.eq_false_iff.2 hb_79
      refine AL_known (d := 10) (v := .p (.bool false)) (by simp only [go_sem, seval, hb_78, hb_79F]) ?_
      refine AL_skips (by exact rfl) ?_
      refine AL_upto (by exact rfl) (by simp only [go_sem, seval, hb_78, hb_79F]; exact rfl) ?_
      refine AL_nil ?_
      refine thenA_n ?_
      refine awp_ret ?_
      refine blockA_ret ?_
      refine thenA_ret ?_
      cases h
      refine retQ_ret (by simp only [Tryz.results103]; simp only [go_sem, seval, hb_78, hb_79F]; exact rfl) ?_
      simp only [go_sem, seval, hb_78, hb_79F]
      all_goals ((repeat' refine And.intro ?_ ?_) <;> first | rfl | (simp; done) | (simp; rfl) | (simp [*]; done) | (simp [*]; rfl))
  · rw [if_neg hb_78] at h
    have hb_78F := Bool.eq_false_iff.2 hb_78
    refine awp_cf (by simp only [go_sem, seval, hb_78F]) ?_
    refine awp_seq ?_
    refine awp_region ?_
    refine AL_upto (by exact rfl) (by simp only [go_sem, seval, hb_78F]; exact rfl) ?_
    refine AL_nil ?_
    refine thenA_n ?_
    by_cases hb_80 : (v_77.Kind == 1) = true
    · rw [if_pos hb_80] at h
      refine awp_ct (by simp only [go_sem, seval, hb_78F, hb_80]) ?_
      refine awp_seq ?_
      refine awp_region ?_
      refine AL_upto (by exact rfl) (by simp only [go_sem, seval, hb_78F, hb_80]; exact rfl) ?_
      refine AL_nil ?_
      refine thenA_n ?_
      refine awp_ret ?_
      refine blockA_ret ?_
      refine thenA_ret ?_
      cases h
      refine retQ_ret (by simp only [Tryz.results103]; simp only [go_sem, seval, hb_78F, hb_80]; exact rfl) ?_
      simp only [go_sem, seval, hb_78F, hb_80]
      all_goals ((repeat' refine And.intro ?_ ?_) <;> first | rfl | (simp; done) | (simp; rfl) | (simp [*]; done) | (simp [*]; rfl))
    · rw [if_neg hb_80] at h
      have hb_80F := Bool.eq_false_iff.2 hb_80
      refine awp_cf (by simp only [go_sem, seval, hb_78F, hb_80F]) ?_
      refine awp_seq ?_
      refine awp_region ?_
      refine AL_upto (by exact rfl) (by simp only [go_sem, seval, hb_78F, hb_80F]; exact rfl) ?_
      refine AL_nil ?_
      refine thenA_n ?_
      by_cases hb_81 : (v_77.Kind == 2) = true
      · rw [if_pos hb_81] at h
        refine awp_ct (by simp only [go_sem, seval, hb_78F, hb_80F, hb_81]) ?_
        refine awp_seq ?_
        refine awp_region ?_
        refine AL_upto (by exact rfl) (by simp only [go_sem, seval, hb_78F, hb_80F, hb_81]; exact rfl) ?_
        by_cases hb_82 : (v_77.Num == 0) = true
        · rw [if_pos hb_82] at h
          refine AL_known (d := 25) (v := .p (.bool true)) (by simp only [go_sem, seval, hb_78F, hb_80F, hb_81, hb_82]) ?_
          refine AL_gt' (guard_true' rfl rfl (by exact rfl) (by exact rfl)) rfl (by simp only [go_sem, seval, hb_78F, hb_80F, hb_81, hb_82]; exact rfl) ?_
          refine AL_gt' (guard_true' rfl rfl (by exact rfl) (by exact rfl)) rfl (by simp only [go_sem, seval, hb_78F, hb_80F, hb_81, hb_82]; exact rfl) ?_
          refine AL_gt' (guard_true' rfl rfl (by exact rfl) (by exact rfl)) rfl (by simp only [go_sem, seval, hb_78F, hb_80F, hb_81, hb_82]; exact rfl) ?_
          refine AL_gt' (guard_true' rfl rfl (by exact rfl) (by exact rfl)) rfl (by simp only [go_sem, seval, hb_78F, hb_80F, hb_81, hb_82]; exact rfl) ?_
          refine AL_upto (by exact rfl) (by simp only [go_sem, seval, hb_78F, hb_80F, hb_81, hb_82]; exact rfl) ?_
          refine AL_nil ?_
          refine thenA_n ?_
          refine awp_ret ?_
          refine blockA_ret ?_
          refine thenA_ret ?_
          cases h
          refine retQ_ret (by simp only [Tryz.results103]; simp only [go_sem, seval, hb_78F, hb_80F, hb_81, hb_82]; exact rfl) ?_
          simp only [go_sem, seval, hb_78F, hb_80F, hb_81, hb_82]
          all_goals ((repeat' refine And.intro ?_ ?_) <;> first | rfl | (simp; done) | (simp; rfl) | (simp [*]; done) | (simp [*]; rfl))
        · rw [if_neg hb_82] at h
          have hb_82F := Bool.eq_false_iff.2 hb_82
          refine AL_known (d := 25) (v := .p (.bool false)) (by simp only [go_sem, seval, hb_78F, hb_80F, hb_81, hb_82F]) ?_
          refine AL_skips (by exact rfl) ?_
          refine AL_upto (by exact rfl) (by simp only [go_sem, seval, hb_78F, hb_80F, hb_81, hb_82F]; exact rfl) ?_
          refine AL_nil ?_
          refine thenA_n ?_
          refine awp_ret ?_
          refine blockA_ret ?_
          refine thenA_ret ?_
          cases h
          refine retQ_ret (by simp only [Tryz.results103]; simp only [go_sem, seval, hb_78F, hb_80F, hb_81, hb_82F]; exact rfl) ?_
          simp only [go_sem, seval, hb_78F, hb_80F, hb_81, hb_82F]
          all_goals ((repeat' refine And.intro ?_ ?_) <;> first | rfl | (simp; done) | (simp; rfl) | (simp [*]; done) | (simp [*]; rfl))
      · rw [if_neg hb_81] at h
        have hb_81F := Bool.eq_false_iff.2 hb_81
        refine awp_cf (by simp only [go_sem, seval, hb_78F, hb_80F, hb_81F]) ?_
        refine awp_seq ?_
        refine awp_region ?_
        refine AL_upto (by exact rfl) (by simp only [go_sem, seval, hb_78F, hb_80F, hb_81F]; exact rfl) ?_
        refine AL_nil ?_
        refine thenA_n ?_
        by_cases hb_83 : (v_77.Kind == 3) = true
        · rw [if_pos hb_83] at h
          refine awp_ct (by simp only [go_sem, seval, hb_78F, hb_80F, hb_81F, hb_83]) ?_
          refine awp_seq ?_
          refine awp_region ?_
          refine AL_upto (by exact rfl) (by simp only [go_sem, seval, hb_78F, hb_80F, hb_81F, hb_83]; exact rfl) ?_
          by_cases hb_84 : v_77.Num ≥ 1
          · rw [if_pos hb_84] at h
            have hb_84T := eq_true hb_84
            refine AL_known (d := 36) (v := .p (.bool true)) (by simp only [go_sem, seval, hb_78F, hb_80F, hb_81F, hb_83, hb_84T]) ?_
            refine AL_gt' (guard_true' rfl rfl (by exact rfl) (by exact rfl)) rfl (by simp only [go_sem, seval, hb_78F, hb_80F, hb_81F, hb_83, hb_84T]; exact rfl) ?_
            refine AL_gt' (guard_true' rfl rfl (by exact rfl) (by exact rfl)) rfl (by simp only [go_sem, seval, hb_78F, hb_80F, hb_81F, hb_83, hb_84T]; exact rfl) ?_
            refine AL_gt' (guard_true' rfl rfl (by exact rfl) (by exact rfl)) rfl (by simp only [go_sem, seval, hb_78F, hb_80F, hb_81F, hb_83, hb_84T]; exact rfl) ?_
            refine AL_upto (by exact rfl) (by simp only [go_sem, seval, hb_78F, hb_80F, hb_81F, hb_83, hb_84T]; exact rfl) ?_
            refine AL_nil ?_
            refine thenA_n ?_
            refine awp_ret ?_
            refine blockA_ret ?_
            refine thenA_ret ?_
            cases h
            refine retQ_ret (by simp only [Tryz.results103]; simp only [go_sem, seval, hb_78F, hb_80F, hb_81F, hb_83, hb_84T]; exact rfl) ?_
            simp only [go_sem, seval, hb_78F, hb_80F, hb_81F, hb_83, hb_84T]
            all_goals ((repeat' refine And.intro ?_ ?_) <;> first | rfl | (simp; done) | (simp; rfl) | (simp [*]; done) | (simp [*]; rfl))
          · rw [if_neg hb_84] at h
            have hb_84T := eq_false hb_84
            refine AL_known (d := 36) (v := .p (.bool false)) (by simp only [go_sem, seval, hb_78F, hb_80F, hb_81F, hb_83, hb_84T]) ?_
            refine AL_skips (by exact rfl) ?_
            refine AL_upto (by exact rfl) (by simp only [go_sem, seval, hb_78F, hb_80F, hb_81F, hb_83, hb_84T]; exact rfl) ?_
            refine AL_nil ?_
            refine thenA_n ?_
            refine awp_ret ?_
            refine blockA_ret ?_
            refine thenA_ret ?_
            cases h
            refine retQ_ret (by simp only [Tryz.results103]; simp only [go_sem, seval, hb_78F, hb_80F, hb_81F, hb_83, hb_84T]; exact rfl) ?_
            simp only [go_sem, seval, hb_78F, hb_80F, hb_81F, hb_83, hb_84T]
            all_goals ((repeat' refine And.intro ?_ ?_) <;> first | rfl | (simp; done) | (simp; rfl) | (simp [*]; done) | (simp [*]; rfl))
        · rw [if_neg hb_83] at h
          have hb_83F := Bool.eq_false_iff.2 hb_83
          refine awp_cf (by simp only [go_sem, seval, hb_78F, hb_80F, hb_81F, hb_83F]) ?_
          refine awp_skip ?_
          refine blockA_n ?_
          refine thenA_n ?_
          refine awp_seq ?_
          refine awp_region ?_
          refine AL_upto (by exact rfl) (by simp only [go_sem, seval, hb_78F, hb_80F, hb_81F, hb_83F]; exact rfl) ?_
          refine AL_nil ?_
          refine thenA_n ?_
          refine awp_ret ?_
          cases h
          refine retQ_ret (by simp only [Tryz.results103]; simp only [go_sem, seval, hb_78F, hb_80F, hb_81F, hb_83F]; exact rfl) ?_
          simp only [go_sem, seval, hb_78F, hb_80F, hb_81F, hb_83F]
          all_goals ((repeat' refine And.intro ?_ ?_) <;> first | rfl | (simp; done) | (simp; rfl) | (simp [*]; done) | (simp [*]; rfl))
end Go.Proofs.YtdmddoljldjjeaaGreat
set_option linter.unusedVariables false
set_option linter.unusedSimpArgs false
namespace Go.Proofs.YtdmddoljldjjeaaGreat
open Go Go.Ab
set_option maxHeartbeats 4000000 in
theorem survivor_checkValues_1_con (v_86 : Value) (r_89 : Bool) (h : survivor_checkValues_1 v_86 = some r_89) : Con Tryz.prog 102 [(encValue v_86)] (.bool r_89) := by
  refine ⟨Tryz.call102, ?_⟩
  refine pure_of_awp Tryz.func102 rfl Tryz.ntmps102 (by simp) fun X w => ?_
  show AWp _ _ _ ⟨[(0, .p (encValue v_86))], []⟩
  simp only [survivor_checkValues_1] at h
  refine awp_seq ?_
  refine awp_region ?_
  refine AL_upto (by exact rfl) (by simp only [go_sem, seval]; exact rfl) ?_
  refine AL_nil ?_
  refine thenA_n ?_
  refine awp_seq ?_
  refine awp_region ?_
  refine AL_upto (by exact rfl) (by simp only [go_sem, seval]; exact rfl) ?_
  obtain ⟨r_87, hr_88, h⟩ := Option.bind_eq_some_iff.1 h
  refine AL_con' rfl (guard_none rfl) rfl (by simp only [go_sem, seval]; exact rfl) (by simp only [go_sem, seval]; all_goals ((repeat' refine And.intro ?_ ?_) <;> first | rfl | (simp; done) | (simp; rfl) | (simp [*]; done) | (simp [*]; rfl))) (value_Valid_con v_86 _ hr_88) (.inr rfl) rfl ?_
  refine AL_upto (by exact rfl) (by simp only [go_sem, seval]; exact rfl) ?_
  refine AL_nil ?_
  refine thenA_n ?_
  refine awp_ret ?_
  cases h
  refine retQ_ret (by simp only [Tryz.results102]; simp only [go_sem, seval]; exact rfl) ?_
  simp only [go_sem, seval]
  all_goals ((repeat' refine And.intro ?_ ?_) <;> first | rfl | (simp; done) | (simp; rfl) | (simp [*]; done) | (simp [*]; rfl))
end Go.Proofs.YtdmddoljldjjeaaGreat
set_option linter.unusedVariables false
set_option linter.unusedSimpArgs false
namespace Go.Proofs.YtdmddoljldjjeaaGreat
open Go Go.Ab
set_option maxHeartbeats 4000000 in
theorem survivor_checkValues_con (rows_90 : List Row) (r_131 : Int) (h : survivor_checkValues rows_90 = some r_131) : Con Tryz.prog 62 [(.slc (List.map encRow rows_90))] (.int .i64 r_131) := by
  refine ⟨Tryz.call62, ?_⟩
  refine pure_of_awp Tryz.func62 rfl Tryz.ntmps62 (by simp) fun X w => ?_
  show AWp _ _ _ ⟨[(0, .p (.slc (List.map encRow rows_90)))], []⟩
  simp only [survivor_checkValues] at h
  refine awp_seq ?_
  refine awp_region ?_
  refine AL_upto (by exact rfl) (by simp only [go_sem, seval]; exact rfl) ?_
  refine AL_nil ?_
  refine thenA_n ?_
  refine awp_seq ?_
  refine awp_region ?_
  refine AL_upto (by exact rfl) (by simp only [go_sem, seval]; exact rfl) ?_
  refine AL_nil ?_
  refine thenA_n ?_
  refine awp_seq ?_
  refine awp_seq ?_
  refine awp_region ?_
  refine AL_upto (by exact rfl) (by simp only [go_sem, seval]; exact rfl) ?_
  refine AL_nil ?_
  refine thenA_n ?_
  refine awp_block ?_
  obtain ⟨o_126, hL_127, h⟩ := Option.bind_eq_some_iff.1 h
  refine awp_loop_L (fun (s : Int × Int) => ⟨[(3, .p (.int .i64 s.1)), (6, .p (.slc (List.map encRow rows_90))), (7, .p (.int .i64 (rows_90.length : Int))), (8, .p (.int .i64 s.2))], []⟩) (fun (o : (Unit) ⊕ (Int)) (e : Exit) (s' : St) => match o with | .inl o_129 => e = (.exit 0) ∧ Le ⟨Tryz.prog, Tryz.f62.ntmps, 0, X, [], fun _ => none, w⟩ s' ⟨[], []⟩ | .inr o_130 => e = .ret ∧ retQ Tryz.prog Tryz.f62 (.int .i64 o_130) .ret s') (by intro o s hT; rcases o with _ | _ <;> (have hh := hT.1; cases hh)) hL_127 (by simp only [go_sem, seval]; all_goals ((repeat' refine And.intro ?_ ?_) <;> first | rfl | (simp; done) | (simp; rfl) | (simp [*]; done) | (simp [*]; rfl))) ?_ ?_
  · clear h
    intro s x h
    obtain ⟨last_102, t8_103⟩ := s
    simp only [survivor_checkValues_l1] at h
    show AWp _ _ _ ⟨[(3, .p (.int .i64 last_102)), (6, .p (.slc (List.map encRow rows_90))), (7, .p (.int .i64 (rows_90.length : Int))), (8, .p (.int .i64 t8_103))], []⟩
    refine awp_seq ?_
    refine awp_region ?_
    refine AL_upto (by exact rfl) (by simp only [go_sem, seval]; exact rfl) ?_
    refine AL_nil ?_
    refine thenA_n ?_
    refine awp_seq ?_
    by_cases hb_116 : t8_103 < (rows_90.length : Int)
    · rw [if_pos hb_116] at h
      have hb_116T := eq_true hb_116
      refine awp_ct (by simp only [go_sem, seval, hb_116T]) ?_
      refine awp_skip ?_
      refine thenA_n ?_
      refine awp_seq ?_
      refine awp_block ?_
      refine awp_seq ?_
      refine awp_region ?_
      obtain ⟨x_119, hx_120, h⟩ := Option.bind_eq_some_iff.1 h
      obtain ⟨hx_120a, hx_120, hx_120b⟩ := idx_some hx_120
      have hx_120A := eq_true hx_120a
      have hx_120B := eq_true hx_120b
      refine AL_upto (by exact rfl) (by simp only [go_sem, seval, hb_116T, hx_120, hx_120A, hx_120B]; exact rfl) ?_
      refine AL_nil ?_
      refine thenA_n ?_
      refine awp_seq ?_
      refine awp_seq ?_
      refine awp_region ?_
      refine AL_upto (by exact rfl) (by simp only [go_sem, seval, hb_116T]; exact rfl) ?_
      by_cases hb_121 : x_119.ID ≤ last_102
      · rw [if_pos hb_121] at h
        have hb_121T := eq_true hb_121
        refine AL_known (d := 16) (v := .p (.bool true)) (by simp only [go_sem, seval, hb_116T, hb_121T]) ?_
        refine AL_skips (by exact rfl) ?_
        refine AL_upto (by exact rfl) (by simp only [go_sem, seval, hb_116T, hb_121T]; exact rfl) ?_
        refine AL_nil ?_
        refine thenA_n ?_
        refine awp_ct (by simp only [go_sem, seval, hb_116T, hb_121T]) ?_
        refine awp_seq ?_
        refine awp_region ?_
        refine AL_upto (by exact rfl) (by simp only [go_sem, seval, hb_116T, hb_121T]; exact rfl) ?_
        refine AL_nil ?_
        refine thenA_n ?_
        refine awp_ret ?_
        refine thenA_ret ?_
        refine blockA_ret ?_
        refine thenA_ret ?_
        cases h
        refine ⟨rfl, ?_⟩
        refine retQ_ret (by simp only [Tryz.results62]; simp only [go_sem, seval, hb_116T, hb_121T]; exact rfl) ?_
        simp only [go_sem, seval, hb_116T, hb_121T]
        all_goals ((repeat' refine And.intro ?_ ?_) <;> first | rfl | (simp; done) | (simp; rfl) | (simp [*]; done) | (simp [*]; rfl))
      · rw [if_neg hb_121] at h
        have hb_121T := eq_false hb_121
        refine AL_known (d := 16) (v := .p (.bool false)) (by simp only [go_sem, seval, hb_116T, hb_121T]) ?_
        refine AL_gt' (guard_true' rfl rfl (by exact rfl) (by exact rfl)) rfl (by simp only [go_sem, seval, hb_116T, hb_121T]; exact rfl) ?_
        refine AL_gt' (guard_true' rfl rfl (by exact rfl) (by exact rfl)) rfl (by simp only [go_sem, seval, hb_116T, hb_121T]; exact rfl) ?_
        obtain ⟨r_123, hr_124, h⟩ := Option.bind_eq_some_iff.1 h
        refine AL_con' rfl (guard_true' rfl rfl (by exact rfl) (by exact rfl)) rfl (by simp only [go_sem, seval, hb_116T, hb_121T]; exact rfl) (by simp only [go_sem, seval, hb_116T, hb_121T]; all_goals ((repeat' refine And.intro ?_ ?_) <;> first | rfl | (simp; done) | (simp; rfl) | (simp [*]; done) | (simp [*]; rfl))) (slices_ContainsFunc_Value_con x_119.Values (fun (y_122 : Value) => survivor_checkValues_1 y_122) 102 [] (fun y_122 r h => survivor_checkValues_1_con y_122 r h) _ hr_124) (.inr rfl) rfl ?_
        refine AL_upto (by exact rfl) (by simp only [go_sem, seval, hb_116T, hb_121T]; exact rfl) ?_
        refine AL_nil ?_
        refine thenA_n ?_
        by_cases hb_125 : r_123 = true
        · rw [if_pos hb_125] at h
          refine awp_ct (by simp only [go_sem, seval, hb_116T, hb_121T, hb_125]) ?_
          refine awp_seq ?_
          refine awp_region ?_
          refine AL_upto (by exact rfl) (by simp only [go_sem, seval, hb_116T, hb_121T, hb_125]; exact rfl) ?_
          refine AL_nil ?_
          refine thenA_n ?_
          refine awp_ret ?_
          refine thenA_ret ?_
          refine blockA_ret ?_
          refine thenA_ret ?_
          cases h
          refine ⟨rfl, ?_⟩
          refine retQ_ret (by simp only [Tryz.results62]; simp only [go_sem, seval, hb_116T, hb_121T, hb_125]; exact rfl) ?_
          simp only [go_sem, seval, hb_116T, hb_121T, hb_125]
          all_goals ((repeat' refine And.intro ?_ ?_) <;> first | rfl | (simp; done) | (simp; rfl) | (simp [*]; done) | (simp [*]; rfl))
        · rw [if_neg hb_125] at h
          have hb_125F := Bool.eq_false_iff.2 hb_125
          refine awp_cf (by simp only [go_sem, seval, hb_116T, hb_121T, hb_125F]) ?_
          refine awp_skip ?_
          refine thenA_n ?_
          refine awp_region ?_
          refine AL_upto (by exact rfl) (by simp only [go_sem, seval, hb_116T, hb_121T, hb_125F]; exact rfl) ?_
          refine AL_nil ?_
          refine blockA_n ?_
          refine thenA_n ?_
          refine awp_region ?_
          refine AL_upto (by exact rfl) (by simp only [go_sem, seval, hb_116T, hb_121T, hb_125F]; exact rfl) ?_
          refine AL_nil ?_
          cases h
          refine ⟨rfl, ?_⟩
          simp only [go_sem, seval, hb_116T, hb_121T, hb_125F]
          all_goals ((repeat' refine And.intro ?_ ?_) <;> first | rfl | (simp; done) | (simp; rfl) | (simp [*]; done) | (simp [*]; rfl))
    · rw [if_neg hb_116] at h
      have hb_116T := eq_false hb_116
      refine awp_cf (by simp only [go_sem, seval, hb_116T]) ?_
      refine awp_exit ?_
      refine thenA_exit ?_
      cases h
      refine ⟨rfl, ?_⟩
      simp only [go_sem, seval, hb_116T]
      all_goals ((repeat' refine And.intro ?_ ?_) <;> first | rfl | (simp; done) | (simp; rfl) | (simp [*]; done) | (simp [*]; rfl))
  · intro e s' hT
    rcases o_126 with ⟨⟩ | r_128
    · try simp only at h
      try simp only at hT
      obtain ⟨rfl, hle⟩ := hT
      refine Wk.to hle ?_
      clear hle
      refine blockA_here ?_
      refine thenA_n ?_
      refine awp_seq ?_
      refine awp_region ?_
      refine AL_upto (by exact rfl) (by simp only [go_sem, seval]; exact rfl) ?_
      refine AL_nil ?_
      refine thenA_n ?_
      refine awp_ret ?_
      cases h
      refine retQ_ret (by simp only [Tryz.results62]; simp only [go_sem, seval]; exact rfl) ?_
      simp only [go_sem, seval]
      all_goals ((repeat' refine And.intro ?_ ?_) <;> first | rfl | (simp; done) | (simp; rfl) | (simp [*]; done) | (simp [*]; rfl))
    · try simp only at h
      try simp only at hT
      obtain ⟨rfl, hq⟩ := hT
      refine Wk.now ?_
      refine blockA_ret ?_
      refine thenA_ret ?_
      cases h
      exact hq
end Go.Proofs.YtdmddoljldjjeaaGreat
set_option linter.unusedVariables false
set_option linter.unusedSimpArgs false
namespace Go.Proofs.YtdmddoljldjjeaaGreat
open Go Go.Ab
set_option maxHeartbeats 4000000 in
theorem slices_IndexFunc_Row_con (s_132 : List Row) (f_133 : Row → Option (Bool)) (f_133_k : FuncId) (f_133_cs : List PV) (f_133_h : ∀ (y_134 : Row) (r_135 : Bool), f_133 y_134 = some r_135 → Con Tryz.prog f_133_k ((encRow y_134) :: f_133_cs) (.bool r_135)) (r_163 : Int) (h : slices_IndexFunc_Row s_132 f_133 = some r_163) : Con Tryz.prog 94 [(.slc (List.map encRow s_132)), .func (.func f_133_k) f_133_cs] (.int .i64 r_163) := by
  refine ⟨Tryz.call94, ?_⟩
  refine pure_of_awp Tryz.func94 rfl Tryz.ntmps94 (by simp) fun X w => ?_
  show AWp _ _ _ ⟨[(0, .p (.slc (List.map encRow s_132))), (1, .p (.func (.func f_133_k) f_133_cs))], []⟩
  simp only [slices_IndexFunc_Row] at h
  refine awp_seq ?_
  refine awp_region ?_
  refine AL_upto (by exact rfl) (by simp only [go_sem, seval]; exact rfl) ?_
  refine AL_nil ?_
  refine thenA_n ?_
  refine awp_seq ?_
  refine awp_seq ?_
  refine awp_region ?_
  refine AL_upto (by exact rfl) (by simp only [go_sem, seval]; exact rfl) ?_
  refine AL_nil ?_
  refine thenA_n ?_
  refine awp_block ?_
  obtain ⟨o_158, hL_159, h⟩ := Option.bind_eq_some_iff.1 h
  refine awp_loop_L (fun (s : Int) => ⟨[(0, .p (.slc (List.map encRow s_132))), (1, .p (.func (.func f_133_k) f_133_cs)), (7, .p (.int .i64 (s_132.length : Int))), (8, .p (.int .i64 s))], []⟩) (fun (o : (Unit) ⊕ (Int)) (e : Exit) (s' : St) => match o with | .inl o_161 => e = (.exit 0) ∧ Le ⟨Tryz.prog, Tryz.f94.ntmps, 0, X, [], fun _ => none, w⟩ s' ⟨[], []⟩ | .inr o_162 => e = .ret ∧ retQ Tryz.prog Tryz.f94 (.int .i64 o_162) .ret s') (by intro o s hT; rcases o with _ | _ <;> (have hh := hT.1; cases hh)) hL_159 (by simp only [go_sem, seval]; all_goals ((repeat' refine And.intro ?_ ?_) <;> first | rfl | (simp; done) | (simp; rfl) | (simp [*]; done) | (simp [*]; rfl))) ?_ ?_
  · clear h
    intro t8_143 x h
    simp only [slices_IndexFunc_Row_l1] at h
    show AWp _ _ _ ⟨[(0, .p (.slc (List.map encRow s_132))), (1, .p (.func (.func f_133_k) f_133_cs)), (7, .p (.int .i64 (s_132.length : Int))), (8, .p (.int .i64 t8_143))], []⟩
    refine awp_seq ?_
    refine awp_region ?_
    refine AL_upto (by exact rfl) (by simp only [go_sem, seval]; exact rfl) ?_
    refine AL_nil ?_
    refine thenA_n ?_
    refine awp_seq ?_
    by_cases hb_152 : t8_143 < (s_132.length : Int)
    · rw [if_pos hb_152] at h
      have hb_152T := eq_true hb_152
      refine awp_ct (by simp only [go_sem, seval, hb_152T]) ?_
      refine awp_skip ?_
      refine thenA_n ?_
      refine awp_seq ?_
      refine awp_block ?_
      refine awp_seq ?_
      refine awp_region ?_
      refine AL_upto (by exact rfl) (by simp only [go_sem, seval, hb_152T]; exact rfl) ?_
      refine AL_nil ?_
      refine thenA_n ?_
      refine awp_seq ?_
      refine awp_region ?_
      obtain ⟨x_153, hx_154, h⟩ := Option.bind_eq_some_iff.1 h
      obtain ⟨hx_154a, hx_154, hx_154b⟩ := idx_some hx_154
      have hx_154A := eq_true hx_154a
      have hx_154B := eq_true hx_154b
      refine AL_upto (by exact rfl) (by simp only [go_sem, seval, hb_152T, hx_154, hx_154A, hx_154B]; exact rfl) ?_
      obtain ⟨r_155, hr_156, h⟩ := Option.bind_eq_some_iff.1 h
      refine AL_con' rfl (guard_none rfl) rfl (by simp only [go_sem, seval, hb_152T]; exact rfl) (by simp only [go_sem, seval, hb_152T]; all_goals ((repeat' refine And.intro ?_ ?_) <;> first | rfl | (simp; done) | (simp; rfl) | (simp [*]; done) | (simp [*]; rfl))) (f_133_h x_153 _ hr_156) (.inr rfl) rfl ?_
      refine AL_nil ?_
      refine thenA_n ?_
      by_cases hb_157 : r_155 = true
      · rw [if_pos hb_157] at h
        refine awp_ct (by simp only [go_sem, seval, hb_152T, hb_157]) ?_
        refine awp_seq ?_
        refine awp_region ?_
        refine AL_upto (by exact rfl) (by simp only [go_sem, seval, hb_152T, hb_157]; exact rfl) ?_
        refine AL_nil ?_
        refine thenA_n ?_
        refine awp_ret ?_
        refine blockA_ret ?_
        refine thenA_ret ?_
        cases h
        refine ⟨rfl, ?_⟩
        refine retQ_ret (by simp only [Tryz.results94]; simp only [go_sem, seval, hb_152T, hb_157]; exact rfl) ?_
        simp only [go_sem, seval, hb_152T, hb_157]
        all_goals ((repeat' refine And.intro ?_ ?_) <;> first | rfl | (simp; done) | (simp; rfl) | (simp [*]; done) | (simp [*]; rfl))
      · rw [if_neg hb_157] at h
        have hb_157F := Bool.eq_false_iff.2 hb_157
        refine awp_cf (by simp only [go_sem, seval, hb_152T, hb_157F]) ?_
        refine awp_skip ?_
        refine blockA_n ?_
        refine thenA_n ?_
        refine awp_region ?_
        refine AL_upto (by exact rfl) (by simp only [go_sem, seval, hb_152T, hb_157F]; exact rfl) ?_
        refine AL_nil ?_
        cases h
        refine ⟨rfl, ?_⟩
        simp only [go_sem, seval, hb_152T, hb_157F]
        all_goals ((repeat' refine And.intro ?_ ?_) <;> first | rfl | (simp; done) | (simp; rfl) | (simp [*]; done) | (simp [*]; rfl))
    · rw [if_neg hb_152] at h
      have hb_152T := eq_false hb_152
      refine awp_cf (by simp only [go_sem, seval, hb_152T]) ?_
      refine awp_exit ?_
      refine thenA_exit ?_
      cases h
      refine ⟨rfl, ?_⟩
      simp only [go_sem, seval, hb_152T]
      all_goals ((repeat' refine And.intro ?_ ?_) <;> first | rfl | (simp; done) | (simp; rfl) | (simp [*]; done) | (simp [*]; rfl))
  · intro e s' hT
    rcases o_158 with ⟨⟩ | r_160
    · try simp only at h
      try simp only at hT
      obtain ⟨rfl, hle⟩ := hT
      refine Wk.to hle ?_
      clear hle
      refine blockA_here ?_
      refine thenA_n ?_
      refine awp_seq ?_
      refine awp_region ?_
      refine AL_upto (by exact rfl) (by simp only [go_sem, seval]; exact rfl) ?_
      refine AL_nil ?_
      refine thenA_n ?_
      refine awp_ret ?_
      cases h
      refine retQ_ret (by simp only [Tryz.results94]; simp only [go_sem, seval]; exact rfl) ?_
      simp only [go_sem, seval]
      all_goals ((repeat' refine And.intro ?_ ?_) <;> first | rfl | (simp; done) | (simp; rfl) | (simp [*]; done) | (simp [*]; rfl))
    · try simp only at h
      try simp only at hT
      obtain ⟨rfl, hq⟩ := hT
      refine Wk.now ?_
      refine blockA_ret ?_
      refine thenA_ret ?_
      cases h
      exact hq
end Go.Proofs.YtdmddoljldjjeaaGreat
set_option linter.unusedVariables false
set_option linter.unusedSimpArgs false
namespace Go.Proofs.YtdmddoljldjjeaaGreat
open Go Go.Ab
set_option maxHeartbeats 4000000 in
theorem survivor_count_con (l_164 : List Value) (v_165 : Value) (r_193 : Int) (h : survivor_count l_164 v_165 = some r_193) : Con Tryz.prog 138 [(.slc (List.map encValue l_164)), (encValue v_165)] (.int .i64 r_193) := by
  refine ⟨Tryz.call138, ?_⟩
  refine pure_of_awp Tryz.func138 rfl Tryz.ntmps138 (by simp) fun X w => ?_
  show AWp _ _ _ ⟨[(0, .p (.slc (List.map encValue l_164))), (1, .p (encValue v_165))], []⟩
  simp only [survivor_count] at h
  refine awp_seq ?_
  refine awp_region ?_
  refine AL_upto (by exact rfl) (by simp only [go_sem, seval]; exact rfl) ?_
  refine AL_nil ?_
  refine thenA_n ?_
  refine awp_seq ?_
  refine awp_region ?_
  refine AL_upto (by exact rfl) (by simp only [go_sem, seval]; exact rfl) ?_
  refine AL_nil ?_
  refine thenA_n ?_
  refine awp_seq ?_
  refine awp_seq ?_
  refine awp_region ?_
  refine AL_upto (by exact rfl) (by simp only [go_sem, seval]; exact rfl) ?_
  refine AL_nil ?_
  refine thenA_n ?_
  refine awp_block ?_
  obtain ⟨o_190, hL_191, h⟩ := Option.bind_eq_some_iff.1 h
  refine awp_loop_L (fun (s : Int × Int) => ⟨[(3, .loc 3 1 0 0), (5, .p (.int .i64 s.1)), (8, .p (.slc (List.map encValue l_164))), (9, .p (.int .i64 (l_164.length : Int))), (10, .p (.int .i64 s.2))], [(3, .arr 64 3 1 [.p (encValue v_165)])]⟩) (fun (o_192 : Int) (e : Exit) (s' : St) => e = (.exit 0) ∧ Le ⟨Tryz.prog, Tryz.f138.ntmps, 0, X, [], fun _ => none, w⟩ s' ⟨[(5, .p (.int .i64 o_192))], []⟩) (by intro o s hT; have hh := hT.1; cases hh) hL_191 (by simp only [go_sem, seval]; all_goals ((repeat' refine And.intro ?_ ?_) <;> first | rfl | (simp; done) | (simp; rfl) | (simp [*]; done) | (simp [*]; rfl))) ?_ ?_
  · clear h
    intro s x h
    obtain ⟨n_173, t10_174⟩ := s
    simp only [survivor_count_l1] at h
    show AWp _ _ _ ⟨[(3, .loc 3 1 0 0), (5, .p (.int .i64 n_173)), (8, .p (.slc (List.map encValue l_164))), (9, .p (.int .i64 (l_164.length : Int))), (10, .p (.int .i64 t10_174))], [(3, .arr 64 3 1 [.p (encValue v_165)])]⟩
    refine awp_seq ?_
    refine awp_region ?_
    refine AL_upto (by exact rfl) (by simp only [go_sem, seval]; exact rfl) ?_
    refine AL_nil ?_
    refine thenA_n ?_
    refine awp_seq ?_
    by_cases hb_184 : t10_174 < (l_164.length : Int)
    · rw [if_pos hb_184] at h
      have hb_184T := eq_true hb_184
      refine awp_ct (by simp only [go_sem, seval, hb_184T]) ?_
      refine awp_skip ?_
      refine thenA_n ?_
      refine awp_seq ?_
      refine awp_block ?_
      refine awp_seq ?_
      refine awp_region ?_
      obtain ⟨x_187, hx_188, h⟩ := Option.bind_eq_some_iff.1 h
      obtain ⟨hx_188a, hx_188, hx_188b⟩ := idx_some hx_188
      have hx_188A := eq_true hx_188a
      have hx_188B := eq_true hx_188b
      refine AL_upto (by exact rfl) (by simp only [go_sem, seval, hb_184T, hx_188, hx_188A, hx_188B]; exact rfl) ?_
      refine AL_nil ?_
      refine thenA_n ?_
      refine awp_seq ?_
      refine awp_region ?_
      refine AL_upto (by exact rfl) (by simp only [go_sem, seval, hb_184T]; exact rfl) ?_
      refine AL_nil ?_
      refine thenA_n ?_
      by_cases hb_189 : ((x_187.Kind == v_165.Kind) && ((x_187.Num == v_165.Num) && (x_187.Str == v_165.Str))) = true
      · rw [if_pos hb_189] at h
        refine awp_ct (by simp only [go_sem, seval, hb_184T, hb_189]) ?_
        refine awp_region ?_
        refine AL_upto (by exact rfl) (by simp only [go_sem, seval, hb_184T, hb_189]; exact rfl) ?_
        refine AL_nil ?_
        refine blockA_n ?_
        refine thenA_n ?_
        refine awp_region ?_
        refine AL_upto (by exact rfl) (by simp only [go_sem, seval, hb_184T, hb_189]; exact rfl) ?_
        refine AL_nil ?_
        cases h
        refine ⟨rfl, ?_⟩
        simp only [go_sem, seval, hb_184T, hb_189]
        all_goals ((repeat' refine And.intro ?_ ?_) <;> first | rfl | (simp; done) | (simp; rfl) | (simp [*]; done) | (simp [*]; rfl))
      · rw [if_neg hb_189] at h
        have hb_189F := Bool.eq_false_iff.2 hb_189
        refine awp_cf (by simp only [go_sem, seval, hb_184T, hb_189F]) ?_
        refine awp_skip ?_
        refine blockA_n ?_
        refine thenA_n ?_
        refine awp_region ?_
        refine AL_upto (by exact rfl) (by simp only [go_sem, seval, hb_184T, hb_189F]; exact rfl) ?_
        refine AL_nil ?_
        cases h
        refine ⟨rfl, ?_⟩
        simp only [go_sem, seval, hb_184T, hb_189F]
        all_goals ((repeat' refine And.intro ?_ ?_) <;> first | rfl | (simp; done) | (simp; rfl) | (simp [*]; done) | (simp [*]; rfl))
    · rw [if_neg hb_184] at h
      have hb_184T := eq_false hb_184
      refine awp_cf (by simp only [go_sem, seval, hb_184T]) ?_
      refine awp_exit ?_
      refine thenA_exit ?_
      cases h
      refine ⟨rfl, ?_⟩
      simp only [go_sem, seval, hb_184T]
      all_goals ((repeat' refine And.intro ?_ ?_) <;> first | rfl | (simp; done) | (simp; rfl) | (simp [*]; done) | (simp [*]; rfl))
  · intro e s' hT
    obtain ⟨n_182, rfl⟩ : ∃ z, z = o_190 := ⟨_, rfl⟩
    try simp only at h
    try simp only at hT
    obtain ⟨rfl, hle⟩ := hT
    refine Wk.to hle ?_
    clear hle
    refine blockA_here ?_
    refine thenA_n ?_
    refine awp_seq ?_
    refine awp_region ?_
    refine AL_upto (by exact rfl) (by simp only [go_sem, seval]; exact rfl) ?_
    refine AL_nil ?_
    refine thenA_n ?_
    refine awp_ret ?_
    cases h
    refine retQ_ret (by simp only [Tryz.results138]; simp only [go_sem, seval]; exact rfl) ?_
    simp only [go_sem, seval]
    all_goals ((repeat' refine And.intro ?_ ?_) <;> first | rfl | (simp; done) | (simp; rfl) | (simp [*]; done) | (simp [*]; rfl))
end Go.Proofs.YtdmddoljldjjeaaGreat
set_option linter.unusedVariables false
set_option linter.unusedSimpArgs false
namespace Go.Proofs.YtdmddoljldjjeaaGreat
open Go Go.Ab
set_option maxHeartbeats 4000000 in
theorem cmp_isNaN_int64_con (x_194 : Int) (r_195 : Bool) (h : cmp_isNaN_int64 x_194 = some r_195) : Con Tryz.prog 76 [(.int .i64 x_194)] (.bool r_195) := by
  refine ⟨Tryz.call76, ?_⟩
  refine pure_of_awp Tryz.func76 rfl Tryz.ntmps76 (by simp) fun X w => ?_
  show AWp _ _ _ ⟨[(0, .p (.int .i64 x_194))], []⟩
  simp only [cmp_isNaN_int64] at h
  refine awp_seq ?_
  refine awp_region ?_
  refine AL_upto (by exact rfl) (by simp only [go_sem, seval]; exact rfl) ?_
  refine AL_nil ?_
  refine thenA_n ?_
  refine awp_seq ?_
  refine awp_region ?_
  refine AL_upto (by exact rfl) (by simp only [go_sem, seval]; exact rfl) ?_
  refine AL_nil ?_
  refine thenA_n ?_
  refine awp_ret ?_
  cases h
  refine retQ_ret (by simp only [Tryz.results76]; simp only [go_sem, seval]; exact rfl) ?_
  simp only [go_sem, seval]
  all_goals ((repeat' refine And.intro ?_ ?_) <;> first | rfl | (simp; done) | (simp; rfl) | (simp [*]; done) | (simp [*]; rfl))
end Go.Proofs.YtdmddoljldjjeaaGreat
set_option linter.unusedVariables false
set_option linter.unusedSimpArgs false
namespace Go.Proofs.YtdmddoljldjjeaaGreat
open Go Go.Ab
set_option maxHeartbeats 4000000 in
theorem cmp_Compare_int64_con (x_196 : Int) (y_197 : Int) (r_211 : Int) (h : cmp_Compare_int64 x_196 y_197 = some r_211) : Con Tryz.prog 37 [(.int .i64 x_196), (.int .i64 y_197)] (.int .i64 r_211) := by
  refine ⟨Tryz.call37, ?_⟩
  refine pure_of_awp Tryz.func37 rfl Tryz.ntmps37 (by simp) fun X w => ?_
  show AWp _ _ _ ⟨[(0, .p (.int .i64 x_196)), (1, .p (.int .i64 y_197))], []⟩
  simp only [cmp_Compare_int64] at h
  refine awp_seq ?_
  refine awp_region ?_
  refine AL_upto (by exact rfl) (by simp only [go_sem, seval]; exact rfl) ?_
  refine AL_nil ?_
  refine thenA_n ?_
  refine awp_seq ?_
  refine awp_region ?_
  refine AL_upto (by exact rfl) (by simp only [go_sem, seval]; exact rfl) ?_
  obtain ⟨r_200, hr_201, h⟩ := Option.bind_eq_some_iff.1 h
  refine AL_con' rfl (guard_none rfl) rfl (by simp only [go_sem, seval]; exact rfl) (by simp only [go_sem, seval]; all_goals ((repeat' refine And.intro ?_ ?_) <;> first | rfl | (simp; done) | (simp; rfl) | (simp [*]; done) | (simp [*]; rfl))) (cmp_isNaN_int64_con x_196 _ hr_201) (.inr rfl) rfl ?_
  refine AL_upto (by exact rfl) (by simp only [go_sem, seval]; exact rfl) ?_
  refine AL_nil ?_
  refine thenA_n ?_
  refine awp_seq ?_
  refine awp_region ?_
  refine AL_upto (by exact rfl) (by simp only [go_sem, seval]; exact rfl) ?_
  obtain ⟨r_204, hr_205, h⟩ := Option.bind_eq_some_iff.1 h
  refine AL_con' rfl (guard_none rfl) rfl (by simp only [go_sem, seval]; exact rfl) (by simp only [go_sem, seval]; all_goals ((repeat' refine And.intro ?_ ?_) <;> first | rfl | (simp; done) | (simp; rfl) | (simp [*]; done) | (simp [*]; rfl))) (cmp_isNaN_int64_con y_197 _ hr_205) (.inr rfl) rfl ?_
  refine AL_upto (by exact rfl) (by simp only [go_sem, seval]; exact rfl) ?_
  refine AL_nil ?_
  refine thenA_n ?_
  refine awp_seq ?_
  refine awp_seq ?_
  refine awp_region ?_
  refine AL_upto (by exact rfl) (by simp only [go_sem, seval]; exact rfl) ?_
  refine AL_nil ?_
  refine thenA_n ?_
  by_cases hb_206 : r_200 = true
  · rw [if_pos hb_206] at h
    refine awp_ct (by simp only [go_sem, seval, hb_206]) ?_
    refine awp_seq ?_
    refine awp_seq ?_
    refine awp_region ?_
    refine AL_upto (by exact rfl) (by simp only [go_sem, seval, hb_206]; exact rfl) ?_
    refine AL_nil ?_
    refine thenA_n ?_
    by_cases hb_207 : r_204 = true
    · rw [if_pos hb_207] at h
      refine awp_ct (by simp only [go_sem, seval, hb_206, hb_207]) ?_
      refine awp_seq ?_
      refine awp_region ?_
      refine AL_upto (by exact rfl) (by simp only [go_sem, seval, hb_206, hb_207]; exact rfl) ?_
      refine AL_nil ?_
      refine thenA_n ?_
      refine awp_ret ?_
      refine thenA_ret ?_
      refine thenA_ret ?_
      cases h
      refine retQ_ret (by simp only [Tryz.results37]; simp only [go_sem, seval, hb_206, hb_207]; exact rfl) ?_
      simp only [go_sem, seval, hb_206, hb_207]
      all_goals ((repeat' refine And.intro ?_ ?_) <;> first | rfl | (simp; done) | (simp; rfl) | (simp [*]; done) | (simp [*]; rfl))
    · rw [if_neg hb_207] at h
      have hb_207F := Bool.eq_false_iff.2 hb_207
      refine awp_cf (by simp only [go_sem, seval, hb_206, hb_207F]) ?_
      refine awp_skip ?_
      refine thenA_n ?_
      refine awp_seq ?_
      refine awp_region ?_
      refine AL_upto (by exact rfl) (by simp only [go_sem, seval, hb_206, hb_207F]; exact rfl) ?_
      refine AL_nil ?_
      refine thenA_n ?_
      refine awp_ret ?_
      refine thenA_ret ?_
      cases h
      refine retQ_ret (by simp only [Tryz.results37]; simp only [go_sem, seval, hb_206, hb_207F]; exact rfl) ?_
      simp only [go_sem, seval, hb_206, hb_207F]
      all_goals ((repeat' refine And.intro ?_ ?_) <;> first | rfl | (simp; done) | (simp; rfl) | (simp [*]; done) | (simp [*]; rfl))
  · rw [if_neg hb_206] at h
    have hb_206F := Bool.eq_false_iff.2 hb_206
    refine awp_cf (by simp only [go_sem, seval, hb_206F]) ?_
    refine awp_skip ?_
    refine thenA_n ?_
    refine awp_seq ?_
    refine awp_seq ?_
    refine awp_region ?_
    refine AL_upto (by exact rfl) (by simp only [go_sem, seval, hb_206F]; exact rfl) ?_
    refine AL_nil ?_
    refine thenA_n ?_
    by_cases hb_208 : r_204 = true
    · rw [if_pos hb_208] at h
      refine awp_ct (by simp only [go_sem, seval, hb_206F, hb_208]) ?_
      refine awp_seq ?_
      refine awp_region ?_
      refine AL_upto (by exact rfl) (by simp only [go_sem, seval, hb_206F, hb_208]; exact rfl) ?_
      refine AL_nil ?_
      refine thenA_n ?_
      refine awp_ret ?_
      refine thenA_ret ?_
      cases h
      refine retQ_ret (by simp only [Tryz.results37]; simp only [go_sem, seval, hb_206F, hb_208]; exact rfl) ?_
      simp only [go_sem, seval, hb_206F, hb_208]
      all_goals ((repeat' refine And.intro ?_ ?_) <;> first | rfl | (simp; done) | (simp; rfl) | (simp [*]; done) | (simp [*]; rfl))
    · rw [if_neg hb_208] at h
      have hb_208F := Bool.eq_false_iff.2 hb_208
      refine awp_cf (by simp only [go_sem, seval, hb_206F, hb_208F]) ?_
      refine awp_skip ?_
      refine thenA_n ?_
      refine awp_seq ?_
      refine awp_seq ?_
      refine awp_region ?_
      refine AL_upto (by exact rfl) (by simp only [go_sem, seval, hb_206F, hb_208F]; exact rfl) ?_
      refine AL_nil ?_
      refine thenA_n ?_
      by_cases hb_209 : x_196 < y_197
      · rw [if_pos hb_209] at h
        have hb_209T := eq_true hb_209
        refine awp_ct (by simp only [go_sem, seval, hb_206F, hb_208F, hb_209T]) ?_
        refine awp_seq ?_
        refine awp_region ?_
        refine AL_upto (by exact rfl) (by simp only [go_sem, seval, hb_206F, hb_208F, hb_209T]; exact rfl) ?_
        refine AL_nil ?_
        refine thenA_n ?_
        refine awp_ret ?_
        refine thenA_ret ?_
        cases h
        refine retQ_ret (by simp only [Tryz.results37]; simp only [go_sem, seval, hb_206F, hb_208F, hb_209T]; exact rfl) ?_
        simp only [go_sem, seval, hb_206F, hb_208F, hb_209T]
        all_goals ((repeat' refine And.intro ?_ ?_) <;> first | rfl | (simp; done) | (simp; rfl) | (simp [*]; done) | (simp [*]; rfl))
      · rw [if_neg hb_209] at h
        have hb_209T := eq_false hb_209
        refine awp_cf (by simp only [go_sem, seval, hb_206F, hb_208F, hb_209T]) ?_
        refine awp_skip ?_
        refine thenA_n ?_
        refine awp_seq ?_
        refine awp_seq ?_
        refine awp_region ?_
        refine AL_upto (by exact rfl) (by simp only [go_sem, seval, hb_206F, hb_208F, hb_209T]; exact rfl) ?_
        refine AL_nil ?_
        refine thenA_n ?_
        by_cases hb_210 : x_196 > y_197
        · rw [if_pos hb_210] at h
          have hb_210T := eq_true hb_210
          refine awp_ct (by simp only [go_sem, seval, hb_206F, hb_208F, hb_209T, hb_210T]) ?_
          refine awp_seq ?_
          refine awp_region ?_
          refine AL_upto (by exact rfl) (by simp only [go_sem, seval, hb_206F, hb_208F, hb_209T, hb_210T]; exact rfl) ?_
          refine AL_nil ?_
          refine thenA_n ?_
          refine awp_ret ?_
          refine thenA_ret ?_
          cases h
          refine retQ_ret (by simp only [Tryz.results37]; simp only [go_sem, seval, hb_206F, hb_208F, hb_209T, hb_210T]; exact rfl) ?_
          simp only [go_sem, seval, hb_206F, hb_208F, hb_209T, hb_210T]
          all_goals ((repeat' refine And.intro ?_ ?_) <;> first | rfl | (simp; done) | (simp; rfl) | (simp [*]; done) | (simp [*]; rfl))
        · rw [if_neg hb_210] at h
          have hb_210T := eq_false hb_210
          refine awp_cf (by simp only [go_sem, seval, hb_206F, hb_208F, hb_209T, hb_210T]) ?_
          refine awp_skip ?_
          refine thenA_n ?_
          refine awp_seq ?_
          refine awp_region ?_
          refine AL_upto (by exact rfl) (by simp only [go_sem, seval, hb_206F, hb_208F, hb_209T, hb_210T]; exact rfl) ?_
          refine AL_nil ?_
          refine thenA_n ?_
          refine awp_ret ?_
          cases h
          refine retQ_ret (by simp only [Tryz.results37]; simp only [go_sem, seval, hb_206F, hb_208F, hb_209T, hb_210T]; exact rfl) ?_
          simp only [go_sem, seval, hb_206F, hb_208F, hb_209T, hb_210T]
          all_goals ((repeat' refine And.intro ?_ ?_) <;> first | rfl | (simp; done) | (simp; rfl) | (simp [*]; done) | (simp [*]; rfl))
end Go.Proofs.YtdmddoljldjjeaaGreat
set_option linter.unusedVariables false
set_option linter.unusedSimpArgs false
namespace Go.Proofs.YtdmddoljldjjeaaGreat
open Go Go.Ab
set_option maxHeartbeats 4000000 in
theorem cmp_Or_int_con (vals_212 : List Int) (r_240 : Int) (h : cmp_Or_int vals_212 = some r_240) : Con Tryz.prog 150 [(.slc (List.map (PV.int .i64) vals_212))] (.int .i64 r_240) := by
  refine ⟨Tryz.call150, ?_⟩
  refine pure_of_awp Tryz.func150 rfl Tryz.ntmps150 (by simp) fun X w => ?_
  show AWp _ _ _ ⟨[(0, .p (.slc (List.map (PV.int .i64) vals_212)))], []⟩
  simp only [cmp_Or_int] at h
  refine awp_seq ?_
  refine awp_region ?_
  refine AL_upto (by exact rfl) (by simp only [go_sem, seval]; exact rfl) ?_
  refine AL_nil ?_
  refine thenA_n ?_
  refine awp_seq ?_
  refine awp_region ?_
  refine AL_upto (by exact rfl) (by simp only [go_sem, seval]; exact rfl) ?_
  refine AL_nil ?_
  refine thenA_n ?_
  refine awp_seq ?_
  refine awp_seq ?_
  refine awp_region ?_
  refine AL_upto (by exact rfl) (by simp only [go_sem, seval]; exact rfl) ?_
  refine AL_nil ?_
  refine thenA_n ?_
  refine awp_block ?_
  obtain ⟨o_235, hL_236, h⟩ := Option.bind_eq_some_iff.1 h
  refine awp_loop_L (fun (s : Int) => ⟨[(3, .p (.int .i64 0)), (6, .p (.slc (List.map (PV.int .i64) vals_212))), (7, .p (.int .i64 (vals_212.length : Int))), (8, .p (.int .i64 s))], []⟩) (fun (o : (Unit) ⊕ (Int)) (e : Exit) (s' : St) => match o with | .inl o_238 => e = (.exit 0) ∧ Le ⟨Tryz.prog, Tryz.f150.ntmps, 0, X, [], fun _ => none, w⟩ s' ⟨[(3, .p (.int .i64 0))], []⟩ | .inr o_239 => e = .ret ∧ retQ Tryz.prog Tryz.f150 (.int .i64 o_239) .ret s') (by intro o s hT; rcases o with _ | _ <;> (have hh := hT.1; cases hh)) hL_236 (by simp only [go_sem, seval]; all_goals ((repeat' refine And.intro ?_ ?_) <;> first | rfl | (simp; done) | (simp; rfl) | (simp [*]; done) | (simp [*]; rfl))) ?_ ?_
  · clear h
    intro t8_220 x h
    simp only [cmp_Or_int_l1] at h
    show AWp _ _ _ ⟨[(3, .p (.int .i64 0)), (6, .p (.slc (List.map (PV.int .i64) vals_212))), (7, .p (.int .i64 (vals_212.length : Int))), (8, .p (.int .i64 t8_220))], []⟩
    refine awp_seq ?_
    refine awp_region ?_
    refine AL_upto (by exact rfl) (by simp only [go_sem, seval]; exact rfl) ?_
    refine AL_nil ?_
    refine thenA_n ?_
    refine awp_seq ?_
    by_cases hb_229 : t8_220 < (vals_212.length : Int)
    · rw [if_pos hb_229] at h
      have hb_229T := eq_true hb_229
      refine awp_ct (by simp only [go_sem, seval, hb_229T]) ?_
      refine awp_skip ?_
      refine thenA_n ?_
      refine awp_seq ?_
      refine awp_block ?_
      refine awp_seq ?_
      refine awp_region ?_
      obtain ⟨x_232, hx_233, h⟩ := Option.bind_eq_some_iff.1 h
      obtain ⟨hx_233a, hx_233, hx_233b⟩ := idx_some hx_233
      have hx_233A := eq_true hx_233a
      have hx_233B := eq_true hx_233b
      refine AL_upto (by exact rfl) (by simp only [go_sem, seval, hb_229T, hx_233, hx_233A, hx_233B]; exact rfl) ?_
      refine AL_nil ?_
      refine thenA_n ?_
      refine awp_seq ?_
      refine awp_region ?_
      refine AL_upto (by exact rfl) (by simp only [go_sem, seval, hb_229T]; exact rfl) ?_
      refine AL_nil ?_
      refine thenA_n ?_
      by_cases hb_234 : (x_232 != 0) = true
      · rw [if_pos hb_234] at h
        refine awp_ct (by simp only [go_sem, seval, hb_229T, hb_234]) ?_
        refine awp_seq ?_
        refine awp_region ?_
        refine AL_upto (by exact rfl) (by simp only [go_sem, seval, hb_229T, hb_234]; exact rfl) ?_
        refine AL_nil ?_
        refine thenA_n ?_
        refine awp_ret ?_
        refine blockA_ret ?_
        refine thenA_ret ?_
        cases h
        refine ⟨rfl, ?_⟩
        refine retQ_ret (by simp only [Tryz.results150]; simp only [go_sem, seval, hb_229T, hb_234]; exact rfl) ?_
        simp only [go_sem, seval, hb_229T, hb_234]
        all_goals ((repeat' refine And.intro ?_ ?_) <;> first | rfl | (simp; done) | (simp; rfl) | (simp [*]; done) | (simp [*]; rfl))
      · rw [if_neg hb_234] at h
        have hb_234F := Bool.eq_false_iff.2 hb_234
        refine awp_cf (by simp only [go_sem, seval, hb_229T, hb_234F]) ?_
        refine awp_skip ?_
        refine blockA_n ?_
        refine thenA_n ?_
        refine awp_region ?_
        refine AL_upto (by exact rfl) (by simp only [go_sem, seval, hb_229T, hb_234F]; exact rfl) ?_
        refine AL_nil ?_
        cases h
        refine ⟨rfl, ?_⟩
        simp only [go_sem, seval, hb_229T, hb_234F]
        all_goals ((repeat' refine And.intro ?_ ?_) <;> first | rfl | (simp; done) | (simp; rfl) | (simp [*]; done) | (simp [*]; rfl))
    · rw [if_neg hb_229] at h
      have hb_229T := eq_false hb_229
      refine awp_cf (by simp only [go_sem, seval, hb_229T]) ?_
      refine awp_exit ?_
      refine thenA_exit ?_
      cases h
      refine ⟨rfl, ?_⟩
      simp only [go_sem, seval, hb_229T]
      all_goals ((repeat' refine And.intro ?_ ?_) <;> first | rfl | (simp; done) | (simp; rfl) | (simp [*]; done) | (simp [*]; rfl))
  · intro e s' hT
    rcases o_235 with ⟨⟩ | r_237
    · try simp only at h
      try simp only at hT
      obtain ⟨rfl, hle⟩ := hT
      refine Wk.to hle ?_
      clear hle
      refine blockA_here ?_
      refine thenA_n ?_
      refine awp_seq ?_
      refine awp_region ?_
      refine AL_upto (by exact rfl) (by simp only [go_sem, seval]; exact rfl) ?_
      refine AL_nil ?_
      refine thenA_n ?_
      refine awp_ret ?_
      cases h
      refine retQ_ret (by simp only [Tryz.results150]; simp only [go_sem, seval]; exact rfl) ?_
      simp only [go_sem, seval]
      all_goals ((repeat' refine And.intro ?_ ?_) <;> first | rfl | (simp; done) | (simp; rfl) | (simp [*]; done) | (simp [*]; rfl))
    · try simp only at h
      try simp only at hT
      obtain ⟨rfl, hq⟩ := hT
      refine Wk.now ?_
      refine blockA_ret ?_
      refine thenA_ret ?_
      cases h
      exact hq
end Go.Proofs.YtdmddoljldjjeaaGreat
set_option linter.unusedVariables false
set_option linter.unusedSimpArgs false
namespace Go.Proofs.YtdmddoljldjjeaaGreat
open Go Go.Ab
set_option maxHeartbeats 4000000 in
theorem cmp_isNaN_int_con (x_241 : Int) (r_242 : Bool) (h : cmp_isNaN_int x_241 = some r_242) : Con Tryz.prog 155 [(.int .i64 x_241)] (.bool r_242) := by
  refine ⟨Tryz.call155, ?_⟩
  refine pure_of_awp Tryz.func155 rfl Tryz.ntmps155 (by simp) fun X w => ?_
  show AWp _ _ _ ⟨[(0, .p (.int .i64 x_241))], []⟩
  simp only [cmp_isNaN_int] at h
  refine awp_seq ?_
  refine awp_region ?_
  refine AL_upto (by exact rfl) (by simp only [go_sem, seval]; exact rfl) ?_
  refine AL_nil ?_
  refine thenA_n ?_
  refine awp_seq ?_
  refine awp_region ?_
  refine AL_upto (by exact rfl) (by simp only [go_sem, seval]; exact rfl) ?_
  refine AL_nil ?_
  refine thenA_n ?_
  refine awp_ret ?_
  cases h
  refine retQ_ret (by simp only [Tryz.results155]; simp only [go_sem, seval]; exact rfl) ?_
  simp only [go_sem, seval]
  all_goals ((repeat' refine And.intro ?_ ?_) <;> first | rfl | (simp; done) | (simp; rfl) | (simp [*]; done) | (simp [*]; rfl))
end Go.Proofs.YtdmddoljldjjeaaGreat
set_option linter.unusedVariables false
set_option linter.unusedSimpArgs false
namespace Go.Proofs.YtdmddoljldjjeaaGreat
open Go Go.Ab
set_option maxHeartbeats 4000000 in
theorem cmp_Compare_int_con (x_243 : Int) (y_244 : Int) (r_258 : Int) (h : cmp_Compare_int x_243 y_244 = some r_258) : Con Tryz.prog 151 [(.int .i64 x_243), (.int .i64 y_244)] (.int .i64 r_258) := by
  refine ⟨Tryz.call151, ?_⟩
  refine pure_of_awp Tryz.func151 rfl Tryz.ntmps151 (by simp) fun X w => ?_
  show AWp _ _ _ ⟨[(0, .p (.int .i64 x_243)), (1, .p (.int .i64 y_244))], []⟩
  simp only [cmp_Compare_int] at h
  refine awp_seq ?_
  refine awp_region ?_
  refine AL_upto (by exact rfl) (by simp only [go_sem, seval]; exact rfl) ?_
  refine AL_nil ?_
  refine thenA_n ?_
  refine awp_seq ?_
  refine awp_region ?_
  refine AL_upto (by exact rfl) (by simp only [go_sem, seval]; exact rfl) ?_
  obtain ⟨r_247, hr_248, h⟩ := Option.bind_eq_some_iff.1 h
  refine AL_con' rfl (guard_none rfl) rfl (by simp only [go_sem, seval]; exact rfl) (by simp only [go_sem, seval]; all_goals ((repeat' refine And.intro ?_ ?_) <;> first | rfl | (simp; done) | (simp; rfl) | (simp [*]; done) | (simp [*]; rfl))) (cmp_isNaN_int_con x_243 _ hr_248) (.inr rfl) rfl ?_
  refine AL_upto (by exact rfl) (by simp only [go_sem, seval]; exact rfl) ?_
  refine AL_nil ?_
  refine thenA_n ?_
  refine awp_seq ?_
  refine awp_region ?_
  refine AL_upto (by exact rfl) (by simp only [go_sem, seval]; exact rfl) ?_
  obtain ⟨r_251, hr_252, h⟩ := Option.bind_eq_some_iff.1 h
  refine AL_con' rfl (guard_none rfl) rfl (by simp only [go_sem, seval]; exact rfl) (by simp only [go_sem, seval]; all_goals ((repeat' refine And.intro ?_ ?_) <;> first | rfl | (simp; done) | (simp; rfl) | (simp [*]; done) | (simp [*]; rfl))) (cmp_isNaN_int_con y_244 _ hr_252) (.inr rfl) rfl ?_
  refine AL_upto (by exact rfl) (by simp only [go_sem, seval]; exact rfl) ?_
  refine AL_nil ?_
  refine thenA_n ?_
  refine awp_seq ?_
  refine awp_seq ?_
  refine awp_region ?_
  refine AL_upto (by exact rfl) (by simp only [go_sem, seval]; exact rfl) ?_
  refine AL_nil ?_
  refine thenA_n ?_
  by_cases hb_253 : r_247 = true
  · rw [if_pos hb_253] at h
    refine awp_ct (by simp only [go_sem, seval, hb_253]) ?_
    refine awp_seq ?_
    refine awp_seq ?_
    refine awp_region ?_
    refine AL_upto (by exact rfl) (by simp only [go_sem, seval, hb_253]; exact rfl) ?_
    refine AL_nil ?_
    refine thenA_n ?_
    by_cases hb_254 : r_251 = true
    · rw [if_pos hb_254] at h
      refine awp_ct (by simp only [go_sem, seval, hb_253, hb_254]) ?_
      refine awp_seq ?_
      refine awp_region ?_
      refine AL_upto (by exact rfl) (by simp only [go_sem, seval, hb_253, hb_254]; exact rfl) ?_
      refine AL_nil ?_
      refine thenA_n ?_
      refine awp_ret ?_
      refine thenA_ret ?_
      refine thenA_ret ?_
      cases h
      refine retQ_ret (by simp only [Tryz.results151]; simp only [go_sem, seval, hb_253, hb_254]; exact rfl) ?_
      simp only [go_sem, seval, hb_253, hb_254]
      all_goals ((repeat' refine And.intro ?_ ?_) <;> first | rfl | (simp; done) | (simp; rfl) | (simp [*]; done) | (simp [*]; rfl))
    · rw [if_neg hb_254] at h
      have hb_254F := Bool.eq_false_iff.2 hb_254
      refine awp_cf (by simp only [go_sem, seval, hb_253, hb_254F]) ?_
      refine awp_skip ?_
      refine thenA_n ?_
      refine awp_seq ?_
      refine awp_region ?_
      refine AL_upto (by exact rfl) (by simp only [go_sem, seval, hb_253, hb_254F]; exact rfl) ?_
      refine AL_nil ?_
      refine thenA_n ?_
      refine awp_ret ?_
      refine thenA_ret ?_
      cases h
      refine retQ_ret (by simp only [Tryz.results151]; simp only [go_sem, seval, hb_253, hb_254F]; exact rfl) ?_
      simp only [go_sem, seval, hb_253, hb_254F]
      all_goals ((repeat' refine And.intro ?_ ?_) <;> first | rfl | (simp; done) | (simp; rfl) | (simp [*]; done) | (simp [*]; rfl))
  · rw [if_neg hb_253] at h
    have hb_253F := Bool.eq_false_iff.2 hb_253
    refine awp_cf (by simp only [go_sem, seval, hb_253F]) ?_
    refine awp_skip ?_
    refine thenA_n ?_
    refine awp_seq ?_
    refine awp_seq ?_
    refine awp_region ?_
    refine AL_upto (by exact rfl) (by simp only [go_sem, seval, hb_253F]; exact rfl) ?_
    refine AL_nil ?_
    refine thenA_n ?_
    by_cases hb_255 : r_251 = true
    · rw [if_pos hb_255] at h
      refine awp_ct (by simp only [go_sem, seval, hb_253F, hb_255]) ?_
      refine awp_seq ?_
      refine awp_region ?_
      refine AL_upto (by exact rfl) (by simp only [go_sem, seval, hb_253F, hb_255]; exact rfl) ?_
      refine AL_nil ?_
      refine thenA_n ?_
      refine awp_ret ?_
      refine thenA_ret ?_
      cases h
      refine retQ_ret (by simp only [Tryz.results151]; simp only [go_sem, seval, hb_253F, hb_255]; exact rfl) ?_
      simp only [go_sem, seval, hb_253F, hb_255]
      all_goals ((repeat' refine And.intro ?_ ?_) <;> first | rfl | (simp; done) | (simp; rfl) | (simp [*]; done) | (simp [*]; rfl))
    · rw [if_neg hb_255] at h
      have hb_255F := Bool.eq_false_iff.2 hb_255
      refine awp_cf (by simp only [go_sem, seval, hb_253F, hb_255F]) ?_
      refine awp_skip ?_
      refine thenA_n ?_
      refine awp_seq ?_
      refine awp_seq ?_
      refine awp_region ?_
      refine AL_upto (by exact rfl) (by simp only [go_sem, seval, hb_253F, hb_255F]; exact rfl) ?_
      refine AL_nil ?_
      refine thenA_n ?_
      by_cases hb_256 : x_243 < y_244
      · rw [if_pos hb_256] at h
        have hb_256T := eq_true hb_256
        refine awp_ct (by simp only [go_sem, seval, hb_253F, hb_255F, hb_256T]) ?_
        refine awp_seq ?_
        refine awp_region ?_
        refine AL_upto (by exact rfl) (by simp only [go_sem, seval, hb_253F, hb_255F, hb_256T]; exact rfl) ?_
        refine AL_nil ?_
        refine thenA_n ?_
        refine awp_ret ?_
        refine thenA_ret ?_
        cases h
        refine retQ_ret (by simp only [Tryz.results151]; simp only [go_sem, seval, hb_253F, hb_255F, hb_256T]; exact rfl) ?_
        simp only [go_sem, seval, hb_253F, hb_255F, hb_256T]
        all_goals ((repeat' refine And.intro ?_ ?_) <;> first | rfl | (simp; done) | (simp; rfl) | (simp [*]; done) | (simp [*]; rfl))
      · rw [if_neg hb_256] at h
        have hb_256T := eq_false hb_256
        refine awp_cf (by simp only [go_sem, seval, hb_253F, hb_255F, hb_256T]) ?_
        refine awp_skip ?_
        refine thenA_n ?_
        refine awp_seq ?_
        refine awp_seq ?_
        refine awp_region ?_
        refine AL_upto (by exact rfl) (by simp only [go_sem, seval, hb_253F, hb_255F, hb_256T]; exact rfl) ?_
        refine AL_nil ?_
        refine thenA_n ?_
        by_cases hb_257 : x_243 > y_244
        · rw [if_pos hb_257] at h
          have hb_257T := eq_true hb_257
          refine awp_ct (by simp only [go_sem, seval, hb_253F, hb_255F, hb_256T, hb_257T]) ?_
          refine awp_seq ?_
          refine awp_region ?_
          refine AL_upto (by exact rfl) (by simp only [go_sem, seval, hb_253F, hb_255F, hb_256T, hb_257T]; exact rfl) ?_
          refine AL_nil ?_
          refine thenA_n ?_
          refine awp_ret ?_
          refine thenA_ret ?_
          cases h
          refine retQ_ret (by simp only [Tryz.results151]; simp only [go_sem, seval, hb_253F, hb_255F, hb_256T, hb_257T]; exact rfl) ?_
          simp only [go_sem, seval, hb_253F, hb_255F, hb_256T, hb_257T]
          all_goals ((repeat' refine And.intro ?_ ?_) <;> first | rfl | (simp; done) | (simp; rfl) | (simp [*]; done) | (simp [*]; rfl))
        · rw [if_neg hb_257] at h
          have hb_257T := eq_false hb_257
          refine awp_cf (by simp only [go_sem, seval, hb_253F, hb_255F, hb_256T, hb_257T]) ?_
          refine awp_skip ?_
          refine thenA_n ?_
          refine awp_seq ?_
          refine awp_region ?_
          refine AL_upto (by exact rfl) (by simp only [go_sem, seval, hb_253F, hb_255F, hb_256T, hb_257T]; exact rfl) ?_
          refine AL_nil ?_
          refine thenA_n ?_
          refine awp_ret ?_
          cases h
          refine retQ_ret (by simp only [Tryz.results151]; simp only [go_sem, seval, hb_253F, hb_255F, hb_256T, hb_257T]; exact rfl) ?_
          simp only [go_sem, seval, hb_253F, hb_255F, hb_256T, hb_257T]
          all_goals ((repeat' refine And.intro ?_ ?_) <;> first | rfl | (simp; done) | (simp; rfl) | (simp [*]; done) | (simp [*]; rfl))
end Go.Proofs.YtdmddoljldjjeaaGreat
namespace Go.Proofs.YtdmddoljldjjeaaGreat
open Go Go.Ab
theorem ext157 (a b : List UInt8) (w : World) : (callFunc 157 #[.string ⟨a.toArray⟩, .string ⟨b.toArray⟩]).run Tryz.prog w = .ok (.value (.int .i64 (Lib.compareBytes a b))) w := by
  rw [run_callFunc_extern Tryz.func157 (by kernel_rfl) (by kernel_rfl) (by kernel_rfl) (e := Extern.BytealgCompare.compare) (by kernel_rfl), Lib.run_compareString]
  rfl
end Go.Proofs.YtdmddoljldjjeaaGreat
set_option linter.unusedVariables false
set_option linter.unusedSimpArgs false
namespace Go.Proofs.YtdmddoljldjjeaaGreat
open Go Go.Ab
set_option maxHeartbeats 4000000 in
theorem bytealg_CompareString_con (a_259 : List UInt8) (b_260 : List UInt8) (r_263 : Int) (h : bytealg_CompareString a_259 b_260 = some r_263) : Con Tryz.prog 156 [(.str a_259), (.str b_260)] (.int .i64 r_263) := by
  refine ⟨Tryz.call156, ?_⟩
  refine pure_of_awp Tryz.func156 rfl Tryz.ntmps156 (by simp) fun X w => ?_
  show AWp _ _ _ ⟨[(0, .p (.str a_259)), (1, .p (.str b_260))], []⟩
  simp only [bytealg_CompareString] at h
  refine awp_seq ?_
  refine awp_region ?_
  refine AL_upto (by exact rfl) (by simp only [go_sem, seval]; exact rfl) ?_
  refine AL_nil ?_
  refine thenA_n ?_
  refine awp_seq ?_
  refine awp_region ?_
  refine AL_upto (by exact rfl) (by simp only [go_sem, seval]; exact rfl) ?_
  refine AL_ext2 (ext157 a_259 b_260) (by simp only [go_sem, seval]; all_goals ((repeat' refine And.intro ?_ ?_) <;> first | rfl | (simp; done) | (simp; rfl) | (simp [*]; done) | (simp [*]; rfl))) (by simp only [go_sem, seval]; all_goals ((repeat' refine And.intro ?_ ?_) <;> first | rfl | (simp; done) | (simp; rfl) | (simp [*]; done) | (simp [*]; rfl))) rfl ?_
  refine AL_upto (by exact rfl) (by simp only [go_sem, seval]; exact rfl) ?_
  refine AL_nil ?_
  refine thenA_n ?_
  refine awp_ret ?_
  cases h
  refine retQ_ret (by simp only [Tryz.results156]; simp only [go_sem, seval]; exact rfl) ?_
  simp only [go_sem, seval]
  all_goals ((repeat' refine And.intro ?_ ?_) <;> first | rfl | (simp; done) | (simp; rfl) | (simp [*]; done) | (simp [*]; rfl))
end Go.Proofs.YtdmddoljldjjeaaGreat
set_option linter.unusedVariables false
set_option linter.unusedSimpArgs false
namespace Go.Proofs.YtdmddoljldjjeaaGreat
open Go Go.Ab
set_option maxHeartbeats 4000000 in
theorem strings_Compare_con (a_264 : List UInt8) (b_265 : List UInt8) (r_268 : Int) (h : strings_Compare a_264 b_265 = some r_268) : Con Tryz.prog 152 [(.str a_264), (.str b_265)] (.int .i64 r_268) := by
  refine ⟨Tryz.call152, ?_⟩
  refine pure_of_awp Tryz.func152 rfl Tryz.ntmps152 (by simp) fun X w => ?_
  show AWp _ _ _ ⟨[(0, .p (.str a_264)), (1, .p (.str b_265))], []⟩
  simp only [strings_Compare] at h
  refine awp_seq ?_
  refine awp_region ?_
  refine AL_upto (by exact rfl) (by simp only [go_sem, seval]; exact rfl) ?_
  refine AL_nil ?_
  refine thenA_n ?_
  refine awp_seq ?_
  refine awp_region ?_
  refine AL_upto (by exact rfl) (by simp only [go_sem, seval]; exact rfl) ?_
  obtain ⟨r_266, hr_267, h⟩ := Option.bind_eq_some_iff.1 h
  refine AL_con' rfl (guard_none rfl) rfl (by simp only [go_sem, seval]; exact rfl) (by simp only [go_sem, seval]; all_goals ((repeat' refine And.intro ?_ ?_) <;> first | rfl | (simp; done) | (simp; rfl) | (simp [*]; done) | (simp [*]; rfl))) (bytealg_CompareString_con a_264 b_265 _ hr_267) (.inr rfl) rfl ?_
  refine AL_upto (by exact rfl) (by simp only [go_sem, seval]; exact rfl) ?_
  refine AL_nil ?_
  refine thenA_n ?_
  refine awp_ret ?_
  cases h
  refine retQ_ret (by simp only [Tryz.results152]; simp only [go_sem, seval]; exact rfl) ?_
  simp only [go_sem, seval]
  all_goals ((repeat' refine And.intro ?_ ?_) <;> first | rfl | (simp; done) | (simp; rfl) | (simp [*]; done) | (simp [*]; rfl))
end Go.Proofs.YtdmddoljldjjeaaGreat
set_option linter.unusedVariables false
set_option linter.unusedSimpArgs false
namespace Go.Proofs.YtdmddoljldjjeaaGreat
open Go Go.Ab
set_option maxHeartbeats 4000000 in
theorem value_Compare_con (a_269 : Value) (b_270 : Value) (r_279 : Int) (h : value_Compare a_269 b_270 = some r_279) : Con Tryz.prog 139 [(encValue a_269), (encValue b_270)] (.int .i64 r_279) := by
  refine ⟨Tryz.call139, ?_⟩
  refine pure_of_awp Tryz.func139 rfl Tryz.ntmps139 (by simp) fun X w => ?_
  show AWp _ _ _ ⟨[(0, .p (encValue a_269)), (1, .p (encValue b_270))], []⟩
  simp only [value_Compare] at h
  refine awp_seq ?_
  refine awp_region ?_
  refine AL_upto (by exact rfl) (by simp only [go_sem, seval]; exact rfl) ?_
  refine AL_nil ?_
  refine thenA_n ?_
  refine awp_seq ?_
  refine awp_drawn_walk mixed (by decide) ?_
  refine DGo.upto (by exact rfl) (by simp only [go_sem, seval]; first | exact ⟨rfl, rfl⟩ | exact rfl) ?_
  obtain ⟨r_271, hr_272, h⟩ := Option.bind_eq_some_iff.1 h
  refine DGo.con' rfl (guard_none rfl) rfl (by simp only [go_sem, seval]; exact rfl) (by simp only [go_sem, seval]; all_goals ((repeat' refine And.intro ?_ ?_) <;> first | rfl | (simp; done) | (simp; rfl) | (simp [*]; done) | (simp [*]; rfl))) (by simp only [go_sem, seval]; exact rfl) (cmp_Compare_int_con a_269.Kind b_270.Kind _ hr_272) (.inr rfl) rfl ?_
  refine DGo.upto (by exact rfl) (by simp only [go_sem, seval]; first | exact ⟨rfl, rfl⟩ | exact rfl) ?_
  obtain ⟨r_273, hr_274, h⟩ := Option.bind_eq_some_iff.1 h
  refine DGo.con' rfl (guard_none rfl) rfl (by simp only [go_sem, seval]; exact rfl) (by simp only [go_sem, seval]; all_goals ((repeat' refine And.intro ?_ ?_) <;> first | rfl | (simp; done) | (simp; rfl) | (simp [*]; done) | (simp [*]; rfl))) (by simp only [go_sem, seval]; exact rfl) (cmp_Compare_int64_con a_269.Num b_270.Num _ hr_274) (.inr rfl) rfl ?_
  refine DGo.upto (by exact rfl) (by simp only [go_sem, seval]; first | exact ⟨rfl, rfl⟩ | exact rfl) ?_
  obtain ⟨r_275, hr_276, h⟩ := Option.bind_eq_some_iff.1 h
  refine DGo.con' rfl (guard_none rfl) rfl (by simp only [go_sem, seval]; exact rfl) (by simp only [go_sem, seval]; all_goals ((repeat' refine And.intro ?_ ?_) <;> first | rfl | (simp; done) | (simp; rfl) | (simp [*]; done) | (simp [*]; rfl))) (by simp only [go_sem, seval]; exact rfl) (strings_Compare_con a_269.Str b_270.Str _ hr_276) (.inr rfl) rfl ?_
  refine DGo.upto (by exact rfl) (by simp only [go_sem, seval]; first | exact ⟨rfl, rfl⟩ | exact rfl) ?_
  obtain ⟨r_277, hr_278, h⟩ := Option.bind_eq_some_iff.1 h
  refine DGo.con' rfl (guard_none rfl) rfl (by simp only [go_sem, seval]; exact rfl) (by simp only [go_sem, seval]; all_goals ((repeat' refine And.intro ?_ ?_) <;> first | rfl | (simp; done) | (simp; rfl) | (simp [*]; done) | (simp [*]; rfl))) (by simp only [go_sem, seval]; exact rfl) (cmp_Or_int_con [r_271, r_273, r_275] _ hr_278) (.inr rfl) rfl ?_
  refine DGo.upto (by exact rfl) (by simp only [go_sem, seval]; first | exact ⟨rfl, rfl⟩ | exact rfl) ?_
  refine DGo.fin rfl ?_
  refine thenA_n ?_
  refine awp_ret ?_
  cases h
  refine retQ_ret (by simp only [Tryz.results139]; simp only [go_sem, seval]; exact rfl) ?_
  simp only [go_sem, seval]
  all_goals ((repeat' refine And.intro ?_ ?_) <;> first | rfl | (simp; done) | (simp; rfl) | (simp [*]; done) | (simp [*]; rfl))
end Go.Proofs.YtdmddoljldjjeaaGreat
set_option linter.unusedVariables false
set_option linter.unusedSimpArgs false
namespace Go.Proofs.YtdmddoljldjjeaaGreat
open Go Go.Ab
set_option maxHeartbeats 4000000 in
theorem survivor_better_con (l_280 : List Value) (v_281 : Value) (best_282 : Value) (rule_283 : Int) (r_298 : Bool) (h : survivor_better l_280 v_281 best_282 rule_283 = some r_298) : Con Tryz.prog 104 [(.slc (List.map encValue l_280)), (encValue v_281), (encValue best_282), (.int .i64 rule_283)] (.bool r_298) := by
  refine ⟨Tryz.call104, ?_⟩
  refine pure_of_awp Tryz.func104 rfl Tryz.ntmps104 (by simp) fun X w => ?_
  show AWp _ _ _ ⟨[(0, .p (.slc (List.map encValue l_280))), (1, .p (encValue v_281)), (2, .p (encValue best_282)), (3, .p (.int .i64 rule_283))], []⟩
  simp only [survivor_better] at h
  refine awp_seq ?_
  refine awp_region ?_
  refine AL_upto (by exact rfl) (by simp only [go_sem, seval]; exact rfl) ?_
  refine AL_nil ?_
  refine thenA_n ?_
  refine awp_seq ?_
  refine awp_seq ?_
  refine awp_region ?_
  refine AL_upto (by exact rfl) (by simp only [go_sem, seval]; exact rfl) ?_
  refine AL_nil ?_
  refine thenA_n ?_
  refine awp_block ?_
  refine awp_seq ?_
  refine awp_region ?_
  refine AL_upto (by exact rfl) (by simp only [go_sem, seval]; exact rfl) ?_
  refine AL_nil ?_
  refine thenA_n ?_
  by_cases hb_284 : (rule_283 == 2) = true
  · rw [if_pos hb_284] at h
    refine awp_ct (by simp only [go_sem, seval, hb_284]) ?_
    refine awp_seq ?_
    refine awp_drawn_walk mixed (by decide) ?_
    refine DGo.upto (by exact rfl) (by simp only [go_sem, seval, hb_284]; first | exact ⟨rfl, rfl⟩ | exact rfl) ?_
    obtain ⟨r_285, hr_286, h⟩ := Option.bind_eq_some_iff.1 h
    refine DGo.con' rfl (guard_none rfl) rfl (by simp only [go_sem, seval, hb_284]; exact rfl) (by simp only [go_sem, seval, hb_284]; all_goals ((repeat' refine And.intro ?_ ?_) <;> first | rfl | (simp; done) | (simp; rfl) | (simp [*]; done) | (simp [*]; rfl))) (by simp only [go_sem, seval, hb_284]; exact rfl) (survivor_count_con l_280 v_281 _ hr_286) (.inr rfl) rfl ?_
    refine DGo.upto (by exact rfl) (by simp only [go_sem, seval, hb_284]; first | exact ⟨rfl, rfl⟩ | exact rfl) ?_
    obtain ⟨r_287, hr_288, h⟩ := Option.bind_eq_some_iff.1 h
    refine DGo.con' rfl (guard_none rfl) rfl (by simp only [go_sem, seval, hb_284]; exact rfl) (by simp only [go_sem, seval, hb_284]; all_goals ((repeat' refine And.intro ?_ ?_) <;> first | rfl | (simp; done) | (simp; rfl) | (simp [*]; done) | (simp [*]; rfl))) (by simp only [go_sem, seval, hb_284]; exact rfl) (survivor_count_con l_280 best_282 _ hr_288) (.inr rfl) rfl ?_
    refine DGo.upto (by exact rfl) (by simp only [go_sem, seval, hb_284]; first | exact ⟨rfl, rfl⟩ | exact rfl) ?_
    refine DGo.fin rfl ?_
    refine thenA_n ?_
    refine awp_ret ?_
    refine blockA_ret ?_
    refine thenA_ret ?_
    cases h
    refine retQ_ret (by simp only [Tryz.results104]; simp only [go_sem, seval, hb_284]; exact rfl) ?_
    simp only [go_sem, seval, hb_284]
    all_goals ((repeat' refine And.intro ?_ ?_) <;> first | rfl | (simp; done) | (simp; rfl) | (simp [*]; done) | (simp [*]; rfl))
  · rw [if_neg hb_284] at h
    have hb_284F := Bool.eq_false_iff.2 hb_284
    refine awp_cf (by simp only [go_sem, seval, hb_284F]) ?_
    refine awp_seq ?_
    refine awp_region ?_
    refine AL_upto (by exact rfl) (by simp only [go_sem, seval, hb_284F]; exact rfl) ?_
    refine AL_nil ?_
    refine thenA_n ?_
    by_cases hb_289 : (rule_283 == 3) = true
    · rw [if_pos hb_289] at h
      refine awp_ct (by simp only [go_sem, seval, hb_284F, hb_289]) ?_
      refine awp_seq ?_
      refine awp_region ?_
      refine AL_upto (by exact rfl) (by simp only [go_sem, seval, hb_284F, hb_289]; exact rfl) ?_
      by_cases hb_290 : (v_281.Kind == 2) = true
      · rw [if_pos hb_290] at h
        refine AL_known (d := 24) (v := .p (.bool true)) (by simp only [go_sem, seval, hb_284F, hb_289, hb_290]) ?_
        refine AL_gt' (guard_true' rfl rfl (by exact rfl) (by exact rfl)) rfl (by simp only [go_sem, seval, hb_284F, hb_289, hb_290]; exact rfl) ?_
        refine AL_gt' (guard_true' rfl rfl (by exact rfl) (by exact rfl)) rfl (by simp only [go_sem, seval, hb_284F, hb_289, hb_290]; exact rfl) ?_
        refine AL_gt' (guard_true' rfl rfl (by exact rfl) (by exact rfl)) rfl (by simp only [go_sem, seval, hb_284F, hb_289, hb_290]; exact rfl) ?_
        refine AL_gt' (guard_true' rfl rfl (by exact rfl) (by exact rfl)) rfl (by simp only [go_sem, seval, hb_284F, hb_289, hb_290]; exact rfl) ?_
        by_cases hb_291 : (best_282.Kind != 2) = true
        · rw [if_pos hb_291] at h
          refine AL_known (d := 28) (v := .p (.bool true)) (by simp only [go_sem, seval, hb_284F, hb_289, hb_290, hb_291]) ?_
          refine AL_skips (by exact rfl) ?_
          refine AL_gt' (guard_true' rfl rfl (by exact rfl) (by exact rfl)) rfl (by simp only [go_sem, seval, hb_284F, hb_289, hb_290, hb_291]; exact rfl) ?_
          refine AL_upto (by exact rfl) (by simp only [go_sem, seval, hb_284F, hb_289, hb_290, hb_291]; exact rfl) ?_
          refine AL_nil ?_
          refine thenA_n ?_
          refine awp_ret ?_
          refine blockA_ret ?_
          refine thenA_ret ?_
          cases h
          refine retQ_ret (by simp only [Tryz.results104]; simp only [go_sem, seval, hb_284F, hb_289, hb_290, hb_291]; exact rfl) ?_
          simp only [go_sem, seval, hb_284F, hb_289, hb_290, hb_291]
          all_goals ((repeat' refine And.intro ?_ ?_) <;> first | rfl | (simp; done) | (simp; rfl) | (simp [*]; done) | (simp [*]; rfl))
        · rw [if_neg hb_291] at h
          have hb_291F := Bool.eq_false_iff.2 hb_291
          refine AL_known (d := 28) (v := .p (.bool false)) (by simp only [go_sem, seval, hb_284F, hb_289, hb_290, hb_291F]) ?_
          refine AL_gt' (guard_true' rfl rfl (by exact rfl) (by exact rfl)) rfl (by simp only [go_sem, seval, hb_284F, hb_289, hb_290, hb_291F]; exact rfl) ?_
          refine AL_gt' (guard_true' rfl rfl (by exact rfl) (by exact rfl)) rfl (by simp only [go_sem, seval, hb_284F, hb_289, hb_290, hb_291F]; exact rfl) ?_
          refine AL_gt' (guard_true' rfl rfl (by exact rfl) (by exact rfl)) rfl (by simp only [go_sem, seval, hb_284F, hb_289, hb_290, hb_291F]; exact rfl) ?_
          refine AL_gt' (guard_true' rfl rfl (by exact rfl) (by exact rfl)) rfl (by simp only [go_sem, seval, hb_284F, hb_289, hb_290, hb_291F]; exact rfl) ?_
          refine AL_gt' (guard_true' rfl rfl (by exact rfl) (by exact rfl)) rfl (by simp only [go_sem, seval, hb_284F, hb_289, hb_290, hb_291F]; exact rfl) ?_
          refine AL_gt' (guard_true' rfl rfl (by exact rfl) (by exact rfl)) rfl (by simp only [go_sem, seval, hb_284F, hb_289, hb_290, hb_291F]; exact rfl) ?_
          refine AL_gt' (guard_true' rfl rfl (by exact rfl) (by exact rfl)) rfl (by simp only [go_sem, seval, hb_284F, hb_289, hb_290, hb_291F]; exact rfl) ?_
          refine AL_gt' (guard_true' rfl rfl (by exact rfl) (by exact rfl)) rfl (by simp only [go_sem, seval, hb_284F, hb_289, hb_290, hb_291F]; exact rfl) ?_
          refine AL_upto (by exact rfl) (by simp only [go_sem, seval, hb_284F, hb_289, hb_290, hb_291F]; exact rfl) ?_
          refine AL_nil ?_
          refine thenA_n ?_
          refine awp_ret ?_
          refine blockA_ret ?_
          refine thenA_ret ?_
          cases h
          refine retQ_ret (by simp only [Tryz.results104]; simp only [go_sem, seval, hb_284F, hb_289, hb_290, hb_291F]; exact rfl) ?_
          simp only [go_sem, seval, hb_284F, hb_289, hb_290, hb_291F]
          all_goals ((repeat' refine And.intro ?_ ?_) <;> first | rfl | (simp; done) | (simp; rfl) | (simp [*]; done) | (simp [*]; rfl))
      · rw [if_neg hb_290] at h
        have hb_290F := Bool.eq_false_iff.2 hb_290
        refine AL_known (d := 24) (v := .p (.bool false)) (by simp only [go_sem, seval, hb_284F, hb_289, hb_290F]) ?_
        refine AL_skips (by exact rfl) ?_
        refine AL_upto (by exact rfl) (by simp only [go_sem, seval, hb_284F, hb_289, hb_290F]; exact rfl) ?_
        refine AL_nil ?_
        refine thenA_n ?_
        refine awp_ret ?_
        refine blockA_ret ?_
        refine thenA_ret ?_
        cases h
        refine retQ_ret (by simp only [Tryz.results104]; simp only [go_sem, seval, hb_284F, hb_289, hb_290F]; exact rfl) ?_
        simp only [go_sem, seval, hb_284F, hb_289, hb_290F]
        all_goals ((repeat' refine And.intro ?_ ?_) <;> first | rfl | (simp; done) | (simp; rfl) | (simp [*]; done) | (simp [*]; rfl))
    · rw [if_neg hb_289] at h
      have hb_289F := Bool.eq_false_iff.2 hb_289
      refine awp_cf (by simp only [go_sem, seval, hb_284F, hb_289F]) ?_
      refine awp_seq ?_
      refine awp_region ?_
      refine AL_upto (by exact rfl) (by simp only [go_sem, seval, hb_284F, hb_289F]; exact rfl) ?_
      refine AL_nil ?_
      refine thenA_n ?_
      by_cases hb_292 : (rule_283 == 4) = true
      · rw [if_pos hb_292] at h
        refine awp_ct (by simp only [go_sem, seval, hb_284F, hb_289F, hb_292]) ?_
        refine awp_seq ?_
        refine awp_region ?_
        refine AL_upto (by exact rfl) (by simp only [go_sem, seval, hb_284F, hb_289F, hb_292]; exact rfl) ?_
        obtain ⟨r_293, hr_294, h⟩ := Option.bind_eq_some_iff.1 h
        refine AL_con' rfl (guard_none rfl) rfl (by simp only [go_sem, seval, hb_284F, hb_289F, hb_292]; exact rfl) (by simp only [go_sem, seval, hb_284F, hb_289F, hb_292]; all_goals ((repeat' refine And.intro ?_ ?_) <;> first | rfl | (simp; done) | (simp; rfl) | (simp [*]; done) | (simp [*]; rfl))) (value_Compare_con v_281 best_282 _ hr_294) (.inr rfl) rfl ?_
        refine AL_upto (by exact rfl) (by simp only [go_sem, seval, hb_284F, hb_289F, hb_292]; exact rfl) ?_
        refine AL_nil ?_
        refine thenA_n ?_
        refine awp_ret ?_
        refine blockA_ret ?_
        refine thenA_ret ?_
        cases h
        refine retQ_ret (by simp only [Tryz.results104]; simp only [go_sem, seval, hb_284F, hb_289F, hb_292]; exact rfl) ?_
        simp only [go_sem, seval, hb_284F, hb_289F, hb_292]
        all_goals ((repeat' refine And.intro ?_ ?_) <;> first | rfl | (simp; done) | (simp; rfl) | (simp [*]; done) | (simp [*]; rfl))
      · rw [if_neg hb_292] at h
        have hb_292F := Bool.eq_false_iff.2 hb_292
        refine awp_cf (by simp only [go_sem, seval, hb_284F, hb_289F, hb_292F]) ?_
        refine awp_seq ?_
        refine awp_region ?_
        refine AL_upto (by exact rfl) (by simp only [go_sem, seval, hb_284F, hb_289F, hb_292F]; exact rfl) ?_
        refine AL_nil ?_
        refine thenA_n ?_
        by_cases hb_295 : (rule_283 == 5) = true
        · rw [if_pos hb_295] at h
          refine awp_ct (by simp only [go_sem, seval, hb_284F, hb_289F, hb_292F, hb_295]) ?_
          refine awp_seq ?_
          refine awp_region ?_
          refine AL_upto (by exact rfl) (by simp only [go_sem, seval, hb_284F, hb_289F, hb_292F, hb_295]; exact rfl) ?_
          obtain ⟨r_296, hr_297, h⟩ := Option.bind_eq_some_iff.1 h
          refine AL_con' rfl (guard_none rfl) rfl (by simp only [go_sem, seval, hb_284F, hb_289F, hb_292F, hb_295]; exact rfl) (by simp only [go_sem, seval, hb_284F, hb_289F, hb_292F, hb_295]; all_goals ((repeat' refine And.intro ?_ ?_) <;> first | rfl | (simp; done) | (simp; rfl) | (simp [*]; done) | (simp [*]; rfl))) (value_Compare_con v_281 best_282 _ hr_297) (.inr rfl) rfl ?_
          refine AL_upto (by exact rfl) (by simp only [go_sem, seval, hb_284F, hb_289F, hb_292F, hb_295]; exact rfl) ?_
          refine AL_nil ?_
          refine thenA_n ?_
          refine awp_ret ?_
          refine blockA_ret ?_
          refine thenA_ret ?_
          cases h
          refine retQ_ret (by simp only [Tryz.results104]; simp only [go_sem, seval, hb_284F, hb_289F, hb_292F, hb_295]; exact rfl) ?_
          simp only [go_sem, seval, hb_284F, hb_289F, hb_292F, hb_295]
          all_goals ((repeat' refine And.intro ?_ ?_) <;> first | rfl | (simp; done) | (simp; rfl) | (simp [*]; done) | (simp [*]; rfl))
        · rw [if_neg hb_295] at h
          have hb_295F := Bool.eq_false_iff.2 hb_295
          refine awp_cf (by simp only [go_sem, seval, hb_284F, hb_289F, hb_292F, hb_295F]) ?_
          refine awp_skip ?_
          refine blockA_n ?_
          refine thenA_n ?_
          refine awp_seq ?_
          refine awp_region ?_
          refine AL_upto (by exact rfl) (by simp only [go_sem, seval, hb_284F, hb_289F, hb_292F, hb_295F]; exact rfl) ?_
          refine AL_nil ?_
          refine thenA_n ?_
          refine awp_ret ?_
          cases h
          refine retQ_ret (by simp only [Tryz.results104]; simp only [go_sem, seval, hb_284F, hb_289F, hb_292F, hb_295F]; exact rfl) ?_
          simp only [go_sem, seval, hb_284F, hb_289F, hb_292F, hb_295F]
          all_goals ((repeat' refine And.intro ?_ ?_) <;> first | rfl | (simp; done) | (simp; rfl) | (simp [*]; done) | (simp [*]; rfl))
end Go.Proofs.YtdmddoljldjjeaaGreat
set_option linter.unusedVariables false
set_option linter.unusedSimpArgs false
namespace Go.Proofs.YtdmddoljldjjeaaGreat
open Go Go.Ab
set_option maxHeartbeats 4000000 in
theorem survivor_choose_1_con (r_299 : Row) (c_300 : Int) (c_301 : Value) (r_304 : Bool) (h : survivor_choose_1 r_299 c_300 c_301 = some r_304) : Con Tryz.prog 105 [(encRow r_299), .imm [.int .i64 c_300], .imm [.int .i64 c_301.Kind, .int .i64 c_301.Num, .str c_301.Str]] (.bool r_304) := by
  refine ⟨Tryz.call105, ?_⟩
  refine pure_of_awp Tryz.func105 rfl Tryz.ntmps105 (by simp) fun X w => ?_
  show AWp _ _ _ ⟨[(0, .p (encRow r_299)), (1, .p (.imm [.int .i64 c_300])), (2, .p (.imm [.int .i64 c_301.Kind, .int .i64 c_301.Num, .str c_301.Str]))], []⟩
  simp only [survivor_choose_1] at h
  refine awp_seq ?_
  refine awp_region ?_
  refine AL_upto (by exact rfl) (by simp only [go_sem, seval]; exact rfl) ?_
  refine AL_nil ?_
  refine thenA_n ?_
  refine awp_seq ?_
  refine awp_drawn_walk mixed (by decide) ?_
  obtain ⟨x_302, hx_303, h⟩ := Option.bind_eq_some_iff.1 h
  obtain ⟨hx_303a, hx_303, hx_303b⟩ := idx_some hx_303
  have hx_303A := eq_true hx_303a
  have hx_303B := eq_true hx_303b
  refine DGo.upto (by exact rfl) (by simp only [go_sem, seval, hx_303, hx_303A, hx_303B]; first | exact ⟨rfl, rfl⟩ | exact rfl) ?_
  refine DGo.fin rfl ?_
  refine thenA_n ?_
  refine awp_ret ?_
  cases h
  refine retQ_ret (by simp only [Tryz.results105]; simp only [go_sem, seval]; exact rfl) ?_
  simp only [go_sem, seval]
  all_goals ((repeat' refine And.intro ?_ ?_) <;> first | rfl | (simp; done) | (simp; rfl) | (simp [*]; done) | (simp [*]; rfl))
end Go.Proofs.YtdmddoljldjjeaaGreat
set_option linter.unusedVariables false
set_option linter.unusedSimpArgs false
namespace Go.Proofs.YtdmddoljldjjeaaGreat
open Go Go.Ab
set_option maxHeartbeats 4000000 in
theorem survivor_choose_con (rows_305 : List Row) (attr_306 : Int) (rule_307 : Int) (r_406 : Value × Int) (h : survivor_choose rows_305 attr_306 rule_307 = some r_406) : Con Tryz.prog 63 [(.slc (List.map encRow rows_305)), (.int .i64 attr_306), (.int .i64 rule_307)] (.tup [(encValue r_406.1), (.int .i64 r_406.2)]) := by
  refine ⟨Tryz.call63, ?_⟩
  refine pure_of_awp Tryz.func63 rfl Tryz.ntmps63 (by simp) fun X w => ?_
  show AWp _ _ _ ⟨[(0, .p (.slc (List.map encRow rows_305))), (1, .p (.int .i64 attr_306)), (2, .p (.int .i64 rule_307))], []⟩
  simp only [survivor_choose] at h
  refine awp_seq ?_
  refine awp_region ?_
  refine AL_upto (by exact rfl) (by simp only [go_sem, seval]; exact rfl) ?_
  refine AL_nil ?_
  refine thenA_n ?_
  refine awp_seq ?_
  refine awp_region ?_
  refine AL_upto (by exact rfl) (by simp only [go_sem, seval]; exact rfl) ?_
  refine AL_nil ?_
  refine thenA_n ?_
  refine awp_seq ?_
  refine awp_seq ?_
  refine awp_region ?_
  refine AL_upto (by exact rfl) (by simp only [go_sem, seval]; exact rfl) ?_
  refine AL_nil ?_
  refine thenA_n ?_
  refine awp_block ?_
  obtain ⟨o_347, hL_348, h⟩ := Option.bind_eq_some_iff.1 h
  refine awp_loop_L (fun (s : List Value × Int) => ⟨[(0, .p (.slc (List.map encRow rows_305))), (2, .p (.int .i64 rule_307)), (4, .loc 4 1 0 0), (6, .loc 6 1 0 0), (8, .own 33 1 0 s.1.length), (16, .p (.slc (List.map encRow rows_305))), (17, .p (.int .i64 (rows_305.length : Int))), (18, .p (.int .i64 s.2))], [(4, .arr 3 1 1 [.p (.int .i64 attr_306)]), (6, .arr 64 3 1 [.p (.agg [.int .i64 0, .int .i64 0, .str []])]), (33, .arr 64 3 1 (List.map AV.p (List.map encValue s.1)))]⟩) (fun (o_405 : List Value) (e : Exit) (s' : St) => e = (.exit 0) ∧ Le ⟨Tryz.prog, Tryz.f63.ntmps, 0, X, [], fun _ => none, w⟩ s' ⟨[(0, .p (.slc (List.map encRow rows_305))), (2, .p (.int .i64 rule_307)), (4, .loc 4 1 0 0), (6, .loc 6 1 0 0), (8, .own 33 1 0 o_405.length)], [(4, .arr 3 1 1 [.p (.int .i64 attr_306)]), (6, .arr 64 3 1 [.p (.agg [.int .i64 0, .int .i64 0, .str []])]), (33, .arr 64 3 1 (List.map AV.p (List.map encValue o_405)))]⟩) (by intro o s hT; have hh := hT.1; cases hh) hL_348 (by simp only [go_sem, seval]; all_goals ((repeat' refine And.intro ?_ ?_) <;> first | rfl | (simp; done) | (simp; rfl) | (simp [*]; done) | (simp [*]; rfl))) ?_ ?_
  · clear h
    intro s x h
    obtain ⟨l_320, t18_321⟩ := s
    simp only [survivor_choose_l1] at h
    show AWp _ _ _ ⟨[(0, .p (.slc (List.map encRow rows_305))), (2, .p (.int .i64 rule_307)), (4, .loc 4 1 0 0), (6, .loc 6 1 0 0), (8, .own 33 1 0 l_320.length), (16, .p (.slc (List.map encRow rows_305))), (17, .p (.int .i64 (rows_305.length : Int))), (18, .p (.int .i64 t18_321))], [(4, .arr 3 1 1 [.p (.int .i64 attr_306)]), (6, .arr 64 3 1 [.p (.agg [.int .i64 0, .int .i64 0, .str []])]), (33, .arr 64 3 1 (List.map AV.p (List.map encValue l_320)))]⟩
    refine awp_seq ?_
    refine awp_region ?_
    refine AL_upto (by exact rfl) (by simp only [go_sem, seval]; exact rfl) ?_
    refine AL_nil ?_
    refine thenA_n ?_
    refine awp_seq ?_
    by_cases hb_336 : t18_321 < (rows_305.length : Int)
    · rw [if_pos hb_336] at h
      have hb_336T := eq_true hb_336
      refine awp_ct (by simp only [go_sem, seval, hb_336T]) ?_
      refine awp_skip ?_
      refine thenA_n ?_
      refine awp_seq ?_
      refine awp_block ?_
      refine awp_seq ?_
      refine awp_region ?_
      obtain ⟨x_339, hx_340, h⟩ := Option.bind_eq_some_iff.1 h
      obtain ⟨hx_340a, hx_340, hx_340b⟩ := idx_some hx_340
      have hx_340A := eq_true hx_340a
      have hx_340B := eq_true hx_340b
      refine AL_upto (by exact rfl) (by simp only [go_sem, seval, hb_336T, hx_340, hx_340A, hx_340B]; exact rfl) ?_
      refine AL_nil ?_
      refine thenA_n ?_
      refine awp_seq ?_
      refine awp_region ?_
      obtain ⟨x_343, hx_344, h⟩ := Option.bind_eq_some_iff.1 h
      obtain ⟨hx_344a, hx_344, hx_344b⟩ := idx_some hx_344
      have hx_344A := eq_true hx_344a
      have hx_344B := eq_true hx_344b
      refine AL_upto (by exact rfl) (by simp only [go_sem, seval, hb_336T, hx_344, hx_344A, hx_344B]; exact rfl) ?_
      refine AL_nil ?_
      refine thenA_n ?_
      refine awp_seq ?_
      refine awp_region ?_
      refine AL_upto (by exact rfl) (by simp only [go_sem, seval, hb_336T]; exact rfl) ?_
      refine AL_nil ?_
      refine thenA_n ?_
      by_cases hb_345 : (x_343.Kind != 0) = true
      · rw [if_pos hb_345] at h
        refine awp_ct (by simp only [go_sem, seval, hb_336T, hb_345]) ?_
        refine awp_region ?_
        obtain ⟨hc_346, h⟩ := ite_some h
        refine AL_upto (by exact rfl) (by simp only [go_sem, seval, hb_336T, hb_345, hc_346]; exact rfl) ?_
        refine AL_nil ?_
        refine blockA_n ?_
        refine thenA_n ?_
        refine awp_region ?_
        refine AL_upto (by exact rfl) (by simp only [go_sem, seval, hb_336T, hb_345]; exact rfl) ?_
        refine AL_nil ?_
        cases h
        refine ⟨rfl, ?_⟩
        simp only [go_sem, seval, hb_336T, hb_345]
        all_goals ((repeat' refine And.intro ?_ ?_) <;> first | rfl | (simp; done) | (simp; rfl) | (simp [*]; done) | (simp [*]; rfl))
      · rw [if_neg hb_345] at h
        have hb_345F := Bool.eq_false_iff.2 hb_345
        refine awp_cf (by simp only [go_sem, seval, hb_336T, hb_345F]) ?_
        refine awp_skip ?_
        refine blockA_n ?_
        refine thenA_n ?_
        refine awp_region ?_
        refine AL_upto (by exact rfl) (by simp only [go_sem, seval, hb_336T, hb_345F]; exact rfl) ?_
        refine AL_nil ?_
        cases h
        refine ⟨rfl, ?_⟩
        simp only [go_sem, seval, hb_336T, hb_345F]
        all_goals ((repeat' refine And.intro ?_ ?_) <;> first | rfl | (simp; done) | (simp; rfl) | (simp [*]; done) | (simp [*]; rfl))
    · rw [if_neg hb_336] at h
      have hb_336T := eq_false hb_336
      refine awp_cf (by simp only [go_sem, seval, hb_336T]) ?_
      refine awp_exit ?_
      refine thenA_exit ?_
      cases h
      refine ⟨rfl, ?_⟩
      simp only [go_sem, seval, hb_336T]
      all_goals ((repeat' refine And.intro ?_ ?_) <;> first | rfl | (simp; done) | (simp; rfl) | (simp [*]; done) | (simp [*]; rfl))
  · intro e s' hT
    obtain ⟨l_334, rfl⟩ : ∃ z, z = o_347 := ⟨_, rfl⟩
    try simp only at h
    try simp only at hT
    obtain ⟨rfl, hle⟩ := hT
    refine Wk.to hle ?_
    clear hle
    refine blockA_here ?_
    refine thenA_n ?_
    refine awp_seq ?_
    refine awp_seq ?_
    refine awp_region ?_
    refine AL_upto (by exact rfl) (by simp only [go_sem, seval]; exact rfl) ?_
    refine AL_nil ?_
    refine thenA_n ?_
    by_cases hb_349 : (((l_334.length : Nat) : Int) == 0) = true
    · rw [if_pos hb_349] at h
      refine awp_ct (by simp only [go_sem, seval, hb_349]) ?_
      refine awp_seq ?_
      refine awp_drawn_walk mixed (by decide) ?_
      obtain ⟨x_350, hx_351, h⟩ := Option.bind_eq_some_iff.1 h
      have hx_351l := eq_true (lt_of_get hx_351)
      have hx_351L : ((0 : Int) < (rows_305.length : Int)) = True := eq_true (by have := lt_of_get hx_351; omega)
      refine DGo.upto (by exact rfl) (by simp only [go_sem, seval, hb_349, hx_351, hx_351l, hx_351L]; first | exact ⟨rfl, rfl⟩ | exact rfl) ?_
      refine DGo.fin rfl ?_
      refine thenA_n ?_
      refine awp_ret ?_
      refine thenA_ret ?_
      cases h
      refine retQ_ret (by simp only [Tryz.results63]; simp only [go_sem, seval, hb_349]; exact rfl) ?_
      simp only [go_sem, seval, hb_349]
      all_goals ((repeat' refine And.intro ?_ ?_) <;> first | rfl | (simp; done) | (simp; rfl) | (simp [*]; done) | (simp [*]; rfl))
    · rw [if_neg hb_349] at h
      have hb_349F := Bool.eq_false_iff.2 hb_349
      refine awp_cf (by simp only [go_sem, seval, hb_349F]) ?_
      refine awp_skip ?_
      refine thenA_n ?_
      refine awp_seq ?_
      refine awp_region ?_
      obtain ⟨x_354, hx_355, h⟩ := Option.bind_eq_some_iff.1 h
      have hx_355l := eq_true (lt_of_get hx_355)
      have hx_355L : ((0 : Int) < (l_334.length : Int)) = True := eq_true (by have := lt_of_get hx_355; omega)
      refine AL_upto (by exact rfl) (by simp only [go_sem, seval, hb_349F, hx_355, hx_355l, hx_355L]; exact rfl) ?_
      refine AL_nil ?_
      refine thenA_n ?_
      refine awp_seq ?_
      refine awp_seq ?_
      refine awp_region ?_
      obtain ⟨hc_357, h⟩ := ite_some h
      have hc_357T := eq_true hc_357
      refine AL_upto (by exact rfl) (by simp only [go_sem, seval, hb_349F, hc_357T]; exact rfl) ?_
      refine AL_nil ?_
      refine thenA_n ?_
      refine awp_block ?_
      obtain ⟨o_394, hL_395, h⟩ := Option.bind_eq_some_iff.1 h
      refine awp_loop_L (fun (s : Value × Int) => ⟨[(0, .p (.slc (List.map encRow rows_305))), (2, .p (.int .i64 rule_307)), (4, .loc 4 1 0 0), (6, .loc 6 1 0 0), (8, .own 33 1 0 l_334.length), (12, .loc 12 1 0 0), (47, .own 33 1 1 (l_334.length - 1)), (48, .p (.int .i64 (((l_334.length - 1) : Nat) : Int))), (49, .p (.int .i64 s.2))], [(4, .arr 3 1 1 [.p (.int .i64 attr_306)]), (6, .arr 64 3 1 [.p (.agg [.int .i64 0, .int .i64 0, .str []])]), (12, .arr 64 3 1 [.p (encValue s.1)]), (33, .arr 64 3 1 (List.map AV.p (List.map encValue l_334)))]⟩) (fun (o_404 : Value) (e : Exit) (s' : St) => e = (.exit 2) ∧ Le ⟨Tryz.prog, Tryz.f63.ntmps, 0, X, [], fun _ => none, w⟩ s' ⟨[(0, .p (.slc (List.map encRow rows_305))), (4, .loc 4 1 0 0), (6, .loc 6 1 0 0), (12, .loc 12 1 0 0)], [(4, .arr 3 1 1 [.p (.int .i64 attr_306)]), (6, .arr 64 3 1 [.p (.agg [.int .i64 0, .int .i64 0, .str []])]), (12, .arr 64 3 1 [.p (encValue o_404)])]⟩) (by intro o s hT; have hh := hT.1; cases hh) hL_395 (by simp only [go_sem, seval, hb_349F]; all_goals ((repeat' refine And.intro ?_ ?_) <;> first | rfl | (simp; done) | (simp; rfl) | (simp [*]; done) | (simp [*]; rfl))) ?_ ?_
      · clear h
        intro s x h
        obtain ⟨best_369, t49_370⟩ := s
        simp only [survivor_choose_l2] at h
        show AWp _ _ _ ⟨[(0, .p (.slc (List.map encRow rows_305))), (2, .p (.int .i64 rule_307)), (4, .loc 4 1 0 0), (6, .loc 6 1 0 0), (8, .own 33 1 0 l_334.length), (12, .loc 12 1 0 0), (47, .own 33 1 1 (l_334.length - 1)), (48, .p (.int .i64 (((l_334.length - 1) : Nat) : Int))), (49, .p (.int .i64 t49_370))], [(4, .arr 3 1 1 [.p (.int .i64 attr_306)]), (6, .arr 64 3 1 [.p (.agg [.int .i64 0, .int .i64 0, .str []])]), (12, .arr 64 3 1 [.p (encValue best_369)]), (33, .arr 64 3 1 (List.map AV.p (List.map encValue l_334)))]⟩
        refine awp_seq ?_
        refine awp_region ?_
        refine AL_upto (by exact rfl) (by simp only [go_sem, seval]; exact rfl) ?_
        refine AL_nil ?_
        refine thenA_n ?_
        refine awp_seq ?_
        by_cases hb_384 : t49_370 < (((l_334.length - 1) : Nat) : Int)
        · rw [if_pos hb_384] at h
          have hb_384T := eq_true hb_384
          refine awp_ct (by simp only [go_sem, seval, hb_384T]) ?_
          refine awp_skip ?_
          refine thenA_n ?_
          refine awp_seq ?_
          refine awp_block ?_
          refine awp_seq ?_
          refine awp_region ?_
          obtain ⟨x_388, hx_389, h⟩ := Option.bind_eq_some_iff.1 h
          obtain ⟨hx_389a, hx_389, hx_389b⟩ := idx_some hx_389
          have hx_389A := eq_true hx_389a
          have hx_389B := eq_true hx_389b
          obtain ⟨hp_390, hp_390n⟩ := part_get hx_389
          have hp_390N := eq_true (part_lt hp_390n hx_389a)
          refine AL_upto (by exact rfl) (by simp only [go_sem, seval, hb_384T, hx_389, hx_389A, hx_389B, hp_390N, hp_390]; exact rfl) ?_
          refine AL_nil ?_
          refine thenA_n ?_
          refine awp_seq ?_
          refine awp_region ?_
          refine AL_upto (by exact rfl) (by simp only [go_sem, seval, hb_384T]; exact rfl) ?_
          obtain ⟨r_391, hr_392, h⟩ := Option.bind_eq_some_iff.1 h
          refine AL_con' rfl (guard_none rfl) rfl (by simp only [go_sem, seval, hb_384T]; exact rfl) (by simp only [go_sem, seval, hb_384T]; all_goals ((repeat' refine And.intro ?_ ?_) <;> first | rfl | (simp; done) | (simp; rfl) | (simp [*]; done) | (simp [*]; rfl))) (survivor_better_con l_334 x_388 best_369 rule_307 _ hr_392) (.inr rfl) rfl ?_
          refine AL_nil ?_
          refine thenA_n ?_
          by_cases hb_393 : r_391 = true
          · rw [if_pos hb_393] at h
            refine awp_ct (by simp only [go_sem, seval, hb_384T, hb_393]) ?_
            refine awp_region ?_
            refine AL_upto (by exact rfl) (by simp only [go_sem, seval, hb_384T, hb_393]; exact rfl) ?_
            refine AL_nil ?_
            refine blockA_n ?_
            refine thenA_n ?_
            refine awp_region ?_
            refine AL_upto (by exact rfl) (by simp only [go_sem, seval, hb_384T, hb_393]; exact rfl) ?_
            refine AL_nil ?_
            cases h
            refine ⟨rfl, ?_⟩
            simp only [go_sem, seval, hb_384T, hb_393]
            all_goals ((repeat' refine And.intro ?_ ?_) <;> first | rfl | (simp; done) | (simp; rfl) | (simp [*]; done) | (simp [*]; rfl))
          · rw [if_neg hb_393] at h
            have hb_393F := Bool.eq_false_iff.2 hb_393
            refine awp_cf (by simp only [go_sem, seval, hb_384T, hb_393F]) ?_
            refine awp_skip ?_
            refine blockA_n ?_
            refine thenA_n ?_
            refine awp_region ?_
            refine AL_upto (by exact rfl) (by simp only [go_sem, seval, hb_384T, hb_393F]; exact rfl) ?_
            refine AL_nil ?_
            cases h
            refine ⟨rfl, ?_⟩
            simp only [go_sem, seval, hb_384T, hb_393F]
            all_goals ((repeat' refine And.intro ?_ ?_) <;> first | rfl | (simp; done) | (simp; rfl) | (simp [*]; done) | (simp [*]; rfl))
        · rw [if_neg hb_384] at h
          have hb_384T := eq_false hb_384
          refine awp_cf (by simp only [go_sem, seval, hb_384T]) ?_
          refine awp_exit ?_
          refine thenA_exit ?_
          cases h
          refine ⟨rfl, ?_⟩
          simp only [go_sem, seval, hb_384T]
          all_goals ((repeat' refine And.intro ?_ ?_) <;> first | rfl | (simp; done) | (simp; rfl) | (simp [*]; done) | (simp [*]; rfl))
      · intro e s' hT
        obtain ⟨best_382, rfl⟩ : ∃ z, z = o_394 := ⟨_, rfl⟩
        try simp only at h
        try simp only at hT
        obtain ⟨rfl, hle⟩ := hT
        refine Wk.to hle ?_
        clear hle
        refine blockA_here ?_
        refine thenA_n ?_
        refine awp_seq ?_
        refine awp_region ?_
        refine AL_upto (by exact rfl) (by simp only [go_sem, seval, hb_349F]; exact rfl) ?_
        obtain ⟨r_400, hr_401, h⟩ := Option.bind_eq_some_iff.1 h
        refine AL_con' rfl (guard_none rfl) rfl (by simp only [go_sem, seval, hb_349F]; exact rfl) (by simp only [go_sem, seval, hb_349F]; all_goals ((repeat' refine And.intro ?_ ?_) <;> first | rfl | (simp; done) | (simp; rfl) | (simp [*]; done) | (simp [*]; rfl))) (slices_IndexFunc_Row_con rows_305 (fun (y_399 : Row) => survivor_choose_1 y_399 attr_306 best_382) 105 [.imm [.int .i64 attr_306], .imm [.int .i64 best_382.Kind, .int .i64 best_382.Num, .str best_382.Str]] (fun y_399 r h => survivor_choose_1_con y_399 attr_306 best_382 r h) _ hr_401) (.inr rfl) rfl ?_
        refine AL_upto (by exact rfl) (by simp only [go_sem, seval, hb_349F]; exact rfl) ?_
        refine AL_nil ?_
        refine thenA_n ?_
        refine awp_seq ?_
        refine awp_drawn_walk mixed (by decide) ?_
        obtain ⟨x_402, hx_403, h⟩ := Option.bind_eq_some_iff.1 h
        obtain ⟨hx_403a, hx_403, hx_403b⟩ := idx_some hx_403
        have hx_403A := eq_true hx_403a
        have hx_403B := eq_true hx_403b
        refine DGo.upto (by exact rfl) (by simp only [go_sem, seval, hb_349F, hx_403, hx_403A, hx_403B]; first | exact ⟨rfl, rfl⟩ | exact rfl) ?_
        refine DGo.fin rfl ?_
        refine thenA_n ?_
        refine awp_ret ?_
        cases h
        refine retQ_ret (by simp only [Tryz.results63]; simp only [go_sem, seval, hb_349F]; exact rfl) ?_
        simp only [go_sem, seval, hb_349F]
        all_goals ((repeat' refine And.intro ?_ ?_) <;> first | rfl | (simp; done) | (simp; rfl) | (simp [*]; done) | (simp [*]; rfl))
end Go.Proofs.YtdmddoljldjjeaaGreat
set_option linter.unusedVariables false
set_option linter.unusedSimpArgs false
namespace Go.Proofs.YtdmddoljldjjeaaGreat
open Go Go.Ab
set_option maxHeartbeats 4000000 in
theorem survivor_Choose_con (rows_407 : List Row) (attr_408 : Int) (rule_409 : Int) (r_433 : Value × Int × Int) (h : survivor_Choose rows_407 attr_408 rule_409 = some r_433) : Con Tryz.prog 26 [(.slc (List.map encRow rows_407)), (.int .i64 attr_408), (.int .i64 rule_409)] (.tup [(encValue r_433.1), (.int .i64 r_433.2.1), (.int .i64 r_433.2.2)]) := by
  refine ⟨Tryz.call26, ?_⟩
  refine pure_of_awp Tryz.func26 rfl Tryz.ntmps26 (by simp) fun X w => ?_
  show AWp _ _ _ ⟨[(0, .p (.slc (List.map encRow rows_407))), (1, .p (.int .i64 attr_408)), (2, .p (.int .i64 rule_409))], []⟩
  simp only [survivor_Choose] at h
  refine awp_seq ?_
  refine awp_region ?_
  refine AL_upto (by exact rfl) (by simp only [go_sem, seval]; exact rfl) ?_
  refine AL_nil ?_
  refine thenA_n ?_
  refine awp_seq ?_
  refine awp_seq ?_
  refine awp_region ?_
  refine AL_upto (by exact rfl) (by simp only [go_sem, seval]; exact rfl) ?_
  obtain ⟨r_412, hr_413, h⟩ := Option.bind_eq_some_iff.1 h
  refine AL_con' rfl (guard_none rfl) rfl (by simp only [go_sem, seval]; exact rfl) (by simp only [go_sem, seval]; all_goals ((repeat' refine And.intro ?_ ?_) <;> first | rfl | (simp; done) | (simp; rfl) | (simp [*]; done) | (simp [*]; rfl))) (survivor_checkRows_con rows_407 _ hr_413) (.inr rfl) rfl ?_
  refine AL_upto (by exact rfl) (by simp only [go_sem, seval]; exact rfl) ?_
  refine AL_nil ?_
  refine thenA_n ?_
  refine awp_seq ?_
  refine awp_region ?_
  refine AL_upto (by exact rfl) (by simp only [go_sem, seval]; exact rfl) ?_
  refine AL_nil ?_
  refine thenA_n ?_
  by_cases hb_414 : (r_412 != 0) = true
  · rw [if_pos hb_414] at h
    refine awp_ct (by simp only [go_sem, seval, hb_414]) ?_
    refine awp_seq ?_
    refine awp_region ?_
    refine AL_upto (by exact rfl) (by simp only [go_sem, seval, hb_414]; exact rfl) ?_
    refine AL_nil ?_
    refine thenA_n ?_
    refine awp_ret ?_
    refine thenA_ret ?_
    cases h
    refine retQ_ret (by simp only [Tryz.results26]; simp only [go_sem, seval, hb_414]; exact rfl) ?_
    simp only [go_sem, seval, hb_414]
    all_goals ((repeat' refine And.intro ?_ ?_) <;> first | rfl | (simp; done) | (simp; rfl) | (simp [*]; done) | (simp [*]; rfl))
  · rw [if_neg hb_414] at h
    have hb_414F := Bool.eq_false_iff.2 hb_414
    refine awp_cf (by simp only [go_sem, seval, hb_414F]) ?_
    refine awp_skip ?_
    refine thenA_n ?_
    refine awp_seq ?_
    refine awp_seq ?_
    refine awp_region ?_
    refine AL_upto (by exact rfl) (by simp only [go_sem, seval, hb_414F]; exact rfl) ?_
    by_cases hb_415 : attr_408 < 0
    · rw [if_pos hb_415] at h
      have hb_415T := eq_true hb_415
      refine AL_known (d := 21) (v := .p (.bool true)) (by simp only [go_sem, seval, hb_414F, hb_415T]) ?_
      refine AL_skips (by exact rfl) ?_
      refine AL_upto (by exact rfl) (by simp only [go_sem, seval, hb_414F, hb_415T]; exact rfl) ?_
      refine AL_nil ?_
      refine thenA_n ?_
      refine awp_ct (by simp only [go_sem, seval, hb_414F, hb_415T]) ?_
      refine awp_seq ?_
      refine awp_region ?_
      refine AL_upto (by exact rfl) (by simp only [go_sem, seval, hb_414F, hb_415T]; exact rfl) ?_
      refine AL_nil ?_
      refine thenA_n ?_
      refine awp_ret ?_
      refine thenA_ret ?_
      cases h
      refine retQ_ret (by simp only [Tryz.results26]; simp only [go_sem, seval, hb_414F, hb_415T]; exact rfl) ?_
      simp only [go_sem, seval, hb_414F, hb_415T]
      all_goals ((repeat' refine And.intro ?_ ?_) <;> first | rfl | (simp; done) | (simp; rfl) | (simp [*]; done) | (simp [*]; rfl))
    · rw [if_neg hb_415] at h
      have hb_415T := eq_false hb_415
      refine AL_known (d := 21) (v := .p (.bool false)) (by simp only [go_sem, seval, hb_414F, hb_415T]) ?_
      refine AL_gt' (guard_true' rfl rfl (by exact rfl) (by exact rfl)) rfl (by simp only [go_sem, seval, hb_414F, hb_415T]; exact rfl) ?_
      refine AL_gt' (guard_true' rfl rfl (by exact rfl) (by exact rfl)) rfl (by simp only [go_sem, seval, hb_414F, hb_415T]; exact rfl) ?_
      obtain ⟨x_418, hx_419, h⟩ := Option.bind_eq_some_iff.1 h
      have hx_419l := eq_true (lt_of_get hx_419)
      have hx_419L : ((0 : Int) < (rows_407.length : Int)) = True := eq_true (by have := lt_of_get hx_419; omega)
      refine AL_gt' (guard_true' rfl rfl (by exact rfl) (by exact rfl)) rfl (by simp only [go_sem, seval, hb_414F, hb_415T, hx_419, hx_419l, hx_419L]; exact rfl) ?_
      refine AL_gt' (guard_true' rfl rfl (by exact rfl) (by exact rfl)) rfl (by simp only [go_sem, seval, hb_414F, hb_415T]; exact rfl) ?_
      refine AL_gt' (guard_true' rfl rfl (by exact rfl) (by exact rfl)) rfl (by simp only [go_sem, seval, hb_414F, hb_415T]; exact rfl) ?_
      refine AL_gt' (guard_true' rfl rfl (by exact rfl) (by exact rfl)) rfl (by simp only [go_sem, seval, hb_414F, hb_415T]; exact rfl) ?_
      refine AL_gt' (guard_true' rfl rfl (by exact rfl) (by exact rfl)) rfl (by simp only [go_sem, seval, hb_414F, hb_415T]; exact rfl) ?_
      refine AL_upto (by exact rfl) (by simp only [go_sem, seval, hb_414F, hb_415T]; exact rfl) ?_
      refine AL_nil ?_
      refine thenA_n ?_
      by_cases hb_420 : attr_408 ≥ (x_418.Values.length : Int)
      · rw [if_pos hb_420] at h
        have hb_420T := eq_true hb_420
        refine awp_ct (by simp only [go_sem, seval, hb_414F, hb_415T, hb_420T]) ?_
        refine awp_seq ?_
        refine awp_region ?_
        refine AL_upto (by exact rfl) (by simp only [go_sem, seval, hb_414F, hb_415T, hb_420T]; exact rfl) ?_
        refine AL_nil ?_
        refine thenA_n ?_
        refine awp_ret ?_
        refine thenA_ret ?_
        cases h
        refine retQ_ret (by simp only [Tryz.results26]; simp only [go_sem, seval, hb_414F, hb_415T, hb_420T]; exact rfl) ?_
        simp only [go_sem, seval, hb_414F, hb_415T, hb_420T]
        all_goals ((repeat' refine And.intro ?_ ?_) <;> first | rfl | (simp; done) | (simp; rfl) | (simp [*]; done) | (simp [*]; rfl))
      · rw [if_neg hb_420] at h
        have hb_420T := eq_false hb_420
        refine awp_cf (by simp only [go_sem, seval, hb_414F, hb_415T, hb_420T]) ?_
        refine awp_skip ?_
        refine thenA_n ?_
        refine awp_seq ?_
        refine awp_seq ?_
        refine awp_region ?_
        refine AL_upto (by exact rfl) (by simp only [go_sem, seval, hb_414F, hb_415T, hb_420T]; exact rfl) ?_
        obtain ⟨r_423, hr_424, h⟩ := Option.bind_eq_some_iff.1 h
        refine AL_con' rfl (guard_none rfl) rfl (by simp only [go_sem, seval, hb_414F, hb_415T, hb_420T]; exact rfl) (by simp only [go_sem, seval, hb_414F, hb_415T, hb_420T]; all_goals ((repeat' refine And.intro ?_ ?_) <;> first | rfl | (simp; done) | (simp; rfl) | (simp [*]; done) | (simp [*]; rfl))) (survivor_checkValues_con rows_407 _ hr_424) (.inr rfl) rfl ?_
        refine AL_upto (by exact rfl) (by simp only [go_sem, seval, hb_414F, hb_415T, hb_420T]; exact rfl) ?_
        refine AL_nil ?_
        refine thenA_n ?_
        refine awp_seq ?_
        refine awp_region ?_
        refine AL_upto (by exact rfl) (by simp only [go_sem, seval, hb_414F, hb_415T, hb_420T]; exact rfl) ?_
        refine AL_nil ?_
        refine thenA_n ?_
        by_cases hb_425 : (r_423 != 0) = true
        · rw [if_pos hb_425] at h
          refine awp_ct (by simp only [go_sem, seval, hb_414F, hb_415T, hb_420T, hb_425]) ?_
          refine awp_seq ?_
          refine awp_region ?_
          refine AL_upto (by exact rfl) (by simp only [go_sem, seval, hb_414F, hb_415T, hb_420T, hb_425]; exact rfl) ?_
          refine AL_nil ?_
          refine thenA_n ?_
          refine awp_ret ?_
          refine thenA_ret ?_
          cases h
          refine retQ_ret (by simp only [Tryz.results26]; simp only [go_sem, seval, hb_414F, hb_415T, hb_420T, hb_425]; exact rfl) ?_
          simp only [go_sem, seval, hb_414F, hb_415T, hb_420T, hb_425]
          all_goals ((repeat' refine And.intro ?_ ?_) <;> first | rfl | (simp; done) | (simp; rfl) | (simp [*]; done) | (simp [*]; rfl))
        · rw [if_neg hb_425] at h
          have hb_425F := Bool.eq_false_iff.2 hb_425
          refine awp_cf (by simp only [go_sem, seval, hb_414F, hb_415T, hb_420T, hb_425F]) ?_
          refine awp_skip ?_
          refine thenA_n ?_
          refine awp_seq ?_
          refine awp_seq ?_
          refine awp_region ?_
          refine AL_upto (by exact rfl) (by simp only [go_sem, seval, hb_414F, hb_415T, hb_420T, hb_425F]; exact rfl) ?_
          obtain ⟨r_426, hr_427, h⟩ := Option.bind_eq_some_iff.1 h
          refine AL_con' rfl (guard_none rfl) rfl (by simp only [go_sem, seval, hb_414F, hb_415T, hb_420T, hb_425F]; exact rfl) (by simp only [go_sem, seval, hb_414F, hb_415T, hb_420T, hb_425F]; all_goals ((repeat' refine And.intro ?_ ?_) <;> first | rfl | (simp; done) | (simp; rfl) | (simp [*]; done) | (simp [*]; rfl))) (survivor_validRule_con rule_409 _ hr_427) (.inr rfl) rfl ?_
          refine AL_upto (by exact rfl) (by simp only [go_sem, seval, hb_414F, hb_415T, hb_420T, hb_425F]; exact rfl) ?_
          refine AL_nil ?_
          refine thenA_n ?_
          by_cases hb_428 : r_426 = true
          · rw [if_pos hb_428] at h
            refine awp_cf (by simp only [go_sem, seval, hb_414F, hb_415T, hb_420T, hb_425F, hb_428]) ?_
            refine awp_skip ?_
            refine thenA_n ?_
            refine awp_seq ?_
            refine awp_region ?_
            refine AL_upto (by exact rfl) (by simp only [go_sem, seval, hb_414F, hb_415T, hb_420T, hb_425F, hb_428]; exact rfl) ?_
            obtain ⟨r_431, hr_432, h⟩ := Option.bind_eq_some_iff.1 h
            refine AL_con' rfl (guard_none rfl) rfl (by simp only [go_sem, seval, hb_414F, hb_415T, hb_420T, hb_425F, hb_428]; exact rfl) (by simp only [go_sem, seval, hb_414F, hb_415T, hb_420T, hb_425F, hb_428]; all_goals ((repeat' refine And.intro ?_ ?_) <;> first | rfl | (simp; done) | (simp; rfl) | (simp [*]; done) | (simp [*]; rfl))) (survivor_choose_con rows_407 attr_408 rule_409 _ hr_432) (.inr rfl) rfl ?_
            refine AL_upto (by exact rfl) (by simp only [go_sem, seval, hb_414F, hb_415T, hb_420T, hb_425F, hb_428]; exact rfl) ?_
            refine AL_nil ?_
            refine thenA_n ?_
            refine awp_seq ?_
            refine awp_region ?_
            refine AL_upto (by exact rfl) (by simp only [go_sem, seval, hb_414F, hb_415T, hb_420T, hb_425F, hb_428]; exact rfl) ?_
            refine AL_nil ?_
            refine thenA_n ?_
            refine awp_ret ?_
            cases h
            refine retQ_ret (by simp only [Tryz.results26]; simp only [go_sem, seval, hb_414F, hb_415T, hb_420T, hb_425F, hb_428]; exact rfl) ?_
            simp only [go_sem, seval, hb_414F, hb_415T, hb_420T, hb_425F, hb_428]
            all_goals ((repeat' refine And.intro ?_ ?_) <;> first | rfl | (simp; done) | (simp; rfl) | (simp [*]; done) | (simp [*]; rfl))
          · rw [if_neg hb_428] at h
            have hb_428F := Bool.eq_false_iff.2 hb_428
            refine awp_ct (by simp only [go_sem, seval, hb_414F, hb_415T, hb_420T, hb_425F, hb_428F]) ?_
            refine awp_seq ?_
            refine awp_region ?_
            refine AL_upto (by exact rfl) (by simp only [go_sem, seval, hb_414F, hb_415T, hb_420T, hb_425F, hb_428F]; exact rfl) ?_
            refine AL_nil ?_
            refine thenA_n ?_
            refine awp_ret ?_
            refine thenA_ret ?_
            cases h
            refine retQ_ret (by simp only [Tryz.results26]; simp only [go_sem, seval, hb_414F, hb_415T, hb_420T, hb_425F, hb_428F]; exact rfl) ?_
            simp only [go_sem, seval, hb_414F, hb_415T, hb_420T, hb_425F, hb_428F]
            all_goals ((repeat' refine And.intro ?_ ?_) <;> first | rfl | (simp; done) | (simp; rfl) | (simp [*]; done) | (simp [*]; rfl))
end Go.Proofs.YtdmddoljldjjeaaGreat
set_option linter.unusedVariables false
set_option linter.unusedSimpArgs false
namespace Go.Proofs.YtdmddoljldjjeaaGreat
open Go Go.Ab
set_option maxHeartbeats 4000000 in
theorem drosslaw55_example_1_con (s_434 : List UInt8) (r_435 : Value) (h : drosslaw55_example_1 s_434 = some r_435) : Con Tryz.prog 64 [(.str s_434)] (encValue r_435) := by
  refine ⟨Tryz.call64, ?_⟩
  refine pure_of_awp Tryz.func64 rfl Tryz.ntmps64 (by simp) fun X w => ?_
  show AWp _ _ _ ⟨[(0, .p (.str s_434))], []⟩
  simp only [drosslaw55_example_1] at h
  refine awp_seq ?_
  refine awp_region ?_
  refine AL_upto (by exact rfl) (by simp only [go_sem, seval]; exact rfl) ?_
  refine AL_nil ?_
  refine thenA_n ?_
  refine awp_seq ?_
  refine awp_region ?_
  refine AL_upto (by exact rfl) (by simp only [go_sem, seval]; exact rfl) ?_
  refine AL_nil ?_
  refine thenA_n ?_
  refine awp_ret ?_
  cases h
  refine retQ_ret (by simp only [Tryz.results64]; simp only [go_sem, seval]; exact rfl) ?_
  simp only [go_sem, seval]
  all_goals ((repeat' refine And.intro ?_ ?_) <;> first | rfl | (simp; done) | (simp; rfl) | (simp [*]; done) | (simp [*]; rfl))
end Go.Proofs.YtdmddoljldjjeaaGreat
set_option linter.unusedVariables false
set_option linter.unusedSimpArgs false
namespace Go.Proofs.YtdmddoljldjjeaaGreat
open Go Go.Ab
set_option maxHeartbeats 4000000 in
theorem drosslaw55_example_2_con (n_436 : Int) (r_437 : Value) (h : drosslaw55_example_2 n_436 = some r_437) : Con Tryz.prog 65 [(.int .i64 n_436)] (encValue r_437) := by
  refine ⟨Tryz.call65, ?_⟩
  refine pure_of_awp Tryz.func65 rfl Tryz.ntmps65 (by simp) fun X w => ?_
  show AWp _ _ _ ⟨[(0, .p (.int .i64 n_436))], []⟩
  simp only [drosslaw55_example_2] at h
  refine awp_seq ?_
  refine awp_region ?_
  refine AL_upto (by exact rfl) (by simp only [go_sem, seval]; exact rfl) ?_
  refine AL_nil ?_
  refine thenA_n ?_
  refine awp_seq ?_
  refine awp_region ?_
  refine AL_upto (by exact rfl) (by simp only [go_sem, seval]; exact rfl) ?_
  refine AL_nil ?_
  refine thenA_n ?_
  refine awp_ret ?_
  cases h
  refine retQ_ret (by simp only [Tryz.results65]; simp only [go_sem, seval]; exact rfl) ?_
  simp only [go_sem, seval]
  all_goals ((repeat' refine And.intro ?_ ?_) <;> first | rfl | (simp; done) | (simp; rfl) | (simp [*]; done) | (simp [*]; rfl))
end Go.Proofs.YtdmddoljldjjeaaGreat
set_option linter.unusedVariables false
set_option linter.unusedSimpArgs false
namespace Go.Proofs.YtdmddoljldjjeaaGreat
open Go Go.Ab
set_option maxHeartbeats 4000000 in
theorem drosslaw55_example_con  (r_448 : List Row) (h : drosslaw55_example = some r_448) : Con Tryz.prog 27 [] (.slc (List.map encRow r_448)) := by
  refine ⟨Tryz.call27, ?_⟩
  refine pure_of_awp Tryz.func27 rfl Tryz.ntmps27 (by simp) fun X w => ?_
  show AWp _ _ _ ⟨[], []⟩
  simp only [drosslaw55_example] at h
  refine awp_seq ?_
  refine awp_region ?_
  refine AL_upto (by exact rfl) (by simp only [go_sem, seval]; exact rfl) ?_
  refine AL_nil ?_
  refine thenA_n ?_
  refine awp_seq ?_
  refine awp_region ?_
  refine AL_upto (by exact rfl) (by simp only [go_sem, seval]; exact rfl) ?_
  refine AL_nil ?_
  refine thenA_n ?_
  refine awp_seq ?_
  refine awp_region ?_
  refine AL_upto (by exact rfl) (by simp only [go_sem, seval]; exact rfl) ?_
  refine AL_nil ?_
  refine thenA_n ?_
  refine awp_seq ?_
  refine awp_region ?_
  refine AL_upto (by exact rfl) (by simp only [go_sem, seval]; exact rfl) ?_
  obtain ⟨r_438, hr_439, h⟩ := Option.bind_eq_some_iff.1 h
  refine AL_con' rfl (guard_none rfl) rfl (by simp only [go_sem, seval]; exact rfl) (by simp only [go_sem, seval]; all_goals ((repeat' refine And.intro ?_ ?_) <;> first | rfl | (simp; done) | (simp; rfl) | (simp [*]; done) | (simp [*]; rfl))) (drosslaw55_example_1_con [74, 111] _ hr_439) (.inr rfl) rfl ?_
  refine AL_upto (by exact rfl) (by simp only [go_sem, seval]; exact rfl) ?_
  obtain ⟨r_440, hr_441, h⟩ := Option.bind_eq_some_iff.1 h
  refine AL_con' rfl (guard_none rfl) rfl (by simp only [go_sem, seval]; exact rfl) (by simp only [go_sem, seval]; all_goals ((repeat' refine And.intro ?_ ?_) <;> first | rfl | (simp; done) | (simp; rfl) | (simp [*]; done) | (simp [*]; rfl))) (drosslaw55_example_1_con [74, 111, 101] _ hr_441) (.inr rfl) rfl ?_
  refine AL_upto (by exact rfl) (by simp only [go_sem, seval]; exact rfl) ?_
  obtain ⟨r_442, hr_443, h⟩ := Option.bind_eq_some_iff.1 h
  refine AL_con' rfl (guard_none rfl) rfl (by simp only [go_sem, seval]; exact rfl) (by simp only [go_sem, seval]; all_goals ((repeat' refine And.intro ?_ ?_) <;> first | rfl | (simp; done) | (simp; rfl) | (simp [*]; done) | (simp [*]; rfl))) (drosslaw55_example_2_con 7 _ hr_443) (.inr rfl) rfl ?_
  refine AL_upto (by exact rfl) (by simp only [go_sem, seval]; exact rfl) ?_
  obtain ⟨r_444, hr_445, h⟩ := Option.bind_eq_some_iff.1 h
  refine AL_con' rfl (guard_none rfl) rfl (by simp only [go_sem, seval]; exact rfl) (by simp only [go_sem, seval]; all_goals ((repeat' refine And.intro ?_ ?_) <;> first | rfl | (simp; done) | (simp; rfl) | (simp [*]; done) | (simp [*]; rfl))) (drosslaw55_example_1_con [74, 111] _ hr_445) (.inr rfl) rfl ?_
  refine AL_upto (by exact rfl) (by simp only [go_sem, seval]; exact rfl) ?_
  obtain ⟨r_446, hr_447, h⟩ := Option.bind_eq_some_iff.1 h
  refine AL_con' rfl (guard_none rfl) rfl (by simp only [go_sem, seval]; exact rfl) (by simp only [go_sem, seval]; all_goals ((repeat' refine And.intro ?_ ?_) <;> first | rfl | (simp; done) | (simp; rfl) | (simp [*]; done) | (simp [*]; rfl))) (drosslaw55_example_2_con 8 _ hr_447) (.inr rfl) rfl ?_
  refine AL_upto (by exact rfl) (by simp only [go_sem, seval]; exact rfl) ?_
  refine AL_nil ?_
  refine thenA_n ?_
  refine awp_ret ?_
  cases h
  refine retQ_ret (by simp only [Tryz.results27]; simp only [go_sem, seval]; exact rfl) ?_
  simp only [go_sem, seval]
  all_goals ((repeat' refine And.intro ?_ ?_) <;> first | rfl | (simp; done) | (simp; rfl) | (simp [*]; done) | (simp [*]; rfl))
end Go.Proofs.YtdmddoljldjjeaaGreat
set_option linter.unusedVariables false
set_option linter.unusedSimpArgs false
namespace Go.Proofs.YtdmddoljldjjeaaGreat
open Go Go.Ab
set_option maxHeartbeats 4000000 in
theorem slices_IndexFunc_int_con (s_449 : List Int) (f_450 : Int → Option (Bool)) (f_450_k : FuncId) (f_450_cs : List PV) (f_450_h : ∀ (y_451 : Int) (r_452 : Bool), f_450 y_451 = some r_452 → Con Tryz.prog f_450_k ((.int .i64 y_451) :: f_450_cs) (.bool r_452)) (r_480 : Int) (h : slices_IndexFunc_int s_449 f_450 = some r_480) : Con Tryz.prog 70 [(.slc (List.map (PV.int .i64) s_449)), .func (.func f_450_k) f_450_cs] (.int .i64 r_480) := by
  refine ⟨Tryz.call70, ?_⟩
  refine pure_of_awp Tryz.func70 rfl Tryz.ntmps70 (by simp) fun X w => ?_
  show AWp _ _ _ ⟨[(0, .p (.slc (List.map (PV.int .i64) s_449))), (1, .p (.func (.func f_450_k) f_450_cs))], []⟩
  simp only [slices_IndexFunc_int] at h
  refine awp_seq ?_
  refine awp_region ?_
  refine AL_upto (by exact rfl) (by simp only [go_sem, seval]; exact rfl) ?_
  refine AL_nil ?_
  refine thenA_n ?_
  refine awp_seq ?_
  refine awp_seq ?_
  refine awp_region ?_
  refine AL_upto (by exact rfl) (by simp only [go_sem, seval]; exact rfl) ?_
  refine AL_nil ?_
  refine thenA_n ?_
  refine awp_block ?_
  obtain ⟨o_475, hL_476, h⟩ := Option.bind_eq_some_iff.1 h
  refine awp_loop_L (fun (s : Int) => ⟨[(0, .p (.slc (List.map (PV.int .i64) s_449))), (1, .p (.func (.func f_450_k) f_450_cs)), (7, .p (.int .i64 (s_449.length : Int))), (8, .p (.int .i64 s))], []⟩) (fun (o : (Unit) ⊕ (Int)) (e : Exit) (s' : St) => match o with | .inl o_478 => e = (.exit 0) ∧ Le ⟨Tryz.prog, Tryz.f70.ntmps, 0, X, [], fun _ => none, w⟩ s' ⟨[], []⟩ | .inr o_479 => e = .ret ∧ retQ Tryz.prog Tryz.f70 (.int .i64 o_479) .ret s') (by intro o s hT; rcases o with _ | _ <;> (have hh := hT.1; cases hh)) hL_476 (by simp only [go_sem, seval]; all_goals ((repeat' refine And.intro ?_ ?_) <;> first | rfl | (simp; done) | (simp; rfl) | (simp [*]; done) | (simp [*]; rfl))) ?_ ?_
  · clear h
    intro t8_460 x h
    simp only [slices_IndexFunc_int_l1] at h
    show AWp _ _ _ ⟨[(0, .p (.slc (List.map (PV.int .i64) s_449))), (1, .p (.func (.func f_450_k) f_450_cs)), (7, .p (.int .i64 (s_449.length : Int))), (8, .p (.int .i64 t8_460))], []⟩
    refine awp_seq ?_
    refine awp_region ?_
    refine AL_upto (by exact rfl) (by simp only [go_sem, seval]; exact rfl) ?_
    refine AL_nil ?_
    refine thenA_n ?_
    refine awp_seq ?_
    by_cases hb_469 : t8_460 < (s_449.length : Int)
    · rw [if_pos hb_469] at h
      have hb_469T := eq_true hb_469
      refine awp_ct (by simp only [go_sem, seval, hb_469T]) ?_
      refine awp_skip ?_
      refine thenA_n ?_
      refine awp_seq ?_
      refine awp_block ?_
      refine awp_seq ?_
      refine awp_region ?_
      refine AL_upto (by exact rfl) (by simp only [go_sem, seval, hb_469T]; exact rfl) ?_
      refine AL_nil ?_
      refine thenA_n ?_
      refine awp_seq ?_
      refine awp_region ?_
      obtain ⟨x_470, hx_471, h⟩ := Option.bind_eq_some_iff.1 h
      obtain ⟨hx_471a, hx_471, hx_471b⟩ := idx_some hx_471
      have hx_471A := eq_true hx_471a
      have hx_471B := eq_true hx_471b
      refine AL_upto (by exact rfl) (by simp only [go_sem, seval, hb_469T, hx_471, hx_471A, hx_471B]; exact rfl) ?_
      obtain ⟨r_472, hr_473, h⟩ := Option.bind_eq_some_iff.1 h
      refine AL_con' rfl (guard_none rfl) rfl (by simp only [go_sem, seval, hb_469T]; exact rfl) (by simp only [go_sem, seval, hb_469T]; all_goals ((repeat' refine And.intro ?_ ?_) <;> first | rfl | (simp; done) | (simp; rfl) | (simp [*]; done) | (simp [*]; rfl))) (f_450_h x_470 _ hr_473) (.inr rfl) rfl ?_
      refine AL_nil ?_
      refine thenA_n ?_
      by_cases hb_474 : r_472 = true
      · rw [if_pos hb_474] at h
        refine awp_ct (by simp only [go_sem, seval, hb_469T, hb_474]) ?_
        refine awp_seq ?_
        refine awp_region ?_
        refine AL_upto (by exact rfl) (by simp only [go_sem, seval, hb_469T, hb_474]; exact rfl) ?_
        refine AL_nil ?_
        refine thenA_n ?_
        refine awp_ret ?_
        refine blockA_ret ?_
        refine thenA_ret ?_
        cases h
        refine ⟨rfl, ?_⟩
        refine retQ_ret (by simp only [Tryz.results70]; simp only [go_sem, seval, hb_469T, hb_474]; exact rfl) ?_
        simp only [go_sem, seval, hb_469T, hb_474]
        all_goals ((repeat' refine And.intro ?_ ?_) <;> first | rfl | (simp; done) | (simp; rfl) | (simp [*]; done) | (simp [*]; rfl))
      · rw [if_neg hb_474] at h
        have hb_474F := Bool.eq_false_iff.2 hb_474
        refine awp_cf (by simp only [go_sem, seval, hb_469T, hb_474F]) ?_
        refine awp_skip ?_
        refine blockA_n ?_
        refine thenA_n ?_
        refine awp_region ?_
        refine AL_upto (by exact rfl) (by simp only [go_sem, seval, hb_469T, hb_474F]; exact rfl) ?_
        refine AL_nil ?_
        cases h
        refine ⟨rfl, ?_⟩
        simp only [go_sem, seval, hb_469T, hb_474F]
        all_goals ((repeat' refine And.intro ?_ ?_) <;> first | rfl | (simp; done) | (simp; rfl) | (simp [*]; done) | (simp [*]; rfl))
    · rw [if_neg hb_469] at h
      have hb_469T := eq_false hb_469
      refine awp_cf (by simp only [go_sem, seval, hb_469T]) ?_
      refine awp_exit ?_
      refine thenA_exit ?_
      cases h
      refine ⟨rfl, ?_⟩
      simp only [go_sem, seval, hb_469T]
      all_goals ((repeat' refine And.intro ?_ ?_) <;> first | rfl | (simp; done) | (simp; rfl) | (simp [*]; done) | (simp [*]; rfl))
  · intro e s' hT
    rcases o_475 with ⟨⟩ | r_477
    · try simp only at h
      try simp only at hT
      obtain ⟨rfl, hle⟩ := hT
      refine Wk.to hle ?_
      clear hle
      refine blockA_here ?_
      refine thenA_n ?_
      refine awp_seq ?_
      refine awp_region ?_
      refine AL_upto (by exact rfl) (by simp only [go_sem, seval]; exact rfl) ?_
      refine AL_nil ?_
      refine thenA_n ?_
      refine awp_ret ?_
      cases h
      refine retQ_ret (by simp only [Tryz.results70]; simp only [go_sem, seval]; exact rfl) ?_
      simp only [go_sem, seval]
      all_goals ((repeat' refine And.intro ?_ ?_) <;> first | rfl | (simp; done) | (simp; rfl) | (simp [*]; done) | (simp [*]; rfl))
    · try simp only at h
      try simp only at hT
      obtain ⟨rfl, hq⟩ := hT
      refine Wk.now ?_
      refine blockA_ret ?_
      refine thenA_ret ?_
      cases h
      exact hq
end Go.Proofs.YtdmddoljldjjeaaGreat
set_option linter.unusedVariables false
set_option linter.unusedSimpArgs false
namespace Go.Proofs.YtdmddoljldjjeaaGreat
open Go Go.Ab
set_option maxHeartbeats 4000000 in
theorem slices_ContainsFunc_int_con (s_481 : List Int) (f_482 : Int → Option (Bool)) (f_482_k : FuncId) (f_482_cs : List PV) (f_482_h : ∀ (y_483 : Int) (r_484 : Bool), f_482 y_483 = some r_484 → Con Tryz.prog f_482_k ((.int .i64 y_483) :: f_482_cs) (.bool r_484)) (r_487 : Bool) (h : slices_ContainsFunc_int s_481 f_482 = some r_487) : Con Tryz.prog 31 [(.slc (List.map (PV.int .i64) s_481)), .func (.func f_482_k) f_482_cs] (.bool r_487) := by
  refine ⟨Tryz.call31, ?_⟩
  refine pure_of_awp Tryz.func31 rfl Tryz.ntmps31 (by simp) fun X w => ?_
  show AWp _ _ _ ⟨[(0, .p (.slc (List.map (PV.int .i64) s_481))), (1, .p (.func (.func f_482_k) f_482_cs))], []⟩
  simp only [slices_ContainsFunc_int] at h
  refine awp_seq ?_
  refine awp_region ?_
  refine AL_upto (by exact rfl) (by simp only [go_sem, seval]; exact rfl) ?_
  refine AL_nil ?_
  refine thenA_n ?_
  refine awp_seq ?_
  refine awp_region ?_
  refine AL_upto (by exact rfl) (by simp only [go_sem, seval]; exact rfl) ?_
  obtain ⟨r_485, hr_486, h⟩ := Option.bind_eq_some_iff.1 h
  refine AL_con' rfl (guard_none rfl) rfl (by simp only [go_sem, seval]; exact rfl) (by simp only [go_sem, seval]; all_goals ((repeat' refine And.intro ?_ ?_) <;> first | rfl | (simp; done) | (simp; rfl) | (simp [*]; done) | (simp [*]; rfl))) (slices_IndexFunc_int_con s_481 f_482 f_482_k f_482_cs f_482_h _ hr_486) (.inr rfl) rfl ?_
  refine AL_upto (by exact rfl) (by simp only [go_sem, seval]; exact rfl) ?_
  refine AL_nil ?_
  refine thenA_n ?_
  refine awp_ret ?_
  cases h
  refine retQ_ret (by simp only [Tryz.results31]; simp only [go_sem, seval]; exact rfl) ?_
  simp only [go_sem, seval]
  all_goals ((repeat' refine And.intro ?_ ?_) <;> first | rfl | (simp; done) | (simp; rfl) | (simp [*]; done) | (simp [*]; rfl))
end Go.Proofs.YtdmddoljldjjeaaGreat
set_option linter.unusedVariables false
set_option linter.unusedSimpArgs false
namespace Go.Proofs.YtdmddoljldjjeaaGreat
open Go Go.Ab
set_option maxHeartbeats 4000000 in
theorem survivor_Merge_1_con (r_488 : Int) (r_491 : Bool) (h : survivor_Merge_1 r_488 = some r_491) : Con Tryz.prog 66 [(.int .i64 r_488)] (.bool r_491) := by
  refine ⟨Tryz.call66, ?_⟩
  refine pure_of_awp Tryz.func66 rfl Tryz.ntmps66 (by simp) fun X w => ?_
  show AWp _ _ _ ⟨[(0, .p (.int .i64 r_488))], []⟩
  simp only [survivor_Merge_1] at h
  refine awp_seq ?_
  refine awp_region ?_
  refine AL_upto (by exact rfl) (by simp only [go_sem, seval]; exact rfl) ?_
  refine AL_nil ?_
  refine thenA_n ?_
  refine awp_seq ?_
  refine awp_region ?_
  refine AL_upto (by exact rfl) (by simp only [go_sem, seval]; exact rfl) ?_
  obtain ⟨r_489, hr_490, h⟩ := Option.bind_eq_some_iff.1 h
  refine AL_con' rfl (guard_none rfl) rfl (by simp only [go_sem, seval]; exact rfl) (by simp only [go_sem, seval]; all_goals ((repeat' refine And.intro ?_ ?_) <;> first | rfl | (simp; done) | (simp; rfl) | (simp [*]; done) | (simp [*]; rfl))) (survivor_validRule_con r_488 _ hr_490) (.inr rfl) rfl ?_
  refine AL_upto (by exact rfl) (by simp only [go_sem, seval]; exact rfl) ?_
  refine AL_nil ?_
  refine thenA_n ?_
  refine awp_ret ?_
  cases h
  refine retQ_ret (by simp only [Tryz.results66]; simp only [go_sem, seval]; exact rfl) ?_
  simp only [go_sem, seval]
  all_goals ((repeat' refine And.intro ?_ ?_) <;> first | rfl | (simp; done) | (simp; rfl) | (simp [*]; done) | (simp [*]; rfl))
end Go.Proofs.YtdmddoljldjjeaaGreat
set_option linter.unusedVariables false
set_option linter.unusedSimpArgs false
namespace Go.Proofs.YtdmddoljldjjeaaGreat
open Go Go.Ab
set_option maxHeartbeats 4000000 in
theorem survivor_Merge_con (rows_492 : List Row) (rules_493 : List Int) (r_558 : Row × List Int × Int) (h : survivor_Merge rows_492 rules_493 = some r_558) : Con Tryz.prog 28 [(.slc (List.map encRow rows_492)), (.slc (List.map (PV.int .i64) rules_493))] (.tup [(encRow r_558.1), (.slc (List.map (PV.int .i64) r_558.2.1)), (.int .i64 r_558.2.2)]) := by
  refine ⟨Tryz.call28, ?_⟩
  refine pure_of_awp Tryz.func28 rfl Tryz.ntmps28 (by simp) fun X w => ?_
  show AWp _ _ _ ⟨[(0, .p (.slc (List.map encRow rows_492))), (1, .p (.slc (List.map (PV.int .i64) rules_493)))], []⟩
  simp only [survivor_Merge] at h
  refine awp_seq ?_
  refine awp_region ?_
  refine AL_upto (by exact rfl) (by simp only [go_sem, seval]; exact rfl) ?_
  refine AL_nil ?_
  refine thenA_n ?_
  refine awp_seq ?_
  refine awp_seq ?_
  refine awp_region ?_
  refine AL_upto (by exact rfl) (by simp only [go_sem, seval]; exact rfl) ?_
  obtain ⟨r_496, hr_497, h⟩ := Option.bind_eq_some_iff.1 h
  refine AL_con' rfl (guard_none rfl) rfl (by simp only [go_sem, seval]; exact rfl) (by simp only [go_sem, seval]; all_goals ((repeat' refine And.intro ?_ ?_) <;> first | rfl | (simp; done) | (simp; rfl) | (simp [*]; done) | (simp [*]; rfl))) (survivor_checkRows_con rows_492 _ hr_497) (.inr rfl) rfl ?_
  refine AL_upto (by exact rfl) (by simp only [go_sem, seval]; exact rfl) ?_
  refine AL_nil ?_
  refine thenA_n ?_
  refine awp_seq ?_
  refine awp_region ?_
  refine AL_upto (by exact rfl) (by simp only [go_sem, seval]; exact rfl) ?_
  refine AL_nil ?_
  refine thenA_n ?_
  by_cases hb_498 : (r_496 != 0) = true
  · rw [if_pos hb_498] at h
    refine awp_ct (by simp only [go_sem, seval, hb_498]) ?_
    refine awp_seq ?_
    refine awp_region ?_
    refine AL_upto (by exact rfl) (by simp only [go_sem, seval, hb_498]; exact rfl) ?_
    refine AL_nil ?_
    refine thenA_n ?_
    refine awp_ret ?_
    refine thenA_ret ?_
    cases h
    refine retQ_ret (by simp only [Tryz.results28]; simp only [go_sem, seval, hb_498]; exact rfl) ?_
    simp only [go_sem, seval, hb_498]
    all_goals ((repeat' refine And.intro ?_ ?_) <;> first | rfl | (simp; done) | (simp; rfl) | (simp [*]; done) | (simp [*]; rfl))
  · rw [if_neg hb_498] at h
    have hb_498F := Bool.eq_false_iff.2 hb_498
    refine awp_cf (by simp only [go_sem, seval, hb_498F]) ?_
    refine awp_skip ?_
    refine thenA_n ?_
    refine awp_seq ?_
    refine awp_seq ?_
    refine awp_region ?_
    obtain ⟨x_499, hx_500, h⟩ := Option.bind_eq_some_iff.1 h
    have hx_500l := eq_true (lt_of_get hx_500)
    have hx_500L : ((0 : Int) < (rows_492.length : Int)) = True := eq_true (by have := lt_of_get hx_500; omega)
    refine AL_upto (by exact rfl) (by simp only [go_sem, seval, hb_498F, hx_500, hx_500l, hx_500L]; exact rfl) ?_
    refine AL_nil ?_
    refine thenA_n ?_
    by_cases hb_501 : ((rules_493.length : Int) != (x_499.Values.length : Int)) = true
    · rw [if_pos hb_501] at h
      refine awp_ct (by simp only [go_sem, seval, hb_498F, hb_501]) ?_
      refine awp_seq ?_
      refine awp_region ?_
      refine AL_upto (by exact rfl) (by simp only [go_sem, seval, hb_498F, hb_501]; exact rfl) ?_
      refine AL_nil ?_
      refine thenA_n ?_
      refine awp_ret ?_
      refine thenA_ret ?_
      cases h
      refine retQ_ret (by simp only [Tryz.results28]; simp only [go_sem, seval, hb_498F, hb_501]; exact rfl) ?_
      simp only [go_sem, seval, hb_498F, hb_501]
      all_goals ((repeat' refine And.intro ?_ ?_) <;> first | rfl | (simp; done) | (simp; rfl) | (simp [*]; done) | (simp [*]; rfl))
    · rw [if_neg hb_501] at h
      have hb_501F := Bool.eq_false_iff.2 hb_501
      refine awp_cf (by simp only [go_sem, seval, hb_498F, hb_501F]) ?_
      refine awp_skip ?_
      refine thenA_n ?_
      refine awp_seq ?_
      refine awp_seq ?_
      refine awp_region ?_
      refine AL_upto (by exact rfl) (by simp only [go_sem, seval, hb_498F, hb_501F]; exact rfl) ?_
      obtain ⟨r_504, hr_505, h⟩ := Option.bind_eq_some_iff.1 h
      refine AL_con' rfl (guard_none rfl) rfl (by simp only [go_sem, seval, hb_498F, hb_501F]; exact rfl) (by simp only [go_sem, seval, hb_498F, hb_501F]; all_goals ((repeat' refine And.intro ?_ ?_) <;> first | rfl | (simp; done) | (simp; rfl) | (simp [*]; done) | (simp [*]; rfl))) (survivor_checkValues_con rows_492 _ hr_505) (.inr rfl) rfl ?_
      refine AL_upto (by exact rfl) (by simp only [go_sem, seval, hb_498F, hb_501F]; exact rfl) ?_
      refine AL_nil ?_
      refine thenA_n ?_
      refine awp_seq ?_
      refine awp_region ?_
      refine AL_upto (by exact rfl) (by simp only [go_sem, seval, hb_498F, hb_501F]; exact rfl) ?_
      refine AL_nil ?_
      refine thenA_n ?_
      by_cases hb_506 : (r_504 != 0) = true
      · rw [if_pos hb_506] at h
        refine awp_ct (by simp only [go_sem, seval, hb_498F, hb_501F, hb_506]) ?_
        refine awp_seq ?_
        refine awp_region ?_
        refine AL_upto (by exact rfl) (by simp only [go_sem, seval, hb_498F, hb_501F, hb_506]; exact rfl) ?_
        refine AL_nil ?_
        refine thenA_n ?_
        refine awp_ret ?_
        refine thenA_ret ?_
        cases h
        refine retQ_ret (by simp only [Tryz.results28]; simp only [go_sem, seval, hb_498F, hb_501F, hb_506]; exact rfl) ?_
        simp only [go_sem, seval, hb_498F, hb_501F, hb_506]
        all_goals ((repeat' refine And.intro ?_ ?_) <;> first | rfl | (simp; done) | (simp; rfl) | (simp [*]; done) | (simp [*]; rfl))
      · rw [if_neg hb_506] at h
        have hb_506F := Bool.eq_false_iff.2 hb_506
        refine awp_cf (by simp only [go_sem, seval, hb_498F, hb_501F, hb_506F]) ?_
        refine awp_skip ?_
        refine thenA_n ?_
        refine awp_seq ?_
        refine awp_seq ?_
        refine awp_region ?_
        refine AL_upto (by exact rfl) (by simp only [go_sem, seval, hb_498F, hb_501F, hb_506F]; exact rfl) ?_
        obtain ⟨r_508, hr_509, h⟩ := Option.bind_eq_some_iff.1 h
        refine AL_con' rfl (guard_none rfl) rfl (by simp only [go_sem, seval, hb_498F, hb_501F, hb_506F]; exact rfl) (by simp only [go_sem, seval, hb_498F, hb_501F, hb_506F]; all_goals ((repeat' refine And.intro ?_ ?_) <;> first | rfl | (simp; done) | (simp; rfl) | (simp [*]; done) | (simp [*]; rfl))) (slices_ContainsFunc_int_con rules_493 (fun (y_507 : Int) => survivor_Merge_1 y_507) 66 [] (fun y_507 r h => survivor_Merge_1_con y_507 r h) _ hr_509) (.inr rfl) rfl ?_
        refine AL_nil ?_
        refine thenA_n ?_
        by_cases hb_510 : r_508 = true
        · rw [if_pos hb_510] at h
          refine awp_ct (by simp only [go_sem, seval, hb_498F, hb_501F, hb_506F, hb_510]) ?_
          refine awp_seq ?_
          refine awp_region ?_
          refine AL_upto (by exact rfl) (by simp only [go_sem, seval, hb_498F, hb_501F, hb_506F, hb_510]; exact rfl) ?_
          refine AL_nil ?_
          refine thenA_n ?_
          refine awp_ret ?_
          refine thenA_ret ?_
          cases h
          refine retQ_ret (by simp only [Tryz.results28]; simp only [go_sem, seval, hb_498F, hb_501F, hb_506F, hb_510]; exact rfl) ?_
          simp only [go_sem, seval, hb_498F, hb_501F, hb_506F, hb_510]
          all_goals ((repeat' refine And.intro ?_ ?_) <;> first | rfl | (simp; done) | (simp; rfl) | (simp [*]; done) | (simp [*]; rfl))
        · rw [if_neg hb_510] at h
          have hb_510F := Bool.eq_false_iff.2 hb_510
          refine awp_cf (by simp only [go_sem, seval, hb_498F, hb_501F, hb_506F, hb_510F]) ?_
          refine awp_skip ?_
          refine thenA_n ?_
          refine awp_seq ?_
          refine awp_region ?_
          refine AL_upto (by exact rfl) (by simp only [go_sem, seval, hb_498F, hb_501F, hb_506F, hb_510F, hx_500, hx_500l, hx_500L]; exact rfl) ?_
          refine AL_nil ?_
          refine thenA_n ?_
          refine awp_seq ?_
          refine awp_region ?_
          refine AL_upto (by exact rfl) (by simp only [go_sem, seval, hb_498F, hb_501F, hb_506F, hb_510F]; exact rfl) ?_
          refine AL_nil ?_
          refine thenA_n ?_
          refine awp_seq ?_
          refine awp_seq ?_
          refine awp_region ?_
          refine AL_upto (by exact rfl) (by simp only [go_sem, seval, hb_498F, hb_501F, hb_506F, hb_510F]; exact rfl) ?_
          refine AL_nil ?_
          refine thenA_n ?_
          refine awp_block ?_
          obtain ⟨o_555, hL_556, h⟩ := Option.bind_eq_some_iff.1 h
          refine awp_loop_L (fun (s : List Value × List Int × Int) => ⟨[(0, .p (.slc (List.map encRow rows_492))), (4, .loc 4 1 0 0), (9, .loc 9 1 0 0), (10, .own 67 1 0 s.2.1.length), (44, .p (.slc (List.map (PV.int .i64) rules_493))), (45, .p (.int .i64 (rules_493.length : Int))), (46, .p (.int .i64 s.2.2))], [(4, .arr 56 2 1 [.agg [.p (.int .i64 0), .nils]]), (9, .arr 56 2 1 [.agg [.p (.int .i64 x_499.ID), .own 62 1 0 s.1.length]]), (62, .arr 64 3 1 (List.map AV.p (List.map encValue s.1))), (67, .arr 2 1 1 (List.map AV.p (List.map (PV.int .i64) s.2.1)))]⟩) (fun (o_557 : List Value × List Int) (e : Exit) (s' : St) => e = (.exit 0) ∧ Le ⟨Tryz.prog, Tryz.f28.ntmps, 0, X, [], fun _ => none, w⟩ s' ⟨[(4, .loc 4 1 0 0), (9, .loc 9 1 0 0), (10, .own 67 1 0 o_557.2.length)], [(4, .arr 56 2 1 [.agg [.p (.int .i64 0), .nils]]), (9, .arr 56 2 1 [.agg [.p (.int .i64 x_499.ID), .own 62 1 0 o_557.1.length]]), (62, .arr 64 3 1 (List.map AV.p (List.map encValue o_557.1))), (67, .arr 2 1 1 (List.map AV.p (List.map (PV.int .i64) o_557.2)))]⟩) (by intro o s hT; have hh := hT.1; cases hh) hL_556 (by simp only [go_sem, seval, hb_498F, hb_501F, hb_506F, hb_510F]; all_goals ((repeat' refine And.intro ?_ ?_) <;> first | rfl | (simp; done) | (simp; rfl) | (simp [*]; done) | (simp [*]; rfl))) ?_ ?_
          · clear h
            intro s x h
            obtain ⟨out_524, origins_525, t46_526⟩ := s
            simp only [survivor_Merge_l1] at h
            show AWp _ _ _ ⟨[(0, .p (.slc (List.map encRow rows_492))), (4, .loc 4 1 0 0), (9, .loc 9 1 0 0), (10, .own 67 1 0 origins_525.length), (44, .p (.slc (List.map (PV.int .i64) rules_493))), (45, .p (.int .i64 (rules_493.length : Int))), (46, .p (.int .i64 t46_526))], [(4, .arr 56 2 1 [.agg [.p (.int .i64 0), .nils]]), (9, .arr 56 2 1 [.agg [.p (.int .i64 x_499.ID), .own 62 1 0 out_524.length]]), (62, .arr 64 3 1 (List.map AV.p (List.map encValue out_524))), (67, .arr 2 1 1 (List.map AV.p (List.map (PV.int .i64) origins_525)))]⟩
            refine awp_seq ?_
            refine awp_region ?_
            refine AL_upto (by exact rfl) (by simp only [go_sem, seval]; exact rfl) ?_
            refine AL_nil ?_
            refine thenA_n ?_
            refine awp_seq ?_
            by_cases hb_543 : t46_526 < (rules_493.length : Int)
            · rw [if_pos hb_543] at h
              have hb_543T := eq_true hb_543
              refine awp_ct (by simp only [go_sem, seval, hb_543T]) ?_
              refine awp_skip ?_
              refine thenA_n ?_
              refine awp_seq ?_
              refine awp_block ?_
              refine awp_seq ?_
              refine awp_region ?_
              obtain ⟨x_546, hx_547, h⟩ := Option.bind_eq_some_iff.1 h
              obtain ⟨hx_547a, hx_547, hx_547b⟩ := idx_some hx_547
              have hx_547A := eq_true hx_547a
              have hx_547B := eq_true hx_547b
              refine AL_upto (by exact rfl) (by simp only [go_sem, seval, hb_543T, hx_547, hx_547A, hx_547B]; exact rfl) ?_
              refine AL_nil ?_
              refine thenA_n ?_
              refine awp_seq ?_
              refine awp_region ?_
              refine AL_upto (by exact rfl) (by simp only [go_sem, seval, hb_543T]; exact rfl) ?_
              obtain ⟨r_550, hr_551, h⟩ := Option.bind_eq_some_iff.1 h
              refine AL_con' rfl (guard_none rfl) rfl (by simp only [go_sem, seval, hb_543T]; exact rfl) (by simp only [go_sem, seval, hb_543T]; all_goals ((repeat' refine And.intro ?_ ?_) <;> first | rfl | (simp; done) | (simp; rfl) | (simp [*]; done) | (simp [*]; rfl))) (survivor_choose_con rows_492 t46_526 x_546 _ hr_551) (.inr rfl) rfl ?_
              refine AL_upto (by exact rfl) (by simp only [go_sem, seval, hb_543T]; exact rfl) ?_
              refine AL_nil ?_
              refine thenA_n ?_
              refine awp_seq ?_
              refine awp_region ?_
              obtain ⟨hc_553, h⟩ := ite_some h
              refine AL_upto (by exact rfl) (by simp only [go_sem, seval, hb_543T, hc_553]; exact rfl) ?_
              refine AL_nil ?_
              refine thenA_n ?_
              refine awp_region ?_
              obtain ⟨hc_554, h⟩ := ite_some h
              refine AL_upto (by exact rfl) (by simp only [go_sem, seval, hb_543T, hc_554]; exact rfl) ?_
              refine AL_nil ?_
              refine blockA_n ?_
              refine thenA_n ?_
              refine awp_region ?_
              refine AL_upto (by exact rfl) (by simp only [go_sem, seval, hb_543T]; exact rfl) ?_
              refine AL_nil ?_
              cases h
              refine ⟨rfl, ?_⟩
              simp only [go_sem, seval, hb_543T]
              all_goals ((repeat' refine And.intro ?_ ?_) <;> first | rfl | (simp; done) | (simp; rfl) | (simp [*]; done) | (simp [*]; rfl))
            · rw [if_neg hb_543] at h
              have hb_543T := eq_false hb_543
              refine awp_cf (by simp only [go_sem, seval, hb_543T]) ?_
              refine awp_exit ?_
              refine thenA_exit ?_
              cases h
              refine ⟨rfl, ?_⟩
              simp only [go_sem, seval, hb_543T]
              all_goals ((repeat' refine And.intro ?_ ?_) <;> first | rfl | (simp; done) | (simp; rfl) | (simp [*]; done) | (simp [*]; rfl))
          · intro e s' hT
            obtain ⟨out_540, origins_541⟩ := o_555
            try simp only at h
            try simp only at hT
            obtain ⟨rfl, hle⟩ := hT
            refine Wk.to hle ?_
            clear hle
            refine blockA_here ?_
            refine thenA_n ?_
            refine awp_seq ?_
            refine awp_region ?_
            refine AL_upto (by exact rfl) (by simp only [go_sem, seval, hb_498F, hb_501F, hb_506F, hb_510F]; exact rfl) ?_
            refine AL_nil ?_
            refine thenA_n ?_
            refine awp_ret ?_
            cases h
            refine retQ_ret (by simp only [Tryz.results28]; simp only [go_sem, seval, hb_498F, hb_501F, hb_506F, hb_510F]; exact rfl) ?_
            simp only [go_sem, seval, hb_498F, hb_501F, hb_506F, hb_510F]
            all_goals ((repeat' refine And.intro ?_ ?_) <;> first | rfl | (simp; done) | (simp; rfl) | (simp [*]; done) | (simp [*]; rfl))
end Go.Proofs.YtdmddoljldjjeaaGreat
set_option linter.unusedVariables false
set_option linter.unusedSimpArgs false
namespace Go.Proofs.YtdmddoljldjjeaaGreat
open Go Go.Ab
set_option maxHeartbeats 4000000 in
theorem drossref03_IDs_con (a_559 : List Int) (b_560 : List Int) (r_586 : Bool) (h : drossref03_IDs a_559 b_560 = some r_586) : Con Tryz.prog 29 [(.slc (List.map (PV.int .i64) a_559)), (.slc (List.map (PV.int .i64) b_560))] (.bool r_586) := by
  refine ⟨Tryz.call29, ?_⟩
  refine pure_of_awp Tryz.func29 rfl Tryz.ntmps29 (by simp) fun X w => ?_
  show AWp _ _ _ ⟨[(0, .p (.slc (List.map (PV.int .i64) a_559))), (1, .p (.slc (List.map (PV.int .i64) b_560)))], []⟩
  simp only [drossref03_IDs] at h
  refine awp_seq ?_
  refine awp_region ?_
  refine AL_upto (by exact rfl) (by simp only [go_sem, seval]; exact rfl) ?_
  refine AL_nil ?_
  refine thenA_n ?_
  refine awp_seq ?_
  refine awp_seq ?_
  refine awp_region ?_
  refine AL_upto (by exact rfl) (by simp only [go_sem, seval]; exact rfl) ?_
  refine AL_nil ?_
  refine thenA_n ?_
  by_cases hb_561 : ((a_559.length : Int) != (b_560.length : Int)) = true
  · rw [if_pos hb_561] at h
    refine awp_ct (by simp only [go_sem, seval, hb_561]) ?_
    refine awp_seq ?_
    refine awp_region ?_
    refine AL_upto (by exact rfl) (by simp only [go_sem, seval, hb_561]; exact rfl) ?_
    refine AL_nil ?_
    refine thenA_n ?_
    refine awp_ret ?_
    refine thenA_ret ?_
    cases h
    refine retQ_ret (by simp only [Tryz.results29]; simp only [go_sem, seval, hb_561]; exact rfl) ?_
    simp only [go_sem, seval, hb_561]
    all_goals ((repeat' refine And.intro ?_ ?_) <;> first | rfl | (simp; done) | (simp; rfl) | (simp [*]; done) | (simp [*]; rfl))
  · rw [if_neg hb_561] at h
    have hb_561F := Bool.eq_false_iff.2 hb_561
    refine awp_cf (by simp only [go_sem, seval, hb_561F]) ?_
    refine awp_skip ?_
    refine thenA_n ?_
    refine awp_seq ?_
    refine awp_seq ?_
    refine awp_region ?_
    refine AL_upto (by exact rfl) (by simp only [go_sem, seval, hb_561F]; exact rfl) ?_
    refine AL_nil ?_
    refine thenA_n ?_
    refine awp_block ?_
    obtain ⟨o_581, hL_582, h⟩ := Option.bind_eq_some_iff.1 h
    refine awp_loop_L (fun (s : Int) => ⟨[(0, .p (.slc (List.map (PV.int .i64) a_559))), (1, .p (.slc (List.map (PV.int .i64) b_560))), (5, .p (.int .i64 s))], []⟩) (fun (o : (Unit) ⊕ (Bool)) (e : Exit) (s' : St) => match o with | .inl o_584 => e = (.exit 0) ∧ Le ⟨Tryz.prog, Tryz.f29.ntmps, 0, X, [], fun _ => none, w⟩ s' ⟨[], []⟩ | .inr o_585 => e = .ret ∧ retQ Tryz.prog Tryz.f29 (.bool o_585) .ret s') (by intro o s hT; rcases o with _ | _ <;> (have hh := hT.1; cases hh)) hL_582 (by simp only [go_sem, seval, hb_561F]; all_goals ((repeat' refine And.intro ?_ ?_) <;> first | rfl | (simp; done) | (simp; rfl) | (simp [*]; done) | (simp [*]; rfl))) ?_ ?_
    · clear h
      intro i_568 x h
      simp only [drossref03_IDs_l1] at h
      show AWp _ _ _ ⟨[(0, .p (.slc (List.map (PV.int .i64) a_559))), (1, .p (.slc (List.map (PV.int .i64) b_560))), (5, .p (.int .i64 i_568))], []⟩
      refine awp_seq ?_
      refine awp_seq ?_
      refine awp_region ?_
      refine AL_upto (by exact rfl) (by simp only [go_sem, seval]; exact rfl) ?_
      refine AL_nil ?_
      refine thenA_n ?_
      by_cases hb_575 : i_568 < (a_559.length : Int)
      · rw [if_pos hb_575] at h
        have hb_575T := eq_true hb_575
        refine awp_ct (by simp only [go_sem, seval, hb_575T]) ?_
        refine awp_skip ?_
        refine thenA_n ?_
        refine awp_seq ?_
        refine awp_block ?_
        refine awp_seq ?_
        refine awp_drawn_walk mixed (by decide) ?_
        obtain ⟨x_576, hx_577, h⟩ := Option.bind_eq_some_iff.1 h
        obtain ⟨hx_577a, hx_577, hx_577b⟩ := idx_some hx_577
        have hx_577A := eq_true hx_577a
        have hx_577B := eq_true hx_577b
        obtain ⟨x_578, hx_579, h⟩ := Option.bind_eq_some_iff.1 h
        obtain ⟨hx_579a, hx_579, hx_579b⟩ := idx_some hx_579
        have hx_579A := eq_true hx_579a
        have hx_579B := eq_true hx_579b
        refine DGo.upto (by exact rfl) (by simp only [go_sem, seval, hb_575T, hx_577, hx_577A, hx_577B, hx_579, hx_579A, hx_579B]; first | exact ⟨rfl, rfl⟩ | exact rfl) ?_
        refine DGo.fin rfl ?_
        refine thenA_n ?_
        by_cases hb_580 : (x_576 != x_578) = true
        · rw [if_pos hb_580] at h
          refine awp_ct (by simp only [go_sem, seval, hb_575T, hb_580]) ?_
          refine awp_seq ?_
          refine awp_region ?_
          refine AL_upto (by exact rfl) (by simp only [go_sem, seval, hb_575T, hb_580]; exact rfl) ?_
          refine AL_nil ?_
          refine thenA_n ?_
          refine awp_ret ?_
          refine blockA_ret ?_
          refine thenA_ret ?_
          cases h
          refine ⟨rfl, ?_⟩
          refine retQ_ret (by simp only [Tryz.results29]; simp only [go_sem, seval, hb_575T, hb_580]; exact rfl) ?_
          simp only [go_sem, seval, hb_575T, hb_580]
          all_goals ((repeat' refine And.intro ?_ ?_) <;> first | rfl | (simp; done) | (simp; rfl) | (simp [*]; done) | (simp [*]; rfl))
        · rw [if_neg hb_580] at h
          have hb_580F := Bool.eq_false_iff.2 hb_580
          refine awp_cf (by simp only [go_sem, seval, hb_575T, hb_580F]) ?_
          refine awp_skip ?_
          refine blockA_n ?_
          refine thenA_n ?_
          refine awp_region ?_
          refine AL_upto (by exact rfl) (by simp only [go_sem, seval, hb_575T, hb_580F]; exact rfl) ?_
          refine AL_nil ?_
          cases h
          refine ⟨rfl, ?_⟩
          simp only [go_sem, seval, hb_575T, hb_580F]
          all_goals ((repeat' refine And.intro ?_ ?_) <;> first | rfl | (simp; done) | (simp; rfl) | (simp [*]; done) | (simp [*]; rfl))
      · rw [if_neg hb_575] at h
        have hb_575T := eq_false hb_575
        refine awp_cf (by simp only [go_sem, seval, hb_575T]) ?_
        refine awp_exit ?_
        refine thenA_exit ?_
        cases h
        refine ⟨rfl, ?_⟩
        simp only [go_sem, seval, hb_575T]
        all_goals ((repeat' refine And.intro ?_ ?_) <;> first | rfl | (simp; done) | (simp; rfl) | (simp [*]; done) | (simp [*]; rfl))
    · intro e s' hT
      rcases o_581 with ⟨⟩ | r_583
      · try simp only at h
        try simp only at hT
        obtain ⟨rfl, hle⟩ := hT
        refine Wk.to hle ?_
        clear hle
        refine blockA_here ?_
        refine thenA_n ?_
        refine awp_seq ?_
        refine awp_region ?_
        refine AL_upto (by exact rfl) (by simp only [go_sem, seval, hb_561F]; exact rfl) ?_
        refine AL_nil ?_
        refine thenA_n ?_
        refine awp_ret ?_
        cases h
        refine retQ_ret (by simp only [Tryz.results29]; simp only [go_sem, seval, hb_561F]; exact rfl) ?_
        simp only [go_sem, seval, hb_561F]
        all_goals ((repeat' refine And.intro ?_ ?_) <;> first | rfl | (simp; done) | (simp; rfl) | (simp [*]; done) | (simp [*]; rfl))
      · try simp only at h
        try simp only at hT
        obtain ⟨rfl, hq⟩ := hT
        refine Wk.now ?_
        refine blockA_ret ?_
        refine thenA_ret ?_
        cases h
        exact hq
end Go.Proofs.YtdmddoljldjjeaaGreat
set_option linter.unusedVariables false
set_option linter.unusedSimpArgs false
namespace Go.Proofs.YtdmddoljldjjeaaGreat
open Go Go.Ab
set_option maxHeartbeats 4000000 in
theorem drosslaw55_awake_con  (r_620 : Bool) (h : drosslaw55_awake = some r_620) : Con Tryz.prog 8 [] (.bool r_620) := by
  refine ⟨Tryz.call8, ?_⟩
  refine pure_of_awp Tryz.func8 rfl Tryz.ntmps8 (by simp) fun X w => ?_
  show AWp _ _ _ ⟨[], []⟩
  simp only [drosslaw55_awake] at h
  refine awp_seq ?_
  refine awp_region ?_
  refine AL_upto (by exact rfl) (by simp only [go_sem, seval]; exact rfl) ?_
  refine AL_nil ?_
  refine thenA_n ?_
  refine awp_seq ?_
  refine awp_region ?_
  obtain ⟨r_591, hr_592, h⟩ := Option.bind_eq_some_iff.1 h
  refine AL_con' rfl (guard_none rfl) rfl (by simp only [go_sem, seval]; exact rfl) (by simp only [go_sem, seval]; all_goals ((repeat' refine And.intro ?_ ?_) <;> first | rfl | (simp; done) | (simp; rfl) | (simp [*]; done) | (simp [*]; rfl))) (drosslaw55_example_con  _ hr_592) (by first | exact .inl rfl | exact .inl (by simp only [go_sem])) rfl ?_
  obtain ⟨r_593, hr_594, h⟩ := Option.bind_eq_some_iff.1 h
  refine AL_con' rfl (guard_none rfl) rfl (by simp only [go_sem, seval]; exact rfl) (by simp only [go_sem, seval]; all_goals ((repeat' refine And.intro ?_ ?_) <;> first | rfl | (simp; done) | (simp; rfl) | (simp [*]; done) | (simp [*]; rfl))) (survivor_Choose_con r_591 0 3 _ hr_594) (.inr rfl) rfl ?_
  refine AL_upto (by exact rfl) (by simp only [go_sem, seval]; exact rfl) ?_
  refine AL_nil ?_
  refine thenA_n ?_
  refine awp_seq ?_
  refine awp_region ?_
  obtain ⟨r_599, hr_600, h⟩ := Option.bind_eq_some_iff.1 h
  refine AL_con' rfl (guard_none rfl) rfl (by simp only [go_sem, seval]; exact rfl) (by simp only [go_sem, seval]; all_goals ((repeat' refine And.intro ?_ ?_) <;> first | rfl | (simp; done) | (simp; rfl) | (simp [*]; done) | (simp [*]; rfl))) (drosslaw55_example_con  _ hr_600) (by first | exact .inl rfl | exact .inl (by simp only [go_sem])) rfl ?_
  refine AL_upto (by exact rfl) (by simp only [go_sem, seval]; exact rfl) ?_
  refine AL_le (st' := ⟨[(1, .loc 1 1 0 0), (2, .p (.int .i64 r_593.2.1)), (3, .p (.int .i64 r_593.2.2)), (14, .p (.slc (List.map encRow r_599))), (15, .p (.slc (List.map (PV.int .i64) [2, 1])))], [(1, .arr 64 3 1 [.p (encValue r_593.1)])]⟩) (by simp only [go_sem, seval]; all_goals ((repeat' refine And.intro ?_ ?_) <;> first | rfl | (simp; done) | (simp; rfl) | (simp [*]; done) | (simp [*]; rfl))) ?_
  obtain ⟨r_601, hr_602, h⟩ := Option.bind_eq_some_iff.1 h
  refine AL_con' rfl (guard_none rfl) rfl (by simp only [go_sem, seval]; exact rfl) (by simp only [go_sem, seval]; all_goals ((repeat' refine And.intro ?_ ?_) <;> first | rfl | (simp; done) | (simp; rfl) | (simp [*]; done) | (simp [*]; rfl))) (survivor_Merge_con r_599 [2, 1] _ hr_602) (by first | exact .inl rfl | exact .inl (by simp only [go_sem])) rfl ?_
  refine AL_upto (by exact rfl) (by simp only [go_sem, seval]; exact rfl) ?_
  refine AL_nil ?_
  refine thenA_n ?_
  refine awp_seq ?_
  refine awp_region ?_
  refine AL_upto (by exact rfl) (by simp only [go_sem, seval]; exact rfl) ?_
  by_cases hb_603 : (r_593.2.2 == 0) = true
  · rw [if_pos hb_603] at h
    refine AL_known (d := 22) (v := .p (.bool true)) (by simp only [go_sem, seval, hb_603]) ?_
    refine AL_gt' (guard_true' rfl rfl (by exact rfl) (by exact rfl)) rfl (by simp only [go_sem, seval, hb_603]; exact rfl) ?_
    refine AL_gt' (guard_true' rfl rfl (by exact rfl) (by exact rfl)) rfl (by simp only [go_sem, seval, hb_603]; exact rfl) ?_
    refine AL_upto (by exact rfl) (by simp only [go_sem, seval, hb_603]; exact rfl) ?_
    by_cases hb_604 : (r_601.2.2 == 0) = true
    · rw [if_pos hb_604] at h
      refine AL_known (d := 26) (v := .p (.bool true)) (by simp only [go_sem, seval, hb_603, hb_604]) ?_
      refine AL_gt' (guard_true' rfl rfl (by exact rfl) (by exact rfl)) rfl (by simp only [go_sem, seval, hb_603, hb_604]; exact rfl) ?_
      refine AL_gt' (guard_true' rfl rfl (by exact rfl) (by exact rfl)) rfl (by simp only [go_sem, seval, hb_603, hb_604]; exact rfl) ?_
      refine AL_gt' (guard_true' rfl rfl (by exact rfl) (by exact rfl)) rfl (by simp only [go_sem, seval, hb_603, hb_604]; exact rfl) ?_
      refine AL_upto (by exact rfl) (by simp only [go_sem, seval, hb_603, hb_604]; exact rfl) ?_
      by_cases hb_605 : (r_593.1.Str == [74, 111, 101]) = true
      · rw [if_pos hb_605] at h
        refine AL_known (d := 31) (v := .p (.bool true)) (by simp only [go_sem, seval, hb_603, hb_604, hb_605]) ?_
        refine AL_gt' (guard_true' rfl rfl (by exact rfl) (by exact rfl)) rfl (by simp only [go_sem, seval, hb_603, hb_604, hb_605]; exact rfl) ?_
        refine AL_gt' (guard_true' rfl rfl (by exact rfl) (by exact rfl)) rfl (by simp only [go_sem, seval, hb_603, hb_604, hb_605]; exact rfl) ?_
        refine AL_upto (by exact rfl) (by simp only [go_sem, seval, hb_603, hb_604, hb_605]; exact rfl) ?_
        by_cases hb_606 : (r_593.2.1 == 4) = true
        · rw [if_pos hb_606] at h
          refine AL_known (d := 35) (v := .p (.bool true)) (by simp only [go_sem, seval, hb_603, hb_604, hb_605, hb_606]) ?_
          refine AL_gt' (guard_true' rfl rfl (by exact rfl) (by exact rfl)) rfl (by simp only [go_sem, seval, hb_603, hb_604, hb_605, hb_606]; exact rfl) ?_
          refine AL_gt' (guard_true' rfl rfl (by exact rfl) (by exact rfl)) rfl (by simp only [go_sem, seval, hb_603, hb_604, hb_605, hb_606]; exact rfl) ?_
          refine AL_gt' (guard_true' rfl rfl (by exact rfl) (by exact rfl)) rfl (by simp only [go_sem, seval, hb_603, hb_604, hb_605, hb_606]; exact rfl) ?_
          refine AL_upto (by exact rfl) (by simp only [go_sem, seval, hb_603, hb_604, hb_605, hb_606]; exact rfl) ?_
          by_cases hb_607 : (r_601.1.ID == 3) = true
          · rw [if_pos hb_607] at h
            refine AL_known (d := 40) (v := .p (.bool true)) (by simp only [go_sem, seval, hb_603, hb_604, hb_605, hb_606, hb_607]) ?_
            refine AL_gt' (guard_true' rfl rfl (by exact rfl) (by exact rfl)) rfl (by simp only [go_sem, seval, hb_603, hb_604, hb_605, hb_606, hb_607]; exact rfl) ?_
            refine AL_gt' (guard_true' rfl rfl (by exact rfl) (by exact rfl)) rfl (by simp only [go_sem, seval, hb_603, hb_604, hb_605, hb_606, hb_607]; exact rfl) ?_
            obtain ⟨x_610, hx_611, h⟩ := Option.bind_eq_some_iff.1 h
            have hx_611l := eq_true (lt_of_get hx_611)
            have hx_611L : ((0 : Int) < (r_601.1.Values.length : Int)) = True := eq_true (by have := lt_of_get hx_611; omega)
            refine AL_gt' (guard_true' rfl rfl (by exact rfl) (by exact rfl)) rfl (by simp only [go_sem, seval, hb_603, hb_604, hb_605, hb_606, hb_607, hx_611, hx_611l, hx_611L]; exact rfl) ?_
            refine AL_gt' (guard_true' rfl rfl (by exact rfl) (by exact rfl)) rfl (by simp only [go_sem, seval, hb_603, hb_604, hb_605, hb_606, hb_607]; exact rfl) ?_
            refine AL_gt' (guard_true' rfl rfl (by exact rfl) (by exact rfl)) rfl (by simp only [go_sem, seval, hb_603, hb_604, hb_605, hb_606, hb_607]; exact rfl) ?_
            refine AL_gt' (guard_true' rfl rfl (by exact rfl) (by exact rfl)) rfl (by simp only [go_sem, seval, hb_603, hb_604, hb_605, hb_606, hb_607]; exact rfl) ?_
            refine AL_upto (by exact rfl) (by simp only [go_sem, seval, hb_603, hb_604, hb_605, hb_606, hb_607]; exact rfl) ?_
            by_cases hb_612 : (x_610.Str == [74, 111]) = true
            · rw [if_pos hb_612] at h
              refine AL_known (d := 48) (v := .p (.bool true)) (by simp only [go_sem, seval, hb_603, hb_604, hb_605, hb_606, hb_607, hb_612]) ?_
              refine AL_gt' (guard_true' rfl rfl (by exact rfl) (by exact rfl)) rfl (by simp only [go_sem, seval, hb_603, hb_604, hb_605, hb_606, hb_607, hb_612]; exact rfl) ?_
              refine AL_gt' (guard_true' rfl rfl (by exact rfl) (by exact rfl)) rfl (by simp only [go_sem, seval, hb_603, hb_604, hb_605, hb_606, hb_607, hb_612]; exact rfl) ?_
              obtain ⟨x_615, hx_616, h⟩ := Option.bind_eq_some_iff.1 h
              have hx_616l := eq_true (lt_of_get hx_616)
              have hx_616L : ((1 : Int) < (r_601.1.Values.length : Int)) = True := eq_true (by have := lt_of_get hx_616; omega)
              refine AL_gt' (guard_true' rfl rfl (by exact rfl) (by exact rfl)) rfl (by simp only [go_sem, seval, hb_603, hb_604, hb_605, hb_606, hb_607, hb_612, hx_616, hx_616l, hx_616L]; exact rfl) ?_
              refine AL_gt' (guard_true' rfl rfl (by exact rfl) (by exact rfl)) rfl (by simp only [go_sem, seval, hb_603, hb_604, hb_605, hb_606, hb_607, hb_612]; exact rfl) ?_
              refine AL_gt' (guard_true' rfl rfl (by exact rfl) (by exact rfl)) rfl (by simp only [go_sem, seval, hb_603, hb_604, hb_605, hb_606, hb_607, hb_612]; exact rfl) ?_
              refine AL_gt' (guard_true' rfl rfl (by exact rfl) (by exact rfl)) rfl (by simp only [go_sem, seval, hb_603, hb_604, hb_605, hb_606, hb_607, hb_612]; exact rfl) ?_
              refine AL_upto (by exact rfl) (by simp only [go_sem, seval, hb_603, hb_604, hb_605, hb_606, hb_607, hb_612]; exact rfl) ?_
              by_cases hb_617 : (x_615.Num == 7) = true
              · rw [if_pos hb_617] at h
                refine AL_known (d := 56) (v := .p (.bool true)) (by simp only [go_sem, seval, hb_603, hb_604, hb_605, hb_606, hb_607, hb_612, hb_617]) ?_
                refine AL_gt' (guard_true' rfl rfl (by exact rfl) (by exact rfl)) rfl (by simp only [go_sem, seval, hb_603, hb_604, hb_605, hb_606, hb_607, hb_612, hb_617]; exact rfl) ?_
                refine AL_gt' (guard_true' rfl rfl (by exact rfl) (by exact rfl)) rfl (by simp only [go_sem, seval, hb_603, hb_604, hb_605, hb_606, hb_607, hb_612, hb_617]; exact rfl) ?_
                obtain ⟨r_618, hr_619, h⟩ := Option.bind_eq_some_iff.1 h
                refine AL_con' rfl (guard_true' rfl rfl (by exact rfl) (by exact rfl)) rfl (by simp only [go_sem, seval, hb_603, hb_604, hb_605, hb_606, hb_607, hb_612, hb_617]; exact rfl) (by simp only [go_sem, seval, hb_603, hb_604, hb_605, hb_606, hb_607, hb_612, hb_617]; all_goals ((repeat' refine And.intro ?_ ?_) <;> first | rfl | (simp; done) | (simp; rfl) | (simp [*]; done) | (simp [*]; rfl))) (drossref03_IDs_con r_601.2.1 [3, 4] _ hr_619) (.inr rfl) rfl ?_
                refine AL_upto (by exact rfl) (by simp only [go_sem, seval, hb_603, hb_604, hb_605, hb_606, hb_607, hb_612, hb_617]; exact rfl) ?_
                refine AL_nil ?_
                refine thenA_n ?_
                refine awp_ret ?_
                cases h
                refine retQ_ret (by simp only [Tryz.results8]; simp only [go_sem, seval, hb_603, hb_604, hb_605, hb_606, hb_607, hb_612, hb_617]; exact rfl) ?_
                simp only [go_sem, seval, hb_603, hb_604, hb_605, hb_606, hb_607, hb_612, hb_617]
                all_goals ((repeat' refine And.intro ?_ ?_) <;> first | rfl | (simp; done) | (simp; rfl) | (simp [*]; done) | (simp [*]; rfl))
              · rw [if_neg hb_617] at h
                have hb_617F := Bool.eq_false_iff.2 hb_617
                refine AL_known (d := 56) (v := .p (.bool false)) (by simp only [go_sem, seval, hb_603, hb_604, hb_605, hb_606, hb_607, hb_612, hb_617F]) ?_
                refine AL_skips (by exact rfl) ?_
                refine AL_upto (by exact rfl) (by simp only [go_sem, seval, hb_603, hb_604, hb_605, hb_606, hb_607, hb_612, hb_617F]; exact rfl) ?_
                refine AL_nil ?_
                refine thenA_n ?_
                refine awp_ret ?_
                cases h
                refine retQ_ret (by simp only [Tryz.results8]; simp only [go_sem, seval, hb_603, hb_604, hb_605, hb_606, hb_607, hb_612, hb_617F]; exact rfl) ?_
                simp only [go_sem, seval, hb_603, hb_604, hb_605, hb_606, hb_607, hb_612, hb_617F]
                all_goals ((repeat' refine And.intro ?_ ?_) <;> first | rfl | (simp; done) | (simp; rfl) | (simp [*]; done) | (simp [*]; rfl))
            · rw [if_neg hb_612] at h
              have hb_612F := Bool.eq_false_iff.2 hb_612
              refine AL_known (d := 48) (v := .p (.bool false)) (by simp only [go_sem, seval, hb_603, hb_604, hb_605, hb_606, hb_607, hb_612F]) ?_
              refine AL_skips (by exact rfl) ?_
              refine AL_upto (by exact rfl) (by simp only [go_sem, seval, hb_603, hb_604, hb_605, hb_606, hb_607, hb_612F]; exact rfl) ?_
              refine AL_skips (by exact rfl) ?_
              refine AL_upto (by exact rfl) (by simp only [go_sem, seval, hb_603, hb_604, hb_605, hb_606, hb_607, hb_612F]; exact rfl) ?_
              refine AL_nil ?_
              refine thenA_n ?_
              refine awp_ret ?_
              cases h
              refine retQ_ret (by simp only [Tryz.results8]; simp only [go_sem, seval, hb_603, hb_604, hb_605, hb_606, hb_607, hb_612F]; exact rfl) ?_
              simp only [go_sem, seval, hb_603, hb_604, hb_605, hb_606, hb_607, hb_612F]
              all_goals ((repeat' refine And.intro ?_ ?_) <;> first | rfl | (simp; done) | (simp; rfl) | (simp [*]; done) | (simp [*]; rfl))
          · rw [if_neg hb_607] at h
            have hb_607F := Bool.eq_false_iff.2 hb_607
            refine AL_known (d := 40) (v := .p (.bool false)) (by simp only [go_sem, seval, hb_603, hb_604, hb_605, hb_606, hb_607F]) ?_
            refine AL_skips (by exact rfl) ?_
            refine AL_upto (by exact rfl) (by simp only [go_sem, seval, hb_603, hb_604, hb_605, hb_606, hb_607F]; exact rfl) ?_
            refine AL_skips (by exact rfl) ?_
            refine AL_upto (by exact rfl) (by simp only [go_sem, seval, hb_603, hb_604, hb_605, hb_606, hb_607F]; exact rfl) ?_
            refine AL_skips (by exact rfl) ?_
            refine AL_upto (by exact rfl) (by simp only [go_sem, seval, hb_603, hb_604, hb_605, hb_606, hb_607F]; exact rfl) ?_
            refine AL_nil ?_
            refine thenA_n ?_
            refine awp_ret ?_
            cases h
            refine retQ_ret (by simp only [Tryz.results8]; simp only [go_sem, seval, hb_603, hb_604, hb_605, hb_606, hb_607F]; exact rfl) ?_
            simp only [go_sem, seval, hb_603, hb_604, hb_605, hb_606, hb_607F]
            all_goals ((repeat' refine And.intro ?_ ?_) <;> first | rfl | (simp; done) | (simp; rfl) | (simp [*]; done) | (simp [*]; rfl))
        · rw [if_neg hb_606] at h
          have hb_606F := Bool.eq_false_iff.2 hb_606
          refine AL_known (d := 35) (v := .p (.bool false)) (by simp only [go_sem, seval, hb_603, hb_604, hb_605, hb_606F]) ?_
          refine AL_skips (by exact rfl) ?_
          refine AL_upto (by exact rfl) (by simp only [go_sem, seval, hb_603, hb_604, hb_605, hb_606F]; exact rfl) ?_
          refine AL_skips (by exact rfl) ?_
          refine AL_upto (by exact rfl) (by simp only [go_sem, seval, hb_603, hb_604, hb_605, hb_606F]; exact rfl) ?_
          refine AL_skips (by exact rfl) ?_
          refine AL_upto (by exact rfl) (by simp only [go_sem, seval, hb_603, hb_604, hb_605, hb_606F]; exact rfl) ?_
          refine AL_skips (by exact rfl) ?_
          refine AL_upto (by exact rfl) (by simp only [go_sem, seval, hb_603, hb_604, hb_605, hb_606F]; exact rfl) ?_
          refine AL_nil ?_
          refine thenA_n ?_
          refine awp_ret ?_
          cases h
          refine retQ_ret (by simp only [Tryz.results8]; simp only [go_sem, seval, hb_603, hb_604, hb_605, hb_606F]; exact rfl) ?_
          simp only [go_sem, seval, hb_603, hb_604, hb_605, hb_606F]
          all_goals ((repeat' refine And.intro ?_ ?_) <;> first | rfl | (simp; done) | (simp; rfl) | (simp [*]; done) | (simp [*]; rfl))
      · rw [if_neg hb_605] at h
        have hb_605F := Bool.eq_false_iff.2 hb_605
        refine AL_known (d := 31) (v := .p (.bool false)) (by simp only [go_sem, seval, hb_603, hb_604, hb_605F]) ?_
        refine AL_skips (by exact rfl) ?_
        refine AL_upto (by exact rfl) (by simp only [go_sem, seval, hb_603, hb_604, hb_605F]; exact rfl) ?_
        refine AL_skips (by exact rfl) ?_
        refine AL_upto (by exact rfl) (by simp only [go_sem, seval, hb_603, hb_604, hb_605F]; exact rfl) ?_
        refine AL_skips (by exact rfl) ?_
        refine AL_upto (by exact rfl) (by simp only [go_sem, seval, hb_603, hb_604, hb_605F]; exact rfl) ?_
        refine AL_skips (by exact rfl) ?_
        refine AL_upto (by exact rfl) (by simp only [go_sem, seval, hb_603, hb_604, hb_605F]; exact rfl) ?_
        refine AL_skips (by exact rfl) ?_
        refine AL_upto (by exact rfl) (by simp only [go_sem, seval, hb_603, hb_604, hb_605F]; exact rfl) ?_
        refine AL_nil ?_
        refine thenA_n ?_
        refine awp_ret ?_
        cases h
        refine retQ_ret (by simp only [Tryz.results8]; simp only [go_sem, seval, hb_603, hb_604, hb_605F]; exact rfl) ?_
        simp only [go_sem, seval, hb_603, hb_604, hb_605F]
        all_goals ((repeat' refine And.intro ?_ ?_) <;> first | rfl | (simp; done) | (simp; rfl) | (simp [*]; done) | (simp [*]; rfl))
    · rw [if_neg hb_604] at h
      have hb_604F := Bool.eq_false_iff.2 hb_604
      refine AL_known (d := 26) (v := .p (.bool false)) (by simp only [go_sem, seval, hb_603, hb_604F]) ?_
      refine AL_skips (by exact rfl) ?_
      refine AL_upto (by exact rfl) (by simp only [go_sem, seval, hb_603, hb_604F]; exact rfl) ?_
      refine AL_skips (by exact rfl) ?_
      refine AL_upto (by exact rfl) (by simp only [go_sem, seval, hb_603, hb_604F]; exact rfl) ?_
      refine AL_skips (by exact rfl) ?_
      refine AL_upto (by exact rfl) (by simp only [go_sem, seval, hb_603, hb_604F]; exact rfl) ?_
      refine AL_skips (by exact rfl) ?_
      refine AL_upto (by exact rfl) (by simp only [go_sem, seval, hb_603, hb_604F]; exact rfl) ?_
      refine AL_skips (by exact rfl) ?_
      refine AL_upto (by exact rfl) (by simp only [go_sem, seval, hb_603, hb_604F]; exact rfl) ?_
      refine AL_skips (by exact rfl) ?_
      refine AL_upto (by exact rfl) (by simp only [go_sem, seval, hb_603, hb_604F]; exact rfl) ?_
      refine AL_nil ?_
      refine thenA_n ?_
      refine awp_ret ?_
      cases h
      refine retQ_ret (by simp only [Tryz.results8]; simp only [go_sem, seval, hb_603, hb_604F]; exact rfl) ?_
      simp only [go_sem, seval, hb_603, hb_604F]
      all_goals ((repeat' refine And.intro ?_ ?_) <;> first | rfl | (simp; done) | (simp; rfl) | (simp [*]; done) | (simp [*]; rfl))
  · rw [if_neg hb_603] at h
    have hb_603F := Bool.eq_false_iff.2 hb_603
    refine AL_known (d := 22) (v := .p (.bool false)) (by simp only [go_sem, seval, hb_603F]) ?_
    refine AL_skips (by exact rfl) ?_
    refine AL_upto (by exact rfl) (by simp only [go_sem, seval, hb_603F]; exact rfl) ?_
    refine AL_skips (by exact rfl) ?_
    refine AL_upto (by exact rfl) (by simp only [go_sem, seval, hb_603F]; exact rfl) ?_
    refine AL_skips (by exact rfl) ?_
    refine AL_upto (by exact rfl) (by simp only [go_sem, seval, hb_603F]; exact rfl) ?_
    refine AL_skips (by exact rfl) ?_
    refine AL_upto (by exact rfl) (by simp only [go_sem, seval, hb_603F]; exact rfl) ?_
    refine AL_skips (by exact rfl) ?_
    refine AL_upto (by exact rfl) (by simp only [go_sem, seval, hb_603F]; exact rfl) ?_
    refine AL_skips (by exact rfl) ?_
    refine AL_upto (by exact rfl) (by simp only [go_sem, seval, hb_603F]; exact rfl) ?_
    refine AL_skips (by exact rfl) ?_
    refine AL_upto (by exact rfl) (by simp only [go_sem, seval, hb_603F]; exact rfl) ?_
    refine AL_nil ?_
    refine thenA_n ?_
    refine awp_ret ?_
    cases h
    refine retQ_ret (by simp only [Tryz.results8]; simp only [go_sem, seval, hb_603F]; exact rfl) ?_
    simp only [go_sem, seval, hb_603F]
    all_goals ((repeat' refine And.intro ?_ ?_) <;> first | rfl | (simp; done) | (simp; rfl) | (simp [*]; done) | (simp [*]; rfl))
end Go.Proofs.YtdmddoljldjjeaaGreat
set_option linter.unusedVariables false
set_option linter.unusedSimpArgs false
namespace Go.Proofs.YtdmddoljldjjeaaGreat
open Go Go.Ab
set_option maxHeartbeats 4000000 in
theorem drosslaw55_few_con (t_621 : Table) (r_623 : Bool) (h : drosslaw55_few t_621 = some r_623) : Con Tryz.prog 9 [(encTable t_621)] (.bool r_623) := by
  refine ⟨Tryz.call9, ?_⟩
  refine pure_of_awp Tryz.func9 rfl Tryz.ntmps9 (by simp) fun X w => ?_
  show AWp _ _ _ ⟨[(0, .p (encTable t_621))], []⟩
  simp only [drosslaw55_few] at h
  refine awp_seq ?_
  refine awp_region ?_
  refine AL_upto (by exact rfl) (by simp only [go_sem, seval]; exact rfl) ?_
  refine AL_nil ?_
  refine thenA_n ?_
  refine awp_seq ?_
  refine awp_region ?_
  refine AL_upto (by exact rfl) (by simp only [go_sem, seval]; exact rfl) ?_
  by_cases hb_622 : (t_621.Rows.length : Int) ≤ 8
  · rw [if_pos hb_622] at h
    have hb_622T := eq_true hb_622
    refine AL_known (d := 7) (v := .p (.bool true)) (by simp only [go_sem, seval, hb_622T]) ?_
    refine AL_gt' (guard_true' rfl rfl (by exact rfl) (by exact rfl)) rfl (by simp only [go_sem, seval, hb_622T]; exact rfl) ?_
    refine AL_gt' (guard_true' rfl rfl (by exact rfl) (by exact rfl)) rfl (by simp only [go_sem, seval, hb_622T]; exact rfl) ?_
    refine AL_gt' (guard_true' rfl rfl (by exact rfl) (by exact rfl)) rfl (by simp only [go_sem, seval, hb_622T]; exact rfl) ?_
    refine AL_gt' (guard_true' rfl rfl (by exact rfl) (by exact rfl)) rfl (by simp only [go_sem, seval, hb_622T]; exact rfl) ?_
    refine AL_upto (by exact rfl) (by simp only [go_sem, seval, hb_622T]; exact rfl) ?_
    refine AL_nil ?_
    refine thenA_n ?_
    refine awp_ret ?_
    cases h
    refine retQ_ret (by simp only [Tryz.results9]; simp only [go_sem, seval, hb_622T]; exact rfl) ?_
    simp only [go_sem, seval, hb_622T]
    all_goals ((repeat' refine And.intro ?_ ?_) <;> first | rfl | (simp; done) | (simp; rfl) | (simp [*]; done) | (simp [*]; rfl))
  · rw [if_neg hb_622] at h
    have hb_622T := eq_false hb_622
    refine AL_known (d := 7) (v := .p (.bool false)) (by simp only [go_sem, seval, hb_622T]) ?_
    refine AL_skips (by exact rfl) ?_
    refine AL_upto (by exact rfl) (by simp only [go_sem, seval, hb_622T]; exact rfl) ?_
    refine AL_nil ?_
    refine thenA_n ?_
    refine awp_ret ?_
    cases h
    refine retQ_ret (by simp only [Tryz.results9]; simp only [go_sem, seval, hb_622T]; exact rfl) ?_
    simp only [go_sem, seval, hb_622T]
    all_goals ((repeat' refine And.intro ?_ ?_) <;> first | rfl | (simp; done) | (simp; rfl) | (simp [*]; done) | (simp [*]; rfl))
end Go.Proofs.YtdmddoljldjjeaaGreat
set_option linter.unusedVariables false
set_option linter.unusedSimpArgs false
namespace Go.Proofs.YtdmddoljldjjeaaGreat
open Go Go.Ab
set_option maxHeartbeats 4000000 in
theorem drosslaw55_brief_con (m_3684 : Merged) (r_3689 : Bool) (h : drosslaw55_brief m_3684 = some r_3689) : Con Tryz.prog 15 [(encMerged m_3684)] (.bool r_3689) := by
  refine ⟨Tryz.call15, ?_⟩
  refine pure_of_awp Tryz.func15 rfl Tryz.ntmps15 (by simp) fun X w => ?_
  show AWp _ _ _ ⟨[(0, .p (encMerged m_3684))], []⟩
  simp only [drosslaw55_brief] at h
  refine awp_seq ?_
  refine awp_region ?_
  refine AL_upto (by exact rfl) (by simp only [go_sem, seval]; exact rfl) ?_
  refine AL_nil ?_
  refine thenA_n ?_
  refine awp_seq ?_
  refine awp_region ?_
  refine AL_upto (by exact rfl) (by simp only [go_sem, seval]; exact rfl) ?_
  obtain ⟨r_3685, hr_3686, h⟩ := Option.bind_eq_some_iff.1 h
  refine AL_con' rfl (guard_none rfl) rfl (by simp only [go_sem, seval]; exact rfl) (by simp only [go_sem, seval]; all_goals ((repeat' refine And.intro ?_ ?_) <;> first | rfl | (simp; done) | (simp; rfl) | (simp [*]; done) | (simp [*]; rfl))) (drosslaw55_few_con m_3684.Table _ hr_3686) (.inr rfl) rfl ?_
  refine AL_upto (by exact rfl) (by simp only [go_sem, seval]; exact rfl) ?_
  by_cases hb_3687 : r_3685 = true
  · rw [if_pos hb_3687] at h
    refine AL_known (d := 6) (v := .p (.bool true)) (by simp only [go_sem, seval, hb_3687]) ?_
    refine AL_gt' (guard_true' rfl rfl (by exact rfl) (by exact rfl)) rfl (by simp only [go_sem, seval, hb_3687]; exact rfl) ?_
    refine AL_gt' (guard_true' rfl rfl (by exact rfl) (by exact rfl)) rfl (by simp only [go_sem, seval, hb_3687]; exact rfl) ?_
    refine AL_gt' (guard_true' rfl rfl (by exact rfl) (by exact rfl)) rfl (by simp only [go_sem, seval, hb_3687]; exact rfl) ?_
    refine AL_gt' (guard_true' rfl rfl (by exact rfl) (by exact rfl)) rfl (by simp only [go_sem, seval, hb_3687]; exact rfl) ?_
    refine AL_upto (by exact rfl) (by simp only [go_sem, seval, hb_3687]; exact rfl) ?_
    by_cases hb_3688 : (m_3684.Clusters.length : Int) ≤ 10
    · rw [if_pos hb_3688] at h
      have hb_3688T := eq_true hb_3688
      refine AL_known (d := 12) (v := .p (.bool true)) (by simp only [go_sem, seval, hb_3687, hb_3688T]) ?_
      refine AL_gt' (guard_true' rfl rfl (by exact rfl) (by exact rfl)) rfl (by simp only [go_sem, seval, hb_3687, hb_3688T]; exact rfl) ?_
      refine AL_gt' (guard_true' rfl rfl (by exact rfl) (by exact rfl)) rfl (by simp only [go_sem, seval, hb_3687, hb_3688T]; exact rfl) ?_
      refine AL_gt' (guard_true' rfl rfl (by exact rfl) (by exact rfl)) rfl (by simp only [go_sem, seval, hb_3687, hb_3688T]; exact rfl) ?_
      refine AL_gt' (guard_true' rfl rfl (by exact rfl) (by exact rfl)) rfl (by simp only [go_sem, seval, hb_3687, hb_3688T]; exact rfl) ?_
      refine AL_upto (by exact rfl) (by simp only [go_sem, seval, hb_3687, hb_3688T]; exact rfl) ?_
      refine AL_nil ?_
      refine thenA_n ?_
      refine awp_ret ?_
      cases h
      refine retQ_ret (by simp only [Tryz.results15]; simp only [go_sem, seval, hb_3687, hb_3688T]; exact rfl) ?_
      simp only [go_sem, seval, hb_3687, hb_3688T]
      all_goals ((repeat' refine And.intro ?_ ?_) <;> first | rfl | (simp; done) | (simp; rfl) | (simp [*]; done) | (simp [*]; rfl))
    · rw [if_neg hb_3688] at h
      have hb_3688T := eq_false hb_3688
      refine AL_known (d := 12) (v := .p (.bool false)) (by simp only [go_sem, seval, hb_3687, hb_3688T]) ?_
      refine AL_skips (by exact rfl) ?_
      refine AL_upto (by exact rfl) (by simp only [go_sem, seval, hb_3687, hb_3688T]; exact rfl) ?_
      refine AL_nil ?_
      refine thenA_n ?_
      refine awp_ret ?_
      cases h
      refine retQ_ret (by simp only [Tryz.results15]; simp only [go_sem, seval, hb_3687, hb_3688T]; exact rfl) ?_
      simp only [go_sem, seval, hb_3687, hb_3688T]
      all_goals ((repeat' refine And.intro ?_ ?_) <;> first | rfl | (simp; done) | (simp; rfl) | (simp [*]; done) | (simp [*]; rfl))
  · rw [if_neg hb_3687] at h
    have hb_3687F := Bool.eq_false_iff.2 hb_3687
    refine AL_known (d := 6) (v := .p (.bool false)) (by simp only [go_sem, seval, hb_3687F]) ?_
    refine AL_skips (by exact rfl) ?_
    refine AL_upto (by exact rfl) (by simp only [go_sem, seval, hb_3687F]; exact rfl) ?_
    refine AL_skips (by exact rfl) ?_
    refine AL_upto (by exact rfl) (by simp only [go_sem, seval, hb_3687F]; exact rfl) ?_
    refine AL_nil ?_
    refine thenA_n ?_
    refine awp_ret ?_
    cases h
    refine retQ_ret (by simp only [Tryz.results15]; simp only [go_sem, seval, hb_3687F]; exact rfl) ?_
    simp only [go_sem, seval, hb_3687F]
    all_goals ((repeat' refine And.intro ?_ ?_) <;> first | rfl | (simp; done) | (simp; rfl) | (simp [*]; done) | (simp [*]; rfl))
end Go.Proofs.YtdmddoljldjjeaaGreat
set_option linter.unusedVariables false
set_option linter.unusedSimpArgs false
namespace Go.Proofs.YtdmddoljldjjeaaGreat
open Go Go.Ab
set_option maxHeartbeats 4000000 in
theorem table_isName_con (s_624 : List UInt8) (r_709 : Bool) (h : table_isName s_624 = some r_709) : Con Tryz.prog 67 [(.str s_624)] (.bool r_709) := by
  refine ⟨Tryz.call67, ?_⟩
  refine pure_of_awp Tryz.func67 rfl Tryz.ntmps67 (by simp) fun X w => ?_
  show AWp _ _ _ ⟨[(0, .p (.str s_624))], []⟩
  simp only [table_isName] at h
  refine awp_seq ?_
  refine awp_region ?_
  refine AL_upto (by exact rfl) (by simp only [go_sem, seval]; exact rfl) ?_
  refine AL_nil ?_
  refine thenA_n ?_
  refine awp_seq ?_
  refine awp_seq ?_
  refine awp_region ?_
  refine AL_upto (by exact rfl) (by simp only [go_sem, seval]; exact rfl) ?_
  by_cases hb_625 : (s_624 == []) = true
  · rw [if_pos hb_625] at h
    refine AL_known (d := 8) (v := .p (.bool true)) (by simp only [go_sem, seval, hb_625]) ?_
    refine AL_skips (by exact rfl) ?_
    refine AL_upto (by exact rfl) (by simp only [go_sem, seval, hb_625]; exact rfl) ?_
    refine AL_skips (by exact rfl) ?_
    refine AL_upto (by exact rfl) (by simp only [go_sem, seval, hb_625]; exact rfl) ?_
    refine AL_nil ?_
    refine thenA_n ?_
    refine awp_ct (by simp only [go_sem, seval, hb_625]) ?_
    refine awp_seq ?_
    refine awp_region ?_
    refine AL_upto (by exact rfl) (by simp only [go_sem, seval, hb_625]; exact rfl) ?_
    refine AL_nil ?_
    refine thenA_n ?_
    refine awp_ret ?_
    refine thenA_ret ?_
    cases h
    refine retQ_ret (by simp only [Tryz.results67]; simp only [go_sem, seval, hb_625]; exact rfl) ?_
    simp only [go_sem, seval, hb_625]
    all_goals ((repeat' refine And.intro ?_ ?_) <;> first | rfl | (simp; done) | (simp; rfl) | (simp [*]; done) | (simp [*]; rfl))
  · rw [if_neg hb_625] at h
    have hb_625F := Bool.eq_false_iff.2 hb_625
    refine AL_known (d := 8) (v := .p (.bool false)) (by simp only [go_sem, seval, hb_625F]) ?_
    refine AL_gt' (guard_true' rfl rfl (by exact rfl) (by exact rfl)) rfl (by simp only [go_sem, seval, hb_625F]; exact rfl) ?_
    refine AL_gt' (guard_true' rfl rfl (by exact rfl) (by exact rfl)) rfl (by simp only [go_sem, seval, hb_625F]; exact rfl) ?_
    refine AL_gt' (guard_true' rfl rfl (by exact rfl) (by exact rfl)) rfl (by simp only [go_sem, seval, hb_625F]; exact rfl) ?_
    refine AL_upto (by exact rfl) (by simp only [go_sem, seval, hb_625F]; exact rfl) ?_
    by_cases hb_626 : (s_624.length : Int) > 24
    · rw [if_pos hb_626] at h
      have hb_626T := eq_true hb_626
      refine AL_known (d := 13) (v := .p (.bool true)) (by simp only [go_sem, seval, hb_625F, hb_626T]) ?_
      refine AL_skips (by exact rfl) ?_
      refine AL_upto (by exact rfl) (by simp only [go_sem, seval, hb_625F, hb_626T]; exact rfl) ?_
      refine AL_nil ?_
      refine thenA_n ?_
      refine awp_ct (by simp only [go_sem, seval, hb_625F, hb_626T]) ?_
      refine awp_seq ?_
      refine awp_region ?_
      refine AL_upto (by exact rfl) (by simp only [go_sem, seval, hb_625F, hb_626T]; exact rfl) ?_
      refine AL_nil ?_
      refine thenA_n ?_
      refine awp_ret ?_
      refine thenA_ret ?_
      cases h
      refine retQ_ret (by simp only [Tryz.results67]; simp only [go_sem, seval, hb_625F, hb_626T]; exact rfl) ?_
      simp only [go_sem, seval, hb_625F, hb_626T]
      all_goals ((repeat' refine And.intro ?_ ?_) <;> first | rfl | (simp; done) | (simp; rfl) | (simp [*]; done) | (simp [*]; rfl))
    · rw [if_neg hb_626] at h
      have hb_626T := eq_false hb_626
      refine AL_known (d := 13) (v := .p (.bool false)) (by simp only [go_sem, seval, hb_625F, hb_626T]) ?_
      refine AL_gt' (guard_true' rfl rfl (by exact rfl) (by exact rfl)) rfl (by simp only [go_sem, seval, hb_625F, hb_626T]; exact rfl) ?_
      refine AL_gt' (guard_true' rfl rfl (by exact rfl) (by exact rfl)) rfl (by simp only [go_sem, seval, hb_625F, hb_626T]; exact rfl) ?_
      refine AL_upto (by exact rfl) (by simp only [go_sem, seval, hb_625F, hb_626T]; exact rfl) ?_
      refine AL_nil ?_
      refine thenA_n ?_
      by_cases hb_627 : (s_624 == [110, 117, 108, 108]) = true
      · rw [if_pos hb_627] at h
        refine awp_ct (by simp only [go_sem, seval, hb_625F, hb_626T, hb_627]) ?_
        refine awp_seq ?_
        refine awp_region ?_
        refine AL_upto (by exact rfl) (by simp only [go_sem, seval, hb_625F, hb_626T, hb_627]; exact rfl) ?_
        refine AL_nil ?_
        refine thenA_n ?_
        refine awp_ret ?_
        refine thenA_ret ?_
        cases h
        refine retQ_ret (by simp only [Tryz.results67]; simp only [go_sem, seval, hb_625F, hb_626T, hb_627]; exact rfl) ?_
        simp only [go_sem, seval, hb_625F, hb_626T, hb_627]
        all_goals ((repeat' refine And.intro ?_ ?_) <;> first | rfl | (simp; done) | (simp; rfl) | (simp [*]; done) | (simp [*]; rfl))
      · rw [if_neg hb_627] at h
        have hb_627F := Bool.eq_false_iff.2 hb_627
        refine awp_cf (by simp only [go_sem, seval, hb_625F, hb_626T, hb_627F]) ?_
        refine awp_skip ?_
        refine thenA_n ?_
        refine awp_seq ?_
        refine awp_seq ?_
        refine awp_region ?_
        refine AL_upto (by exact rfl) (by simp only [go_sem, seval, hb_625F, hb_626T, hb_627F]; exact rfl) ?_
        refine AL_nil ?_
        refine thenA_n ?_
        refine awp_block ?_
        obtain ⟨o_704, hL_705, h⟩ := Option.bind_eq_some_iff.1 h
        refine awp_loop_L (fun (s : Int) => ⟨[(0, .p (.str s_624)), (18, .p (.int .i64 (s_624.length : Int))), (19, .p (.int .i64 s))], []⟩) (fun (o : (Unit) ⊕ (Bool)) (e : Exit) (s' : St) => match o with | .inl o_707 => e = (.exit 0) ∧ Le ⟨Tryz.prog, Tryz.f67.ntmps, 0, X, [], fun _ => none, w⟩ s' ⟨[], []⟩ | .inr o_708 => e = .ret ∧ retQ Tryz.prog Tryz.f67 (.bool o_708) .ret s') (by intro o s hT; rcases o with _ | _ <;> (have hh := hT.1; cases hh)) hL_705 (by simp only [go_sem, seval, hb_625F, hb_626T, hb_627F]; all_goals ((repeat' refine And.intro ?_ ?_) <;> first | rfl | (simp; done) | (simp; rfl) | (simp [*]; done) | (simp [*]; rfl))) ?_ ?_
        · clear h
          intro t19_651 x h
          simp only [table_isName_l1] at h
          show AWp _ _ _ ⟨[(0, .p (.str s_624)), (18, .p (.int .i64 (s_624.length : Int))), (19, .p (.int .i64 t19_651))], []⟩
          refine awp_seq ?_
          refine awp_region ?_
          refine AL_upto (by exact rfl) (by simp only [go_sem, seval]; exact rfl) ?_
          refine AL_nil ?_
          refine thenA_n ?_
          refine awp_seq ?_
          by_cases hb_679 : t19_651 < (s_624.length : Int)
          · rw [if_pos hb_679] at h
            have hb_679T := eq_true hb_679
            refine awp_ct (by simp only [go_sem, seval, hb_679T]) ?_
            refine awp_skip ?_
            refine thenA_n ?_
            refine awp_seq ?_
            refine awp_block ?_
            refine awp_seq ?_
            refine awp_region ?_
            refine AL_upto (by exact rfl) (by simp only [go_sem, seval, hb_679T]; exact rfl) ?_
            refine AL_nil ?_
            refine thenA_n ?_
            refine awp_seq ?_
            refine awp_region ?_
            obtain ⟨c_682, hx_683, h⟩ := Option.bind_eq_some_iff.1 h
            obtain ⟨hx_683a, hx_683, hx_683b⟩ := idx_some hx_683
            have hx_683A := eq_true hx_683a
            have hx_683B := eq_true hx_683b
            refine AL_upto (by exact rfl) (by simp only [go_sem, seval, hb_679T, hx_683, hx_683A, hx_683B]; exact rfl) ?_
            refine AL_nil ?_
            refine thenA_n ?_
            obtain ⟨o_691, hA_692, h⟩ := Option.bind_eq_some_iff.1 h
            refine awp_join (T := (fun (o_703 : Bool) (e : Exit) (s' : St) => e = .normal ∧ Le ⟨Tryz.prog, Tryz.f67.ntmps, 0, X, [], fun _ => none, w⟩ s' ⟨[(0, .p (.str s_624)), (3, .p (.int .i64 t19_651)), (4, .p (.int .u8 ((c_682.toNat : Nat) : Int))), (5, .p (.bool o_703)), (18, .p (.int .i64 (s_624.length : Int))), (19, .p (.int .i64 t19_651))], []⟩) o_691) ?_ ?_
            · replace h := hA_692
              clear hA_692
              refine awp_region ?_
              refine AL_upto (by exact rfl) (by simp only [go_sem, seval, hb_679T]; exact rfl) ?_
              by_cases hb_693 : ((c_682.toNat : Nat) : Int) ≥ 97
              · rw [if_pos hb_693] at h
                have hb_693T := eq_true hb_693
                refine AL_known (d := 27) (v := .p (.bool true)) (by simp only [go_sem, seval, hb_679T, hb_693T]) ?_
                refine AL_gt' (guard_true' rfl rfl (by exact rfl) (by exact rfl)) rfl (by simp only [go_sem, seval, hb_679T, hb_693T]; exact rfl) ?_
                refine AL_gt' (guard_true' rfl rfl (by exact rfl) (by exact rfl)) rfl (by simp only [go_sem, seval, hb_679T, hb_693T]; exact rfl) ?_
                refine AL_upto (by exact rfl) (by simp only [go_sem, seval, hb_679T, hb_693T]; exact rfl) ?_
                by_cases hb_694 : ((c_682.toNat : Nat) : Int) ≤ 122
                · rw [if_pos hb_694] at h
                  have hb_694T := eq_true hb_694
                  refine AL_known (d := 31) (v := .p (.bool true)) (by simp only [go_sem, seval, hb_679T, hb_693T, hb_694T]) ?_
                  refine AL_skips (by exact rfl) ?_
                  refine AL_upto (by exact rfl) (by simp only [go_sem, seval, hb_679T, hb_693T, hb_694T]; exact rfl) ?_
                  refine AL_skips (by exact rfl) ?_
                  refine AL_upto (by exact rfl) (by simp only [go_sem, seval, hb_679T, hb_693T, hb_694T]; exact rfl) ?_
                  refine AL_nil ?_
                  cases h
                  refine ⟨rfl, ?_⟩
                  simp only [go_sem, seval, hb_679T, hb_693T, hb_694T]
                  all_goals ((repeat' refine And.intro ?_ ?_) <;> first | rfl | (simp; done) | (simp; rfl) | (simp [*]; done) | (simp [*]; rfl))
                · rw [if_neg hb_694] at h
                  have hb_694T := eq_false hb_694
                  refine AL_known (d := 31) (v := .p (.bool false)) (by simp only [go_sem, seval, hb_679T, hb_693T, hb_694T]) ?_
                  refine AL_gt' (guard_true' rfl rfl (by exact rfl) (by exact rfl)) rfl (by simp only [go_sem, seval, hb_679T, hb_693T, hb_694T]; exact rfl) ?_
                  refine AL_gt' (guard_true' rfl rfl (by exact rfl) (by exact rfl)) rfl (by simp only [go_sem, seval, hb_679T, hb_693T, hb_694T]; exact rfl) ?_
                  refine AL_gt' (guard_true' rfl rfl (by exact rfl) (by exact rfl)) rfl (by simp only [go_sem, seval, hb_679T, hb_693T, hb_694T]; exact rfl) ?_
                  by_cases hb_695 : ((c_682.toNat : Nat) : Int) ≥ 65
                  · rw [if_pos hb_695] at h
                    have hb_695T := eq_true hb_695
                    refine AL_known (d := 34) (v := .p (.bool true)) (by simp only [go_sem, seval, hb_679T, hb_693T, hb_694T, hb_695T]) ?_
                    refine AL_gt' (guard_true' rfl rfl (by exact rfl) (by exact rfl)) rfl (by simp only [go_sem, seval, hb_679T, hb_693T, hb_694T, hb_695T]; exact rfl) ?_
                    refine AL_gt' (guard_true' rfl rfl (by exact rfl) (by exact rfl)) rfl (by simp only [go_sem, seval, hb_679T, hb_693T, hb_694T, hb_695T]; exact rfl) ?_
                    refine AL_gt' (guard_true' rfl rfl (by exact rfl) (by exact rfl)) rfl (by simp only [go_sem, seval, hb_679T, hb_693T, hb_694T, hb_695T]; exact rfl) ?_
                    refine AL_upto (by exact rfl) (by simp only [go_sem, seval, hb_679T, hb_693T, hb_694T, hb_695T]; exact rfl) ?_
                    by_cases hb_696 : ((c_682.toNat : Nat) : Int) ≤ 90
                    · rw [if_pos hb_696] at h
                      have hb_696T := eq_true hb_696
                      refine AL_known (d := 39) (v := .p (.bool true)) (by simp only [go_sem, seval, hb_679T, hb_693T, hb_694T, hb_695T, hb_696T]) ?_
                      refine AL_skips (by exact rfl) ?_
                      refine AL_upto (by exact rfl) (by simp only [go_sem, seval, hb_679T, hb_693T, hb_694T, hb_695T, hb_696T]; exact rfl) ?_
                      refine AL_nil ?_
                      cases h
                      refine ⟨rfl, ?_⟩
                      simp only [go_sem, seval, hb_679T, hb_693T, hb_694T, hb_695T, hb_696T]
                      all_goals ((repeat' refine And.intro ?_ ?_) <;> first | rfl | (simp; done) | (simp; rfl) | (simp [*]; done) | (simp [*]; rfl))
                    · rw [if_neg hb_696] at h
                      have hb_696T := eq_false hb_696
                      refine AL_known (d := 39) (v := .p (.bool false)) (by simp only [go_sem, seval, hb_679T, hb_693T, hb_694T, hb_695T, hb_696T]) ?_
                      refine AL_gt' (guard_true' rfl rfl (by exact rfl) (by exact rfl)) rfl (by simp only [go_sem, seval, hb_679T, hb_693T, hb_694T, hb_695T, hb_696T]; exact rfl) ?_
                      refine AL_gt' (guard_true' rfl rfl (by exact rfl) (by exact rfl)) rfl (by simp only [go_sem, seval, hb_679T, hb_693T, hb_694T, hb_695T, hb_696T]; exact rfl) ?_
                      refine AL_upto (by exact rfl) (by simp only [go_sem, seval, hb_679T, hb_693T, hb_694T, hb_695T, hb_696T]; exact rfl) ?_
                      refine AL_nil ?_
                      cases h
                      refine ⟨rfl, ?_⟩
                      simp only [go_sem, seval, hb_679T, hb_693T, hb_694T, hb_695T, hb_696T]
                      all_goals ((repeat' refine And.intro ?_ ?_) <;> first | rfl | (simp; done) | (simp; rfl) | (simp [*]; done) | (simp [*]; rfl))
                  · rw [if_neg hb_695] at h
                    have hb_695T := eq_false hb_695
                    refine AL_known (d := 34) (v := .p (.bool false)) (by simp only [go_sem, seval, hb_679T, hb_693T, hb_694T, hb_695T]) ?_
                    refine AL_skips (by exact rfl) ?_
                    refine AL_gt' (guard_true' rfl rfl (by exact rfl) (by exact rfl)) rfl (by simp only [go_sem, seval, hb_679T, hb_693T, hb_694T, hb_695T]; exact rfl) ?_
                    refine AL_upto (by exact rfl) (by simp only [go_sem, seval, hb_679T, hb_693T, hb_694T, hb_695T]; exact rfl) ?_
                    refine AL_gt' (guard_true' rfl rfl (by exact rfl) (by exact rfl)) rfl (by simp only [go_sem, seval, hb_679T, hb_693T, hb_694T, hb_695T]; exact rfl) ?_
                    refine AL_gt' (guard_true' rfl rfl (by exact rfl) (by exact rfl)) rfl (by simp only [go_sem, seval, hb_679T, hb_693T, hb_694T, hb_695T]; exact rfl) ?_
                    refine AL_upto (by exact rfl) (by simp only [go_sem, seval, hb_679T, hb_693T, hb_694T, hb_695T]; exact rfl) ?_
                    refine AL_nil ?_
                    cases h
                    refine ⟨rfl, ?_⟩
                    simp only [go_sem, seval, hb_679T, hb_693T, hb_694T, hb_695T]
                    all_goals ((repeat' refine And.intro ?_ ?_) <;> first | rfl | (simp; done) | (simp; rfl) | (simp [*]; done) | (simp [*]; rfl))
              · rw [if_neg hb_693] at h
                have hb_693T := eq_false hb_693
                refine AL_known (d := 27) (v := .p (.bool false)) (by simp only [go_sem, seval, hb_679T, hb_693T]) ?_
                refine AL_skips (by exact rfl) ?_
                refine AL_upto (by exact rfl) (by simp only [go_sem, seval, hb_679T, hb_693T]; exact rfl) ?_
                refine AL_gt' (guard_true' rfl rfl (by exact rfl) (by exact rfl)) rfl (by simp only [go_sem, seval, hb_679T, hb_693T]; exact rfl) ?_
                refine AL_gt' (guard_true' rfl rfl (by exact rfl) (by exact rfl)) rfl (by simp only [go_sem, seval, hb_679T, hb_693T]; exact rfl) ?_
                refine AL_gt' (guard_true' rfl rfl (by exact rfl) (by exact rfl)) rfl (by simp only [go_sem, seval, hb_679T, hb_693T]; exact rfl) ?_
                by_cases hb_697 : ((c_682.toNat : Nat) : Int) ≥ 65
                · rw [if_pos hb_697] at h
                  have hb_697T := eq_true hb_697
                  refine AL_known (d := 34) (v := .p (.bool true)) (by simp only [go_sem, seval, hb_679T, hb_693T, hb_697T]) ?_
                  refine AL_gt' (guard_true' rfl rfl (by exact rfl) (by exact rfl)) rfl (by simp only [go_sem, seval, hb_679T, hb_693T, hb_697T]; exact rfl) ?_
                  refine AL_gt' (guard_true' rfl rfl (by exact rfl) (by exact rfl)) rfl (by simp only [go_sem, seval, hb_679T, hb_693T, hb_697T]; exact rfl) ?_
                  refine AL_gt' (guard_true' rfl rfl (by exact rfl) (by exact rfl)) rfl (by simp only [go_sem, seval, hb_679T, hb_693T, hb_697T]; exact rfl) ?_
                  refine AL_upto (by exact rfl) (by simp only [go_sem, seval, hb_679T, hb_693T, hb_697T]; exact rfl) ?_
                  by_cases hb_698 : ((c_682.toNat : Nat) : Int) ≤ 90
                  · rw [if_pos hb_698] at h
                    have hb_698T := eq_true hb_698
                    refine AL_known (d := 39) (v := .p (.bool true)) (by simp only [go_sem, seval, hb_679T, hb_693T, hb_697T, hb_698T]) ?_
                    refine AL_skips (by exact rfl) ?_
                    refine AL_upto (by exact rfl) (by simp only [go_sem, seval, hb_679T, hb_693T, hb_697T, hb_698T]; exact rfl) ?_
                    refine AL_nil ?_
                    cases h
                    refine ⟨rfl, ?_⟩
                    simp only [go_sem, seval, hb_679T, hb_693T, hb_697T, hb_698T]
                    all_goals ((repeat' refine And.intro ?_ ?_) <;> first | rfl | (simp; done) | (simp; rfl) | (simp [*]; done) | (simp [*]; rfl))
                  · rw [if_neg hb_698] at h
                    have hb_698T := eq_false hb_698
                    refine AL_known (d := 39) (v := .p (.bool false)) (by simp only [go_sem, seval, hb_679T, hb_693T, hb_697T, hb_698T]) ?_
                    refine AL_gt' (guard_true' rfl rfl (by exact rfl) (by exact rfl)) rfl (by simp only [go_sem, seval, hb_679T, hb_693T, hb_697T, hb_698T]; exact rfl) ?_
                    refine AL_gt' (guard_true' rfl rfl (by exact rfl) (by exact rfl)) rfl (by simp only [go_sem, seval, hb_679T, hb_693T, hb_697T, hb_698T]; exact rfl) ?_
                    refine AL_upto (by exact rfl) (by simp only [go_sem, seval, hb_679T, hb_693T, hb_697T, hb_698T]; exact rfl) ?_
                    refine AL_nil ?_
                    cases h
                    refine ⟨rfl, ?_⟩
                    simp only [go_sem, seval, hb_679T, hb_693T, hb_697T, hb_698T]
                    all_goals ((repeat' refine And.intro ?_ ?_) <;> first | rfl | (simp; done) | (simp; rfl) | (simp [*]; done) | (simp [*]; rfl))
                · rw [if_neg hb_697] at h
                  have hb_697T := eq_false hb_697
                  refine AL_known (d := 34) (v := .p (.bool false)) (by simp only [go_sem, seval, hb_679T, hb_693T, hb_697T]) ?_
                  refine AL_skips (by exact rfl) ?_
                  refine AL_gt' (guard_true' rfl rfl (by exact rfl) (by exact rfl)) rfl (by simp only [go_sem, seval, hb_679T, hb_693T, hb_697T]; exact rfl) ?_
                  refine AL_upto (by exact rfl) (by simp only [go_sem, seval, hb_679T, hb_693T, hb_697T]; exact rfl) ?_
                  refine AL_gt' (guard_true' rfl rfl (by exact rfl) (by exact rfl)) rfl (by simp only [go_sem, seval, hb_679T, hb_693T, hb_697T]; exact rfl) ?_
                  refine AL_gt' (guard_true' rfl rfl (by exact rfl) (by exact rfl)) rfl (by simp only [go_sem, seval, hb_679T, hb_693T, hb_697T]; exact rfl) ?_
                  refine AL_upto (by exact rfl) (by simp only [go_sem, seval, hb_679T, hb_693T, hb_697T]; exact rfl) ?_
                  refine AL_nil ?_
                  cases h
                  refine ⟨rfl, ?_⟩
                  simp only [go_sem, seval, hb_679T, hb_693T, hb_697T]
                  all_goals ((repeat' refine And.intro ?_ ?_) <;> first | rfl | (simp; done) | (simp; rfl) | (simp [*]; done) | (simp [*]; rfl))
            · intro e s' hT
              obtain ⟨letter_690, rfl⟩ : ∃ z, z = o_691 := ⟨_, rfl⟩
              try simp only at h
              try simp only at hT
              obtain ⟨rfl, hle⟩ := hT
              refine Wk.to hle ?_
              clear hle
              refine thenA_n ?_
              refine awp_seq ?_
              refine awp_region ?_
              refine AL_upto (by exact rfl) (by simp only [go_sem, seval, hb_679T]; exact rfl) ?_
              by_cases hb_699 : letter_690 = true
              · rw [if_pos hb_699] at h
                refine AL_known (d := 45) (v := .p (.bool false)) (by simp only [go_sem, seval, hb_679T, hb_699]) ?_
                refine AL_skips (by exact rfl) ?_
                refine AL_upto (by exact rfl) (by simp only [go_sem, seval, hb_679T, hb_699]; exact rfl) ?_
                refine AL_nil ?_
                refine thenA_n ?_
                refine awp_cf (by simp only [go_sem, seval, hb_679T, hb_699]) ?_
                refine awp_skip ?_
                refine blockA_n ?_
                refine thenA_n ?_
                refine awp_region ?_
                refine AL_upto (by exact rfl) (by simp only [go_sem, seval, hb_679T, hb_699]; exact rfl) ?_
                refine AL_nil ?_
                cases h
                refine ⟨rfl, ?_⟩
                simp only [go_sem, seval, hb_679T, hb_699]
                all_goals ((repeat' refine And.intro ?_ ?_) <;> first | rfl | (simp; done) | (simp; rfl) | (simp [*]; done) | (simp [*]; rfl))
              · rw [if_neg hb_699] at h
                have hb_699F := Bool.eq_false_iff.2 hb_699
                refine AL_known (d := 45) (v := .p (.bool true)) (by simp only [go_sem, seval, hb_679T, hb_699F]) ?_
                refine AL_gt' (guard_true' rfl rfl (by exact rfl) (by exact rfl)) rfl (by simp only [go_sem, seval, hb_679T, hb_699F]; exact rfl) ?_
                refine AL_gt' (guard_true' rfl rfl (by exact rfl) (by exact rfl)) rfl (by simp only [go_sem, seval, hb_679T, hb_699F]; exact rfl) ?_
                refine AL_gt' (guard_true' rfl rfl (by exact rfl) (by exact rfl)) rfl (by simp only [go_sem, seval, hb_679T, hb_699F]; exact rfl) ?_
                by_cases hb_700 : (t19_651 == 0) = true
                · rw [if_pos hb_700] at h
                  refine AL_known (d := 48) (v := .p (.bool true)) (by simp only [go_sem, seval, hb_679T, hb_699F, hb_700]) ?_
                  refine AL_skips (by exact rfl) ?_
                  refine AL_gt' (guard_true' rfl rfl (by exact rfl) (by exact rfl)) rfl (by simp only [go_sem, seval, hb_679T, hb_699F, hb_700]; exact rfl) ?_
                  refine AL_gt' (guard_true' rfl rfl (by exact rfl) (by exact rfl)) rfl (by simp only [go_sem, seval, hb_679T, hb_699F, hb_700]; exact rfl) ?_
                  refine AL_skips (by exact rfl) ?_
                  refine AL_gt' (guard_true' rfl rfl (by exact rfl) (by exact rfl)) rfl (by simp only [go_sem, seval, hb_679T, hb_699F, hb_700]; exact rfl) ?_
                  refine AL_upto (by exact rfl) (by simp only [go_sem, seval, hb_679T, hb_699F, hb_700]; exact rfl) ?_
                  refine AL_nil ?_
                  refine thenA_n ?_
                  refine awp_ct (by simp only [go_sem, seval, hb_679T, hb_699F, hb_700]) ?_
                  refine awp_seq ?_
                  refine awp_region ?_
                  refine AL_upto (by exact rfl) (by simp only [go_sem, seval, hb_679T, hb_699F, hb_700]; exact rfl) ?_
                  refine AL_nil ?_
                  refine thenA_n ?_
                  refine awp_ret ?_
                  refine blockA_ret ?_
                  refine thenA_ret ?_
                  cases h
                  refine ⟨rfl, ?_⟩
                  refine retQ_ret (by simp only [Tryz.results67]; simp only [go_sem, seval, hb_679T, hb_699F, hb_700]; exact rfl) ?_
                  simp only [go_sem, seval, hb_679T, hb_699F, hb_700]
                  all_goals ((repeat' refine And.intro ?_ ?_) <;> first | rfl | (simp; done) | (simp; rfl) | (simp [*]; done) | (simp [*]; rfl))
                · rw [if_neg hb_700] at h
                  have hb_700F := Bool.eq_false_iff.2 hb_700
                  refine AL_known (d := 48) (v := .p (.bool false)) (by simp only [go_sem, seval, hb_679T, hb_699F, hb_700F]) ?_
                  refine AL_gt' (guard_true' rfl rfl (by exact rfl) (by exact rfl)) rfl (by simp only [go_sem, seval, hb_679T, hb_699F, hb_700F]; exact rfl) ?_
                  refine AL_gt' (guard_true' rfl rfl (by exact rfl) (by exact rfl)) rfl (by simp only [go_sem, seval, hb_679T, hb_699F, hb_700F]; exact rfl) ?_
                  refine AL_gt' (guard_true' rfl rfl (by exact rfl) (by exact rfl)) rfl (by simp only [go_sem, seval, hb_679T, hb_699F, hb_700F]; exact rfl) ?_
                  refine AL_gt' (guard_true' rfl rfl (by exact rfl) (by exact rfl)) rfl (by simp only [go_sem, seval, hb_679T, hb_699F, hb_700F]; exact rfl) ?_
                  by_cases hb_701 : ((c_682.toNat : Nat) : Int) < 48
                  · rw [if_pos hb_701] at h
                    have hb_701T := eq_true hb_701
                    refine AL_known (d := 52) (v := .p (.bool true)) (by simp only [go_sem, seval, hb_679T, hb_699F, hb_700F, hb_701T]) ?_
                    refine AL_skips (by exact rfl) ?_
                    refine AL_gt' (guard_true' rfl rfl (by exact rfl) (by exact rfl)) rfl (by simp only [go_sem, seval, hb_679T, hb_699F, hb_700F, hb_701T]; exact rfl) ?_
                    refine AL_upto (by exact rfl) (by simp only [go_sem, seval, hb_679T, hb_699F, hb_700F, hb_701T]; exact rfl) ?_
                    refine AL_nil ?_
                    refine thenA_n ?_
                    refine awp_ct (by simp only [go_sem, seval, hb_679T, hb_699F, hb_700F, hb_701T]) ?_
                    refine awp_seq ?_
                    refine awp_region ?_
                    refine AL_upto (by exact rfl) (by simp only [go_sem, seval, hb_679T, hb_699F, hb_700F, hb_701T]; exact rfl) ?_
                    refine AL_nil ?_
                    refine thenA_n ?_
                    refine awp_ret ?_
                    refine blockA_ret ?_
                    refine thenA_ret ?_
                    cases h
                    refine ⟨rfl, ?_⟩
                    refine retQ_ret (by simp only [Tryz.results67]; simp only [go_sem, seval, hb_679T, hb_699F, hb_700F, hb_701T]; exact rfl) ?_
                    simp only [go_sem, seval, hb_679T, hb_699F, hb_700F, hb_701T]
                    all_goals ((repeat' refine And.intro ?_ ?_) <;> first | rfl | (simp; done) | (simp; rfl) | (simp [*]; done) | (simp [*]; rfl))
                  · rw [if_neg hb_701] at h
                    have hb_701T := eq_false hb_701
                    refine AL_known (d := 52) (v := .p (.bool false)) (by simp only [go_sem, seval, hb_679T, hb_699F, hb_700F, hb_701T]) ?_
                    refine AL_gt' (guard_true' rfl rfl (by exact rfl) (by exact rfl)) rfl (by simp only [go_sem, seval, hb_679T, hb_699F, hb_700F, hb_701T]; exact rfl) ?_
                    refine AL_gt' (guard_true' rfl rfl (by exact rfl) (by exact rfl)) rfl (by simp only [go_sem, seval, hb_679T, hb_699F, hb_700F, hb_701T]; exact rfl) ?_
                    refine AL_gt' (guard_true' rfl rfl (by exact rfl) (by exact rfl)) rfl (by simp only [go_sem, seval, hb_679T, hb_699F, hb_700F, hb_701T]; exact rfl) ?_
                    refine AL_upto (by exact rfl) (by simp only [go_sem, seval, hb_679T, hb_699F, hb_700F, hb_701T]; exact rfl) ?_
                    refine AL_nil ?_
                    refine thenA_n ?_
                    by_cases hb_702 : ((c_682.toNat : Nat) : Int) > 57
                    · rw [if_pos hb_702] at h
                      have hb_702T := eq_true hb_702
                      refine awp_ct (by simp only [go_sem, seval, hb_679T, hb_699F, hb_700F, hb_701T, hb_702T]) ?_
                      refine awp_seq ?_
                      refine awp_region ?_
                      refine AL_upto (by exact rfl) (by simp only [go_sem, seval, hb_679T, hb_699F, hb_700F, hb_701T, hb_702T]; exact rfl) ?_
                      refine AL_nil ?_
                      refine thenA_n ?_
                      refine awp_ret ?_
                      refine blockA_ret ?_
                      refine thenA_ret ?_
                      cases h
                      refine ⟨rfl, ?_⟩
                      refine retQ_ret (by simp only [Tryz.results67]; simp only [go_sem, seval, hb_679T, hb_699F, hb_700F, hb_701T, hb_702T]; exact rfl) ?_
                      simp only [go_sem, seval, hb_679T, hb_699F, hb_700F, hb_701T, hb_702T]
                      all_goals ((repeat' refine And.intro ?_ ?_) <;> first | rfl | (simp; done) | (simp; rfl) | (simp [*]; done) | (simp [*]; rfl))
                    · rw [if_neg hb_702] at h
                      have hb_702T := eq_false hb_702
                      refine awp_cf (by simp only [go_sem, seval, hb_679T, hb_699F, hb_700F, hb_701T, hb_702T]) ?_
                      refine awp_skip ?_
                      refine blockA_n ?_
                      refine thenA_n ?_
                      refine awp_region ?_
                      refine AL_upto (by exact rfl) (by simp only [go_sem, seval, hb_679T, hb_699F, hb_700F, hb_701T, hb_702T]; exact rfl) ?_
                      refine AL_nil ?_
                      cases h
                      refine ⟨rfl, ?_⟩
                      simp only [go_sem, seval, hb_679T, hb_699F, hb_700F, hb_701T, hb_702T]
                      all_goals ((repeat' refine And.intro ?_ ?_) <;> first | rfl | (simp; done) | (simp; rfl) | (simp [*]; done) | (simp [*]; rfl))
          · rw [if_neg hb_679] at h
            have hb_679T := eq_false hb_679
            refine awp_cf (by simp only [go_sem, seval, hb_679T]) ?_
            refine awp_exit ?_
            refine thenA_exit ?_
            cases h
            refine ⟨rfl, ?_⟩
            simp only [go_sem, seval, hb_679T]
            all_goals ((repeat' refine And.intro ?_ ?_) <;> first | rfl | (simp; done) | (simp; rfl) | (simp [*]; done) | (simp [*]; rfl))
        · intro e s' hT
          rcases o_704 with ⟨⟩ | r_706
          · try simp only at h
            try simp only at hT
            obtain ⟨rfl, hle⟩ := hT
            refine Wk.to hle ?_
            clear hle
            refine blockA_here ?_
            refine thenA_n ?_
            refine awp_seq ?_
            refine awp_region ?_
            refine AL_upto (by exact rfl) (by simp only [go_sem, seval, hb_625F, hb_626T, hb_627F]; exact rfl) ?_
            refine AL_nil ?_
            refine thenA_n ?_
            refine awp_ret ?_
            cases h
            refine retQ_ret (by simp only [Tryz.results67]; simp only [go_sem, seval, hb_625F, hb_626T, hb_627F]; exact rfl) ?_
            simp only [go_sem, seval, hb_625F, hb_626T, hb_627F]
            all_goals ((repeat' refine And.intro ?_ ?_) <;> first | rfl | (simp; done) | (simp; rfl) | (simp [*]; done) | (simp [*]; rfl))
          · try simp only at h
            try simp only at hT
            obtain ⟨rfl, hq⟩ := hT
            refine Wk.now ?_
            refine blockA_ret ?_
            refine thenA_ret ?_
            cases h
            exact hq
end Go.Proofs.YtdmddoljldjjeaaGreat
set_option linter.unusedVariables false
set_option linter.unusedSimpArgs false
namespace Go.Proofs.YtdmddoljldjjeaaGreat
open Go Go.Ab
set_option maxHeartbeats 4000000 in
theorem slices_Index_string_con (s_710 : List (List UInt8)) (v_711 : List UInt8) (r_733 : Int) (h : slices_Index_string s_710 v_711 = some r_733) : Con Tryz.prog 106 [(.slc (List.map PV.str s_710)), (.str v_711)] (.int .i64 r_733) := by
  refine ⟨Tryz.call106, ?_⟩
  refine pure_of_awp Tryz.func106 rfl Tryz.ntmps106 (by simp) fun X w => ?_
  show AWp _ _ _ ⟨[(0, .p (.slc (List.map PV.str s_710))), (1, .p (.str v_711))], []⟩
  simp only [slices_Index_string] at h
  refine awp_seq ?_
  refine awp_region ?_
  refine AL_upto (by exact rfl) (by simp only [go_sem, seval]; exact rfl) ?_
  refine AL_nil ?_
  refine thenA_n ?_
  refine awp_seq ?_
  refine awp_seq ?_
  refine awp_region ?_
  refine AL_upto (by exact rfl) (by simp only [go_sem, seval]; exact rfl) ?_
  refine AL_nil ?_
  refine thenA_n ?_
  refine awp_block ?_
  obtain ⟨o_728, hL_729, h⟩ := Option.bind_eq_some_iff.1 h
  refine awp_loop_L (fun (s : Int) => ⟨[(0, .p (.slc (List.map PV.str s_710))), (1, .p (.str v_711)), (7, .p (.int .i64 (s_710.length : Int))), (8, .p (.int .i64 s))], []⟩) (fun (o : (Unit) ⊕ (Int)) (e : Exit) (s' : St) => match o with | .inl o_731 => e = (.exit 0) ∧ Le ⟨Tryz.prog, Tryz.f106.ntmps, 0, X, [], fun _ => none, w⟩ s' ⟨[], []⟩ | .inr o_732 => e = .ret ∧ retQ Tryz.prog Tryz.f106 (.int .i64 o_732) .ret s') (by intro o s hT; rcases o with _ | _ <;> (have hh := hT.1; cases hh)) hL_729 (by simp only [go_sem, seval]; all_goals ((repeat' refine And.intro ?_ ?_) <;> first | rfl | (simp; done) | (simp; rfl) | (simp [*]; done) | (simp [*]; rfl))) ?_ ?_
  · clear h
    intro t8_717 x h
    simp only [slices_Index_string_l1] at h
    show AWp _ _ _ ⟨[(0, .p (.slc (List.map PV.str s_710))), (1, .p (.str v_711)), (7, .p (.int .i64 (s_710.length : Int))), (8, .p (.int .i64 t8_717))], []⟩
    refine awp_seq ?_
    refine awp_region ?_
    refine AL_upto (by exact rfl) (by simp only [go_sem, seval]; exact rfl) ?_
    refine AL_nil ?_
    refine thenA_n ?_
    refine awp_seq ?_
    by_cases hb_724 : t8_717 < (s_710.length : Int)
    · rw [if_pos hb_724] at h
      have hb_724T := eq_true hb_724
      refine awp_ct (by simp only [go_sem, seval, hb_724T]) ?_
      refine awp_skip ?_
      refine thenA_n ?_
      refine awp_seq ?_
      refine awp_block ?_
      refine awp_seq ?_
      refine awp_region ?_
      refine AL_upto (by exact rfl) (by simp only [go_sem, seval, hb_724T]; exact rfl) ?_
      refine AL_nil ?_
      refine thenA_n ?_
      refine awp_seq ?_
      refine awp_region ?_
      obtain ⟨x_725, hx_726, h⟩ := Option.bind_eq_some_iff.1 h
      obtain ⟨hx_726a, hx_726, hx_726b⟩ := idx_some hx_726
      have hx_726A := eq_true hx_726a
      have hx_726B := eq_true hx_726b
      refine AL_upto (by exact rfl) (by simp only [go_sem, seval, hb_724T, hx_726, hx_726A, hx_726B]; exact rfl) ?_
      refine AL_nil ?_
      refine thenA_n ?_
      by_cases hb_727 : (v_711 == x_725) = true
      · rw [if_pos hb_727] at h
        refine awp_ct (by simp only [go_sem, seval, hb_724T, hb_727]) ?_
        refine awp_seq ?_
        refine awp_region ?_
        refine AL_upto (by exact rfl) (by simp only [go_sem, seval, hb_724T, hb_727]; exact rfl) ?_
        refine AL_nil ?_
        refine thenA_n ?_
        refine awp_ret ?_
        refine blockA_ret ?_
        refine thenA_ret ?_
        cases h
        refine ⟨rfl, ?_⟩
        refine retQ_ret (by simp only [Tryz.results106]; simp only [go_sem, seval, hb_724T, hb_727]; exact rfl) ?_
        simp only [go_sem, seval, hb_724T, hb_727]
        all_goals ((repeat' refine And.intro ?_ ?_) <;> first | rfl | (simp; done) | (simp; rfl) | (simp [*]; done) | (simp [*]; rfl))
      · rw [if_neg hb_727] at h
        have hb_727F := Bool.eq_false_iff.2 hb_727
        refine awp_cf (by simp only [go_sem, seval, hb_724T, hb_727F]) ?_
        refine awp_skip ?_
        refine blockA_n ?_
        refine thenA_n ?_
        refine awp_region ?_
        refine AL_upto (by exact rfl) (by simp only [go_sem, seval, hb_724T, hb_727F]; exact rfl) ?_
        refine AL_nil ?_
        cases h
        refine ⟨rfl, ?_⟩
        simp only [go_sem, seval, hb_724T, hb_727F]
        all_goals ((repeat' refine And.intro ?_ ?_) <;> first | rfl | (simp; done) | (simp; rfl) | (simp [*]; done) | (simp [*]; rfl))
    · rw [if_neg hb_724] at h
      have hb_724T := eq_false hb_724
      refine awp_cf (by simp only [go_sem, seval, hb_724T]) ?_
      refine awp_exit ?_
      refine thenA_exit ?_
      cases h
      refine ⟨rfl, ?_⟩
      simp only [go_sem, seval, hb_724T]
      all_goals ((repeat' refine And.intro ?_ ?_) <;> first | rfl | (simp; done) | (simp; rfl) | (simp [*]; done) | (simp [*]; rfl))
  · intro e s' hT
    rcases o_728 with ⟨⟩ | r_730
    · try simp only at h
      try simp only at hT
      obtain ⟨rfl, hle⟩ := hT
      refine Wk.to hle ?_
      clear hle
      refine blockA_here ?_
      refine thenA_n ?_
      refine awp_seq ?_
      refine awp_region ?_
      refine AL_upto (by exact rfl) (by simp only [go_sem, seval]; exact rfl) ?_
      refine AL_nil ?_
      refine thenA_n ?_
      refine awp_ret ?_
      cases h
      refine retQ_ret (by simp only [Tryz.results106]; simp only [go_sem, seval]; exact rfl) ?_
      simp only [go_sem, seval]
      all_goals ((repeat' refine And.intro ?_ ?_) <;> first | rfl | (simp; done) | (simp; rfl) | (simp [*]; done) | (simp [*]; rfl))
    · try simp only at h
      try simp only at hT
      obtain ⟨rfl, hq⟩ := hT
      refine Wk.now ?_
      refine blockA_ret ?_
      refine thenA_ret ?_
      cases h
      exact hq
end Go.Proofs.YtdmddoljldjjeaaGreat
set_option linter.unusedVariables false
set_option linter.unusedSimpArgs false
namespace Go.Proofs.YtdmddoljldjjeaaGreat
open Go Go.Ab
set_option maxHeartbeats 4000000 in
theorem slices_Contains_string_con (s_734 : List (List UInt8)) (v_735 : List UInt8) (r_738 : Bool) (h : slices_Contains_string s_734 v_735 = some r_738) : Con Tryz.prog 68 [(.slc (List.map PV.str s_734)), (.str v_735)] (.bool r_738) := by
  refine ⟨Tryz.call68, ?_⟩
  refine pure_of_awp Tryz.func68 rfl Tryz.ntmps68 (by simp) fun X w => ?_
  show AWp _ _ _ ⟨[(0, .p (.slc (List.map PV.str s_734))), (1, .p (.str v_735))], []⟩
  simp only [slices_Contains_string] at h
  refine awp_seq ?_
  refine awp_region ?_
  refine AL_upto (by exact rfl) (by simp only [go_sem, seval]; exact rfl) ?_
  refine AL_nil ?_
  refine thenA_n ?_
  refine awp_seq ?_
  refine awp_region ?_
  refine AL_upto (by exact rfl) (by simp only [go_sem, seval]; exact rfl) ?_
  obtain ⟨r_736, hr_737, h⟩ := Option.bind_eq_some_iff.1 h
  refine AL_con' rfl (guard_none rfl) rfl (by simp only [go_sem, seval]; exact rfl) (by simp only [go_sem, seval]; all_goals ((repeat' refine And.intro ?_ ?_) <;> first | rfl | (simp; done) | (simp; rfl) | (simp [*]; done) | (simp [*]; rfl))) (slices_Index_string_con s_734 v_735 _ hr_737) (.inr rfl) rfl ?_
  refine AL_upto (by exact rfl) (by simp only [go_sem, seval]; exact rfl) ?_
  refine AL_nil ?_
  refine thenA_n ?_
  refine awp_ret ?_
  cases h
  refine retQ_ret (by simp only [Tryz.results68]; simp only [go_sem, seval]; exact rfl) ?_
  simp only [go_sem, seval]
  all_goals ((repeat' refine And.intro ?_ ?_) <;> first | rfl | (simp; done) | (simp; rfl) | (simp [*]; done) | (simp [*]; rfl))
end Go.Proofs.YtdmddoljldjjeaaGreat
set_option linter.unusedVariables false
set_option linter.unusedSimpArgs false
namespace Go.Proofs.YtdmddoljldjjeaaGreat
open Go Go.Ab
set_option maxHeartbeats 4000000 in
theorem table_validValues_1_con (v_739 : Value) (r_742 : Bool) (h : table_validValues_1 v_739 = some r_742) : Con Tryz.prog 107 [(encValue v_739)] (.bool r_742) := by
  refine ⟨Tryz.call107, ?_⟩
  refine pure_of_awp Tryz.func107 rfl Tryz.ntmps107 (by simp) fun X w => ?_
  show AWp _ _ _ ⟨[(0, .p (encValue v_739))], []⟩
  simp only [table_validValues_1] at h
  refine awp_seq ?_
  refine awp_region ?_
  refine AL_upto (by exact rfl) (by simp only [go_sem, seval]; exact rfl) ?_
  refine AL_nil ?_
  refine thenA_n ?_
  refine awp_seq ?_
  refine awp_region ?_
  refine AL_upto (by exact rfl) (by simp only [go_sem, seval]; exact rfl) ?_
  obtain ⟨r_740, hr_741, h⟩ := Option.bind_eq_some_iff.1 h
  refine AL_con' rfl (guard_none rfl) rfl (by simp only [go_sem, seval]; exact rfl) (by simp only [go_sem, seval]; all_goals ((repeat' refine And.intro ?_ ?_) <;> first | rfl | (simp; done) | (simp; rfl) | (simp [*]; done) | (simp [*]; rfl))) (value_Valid_con v_739 _ hr_741) (.inr rfl) rfl ?_
  refine AL_upto (by exact rfl) (by simp only [go_sem, seval]; exact rfl) ?_
  refine AL_nil ?_
  refine thenA_n ?_
  refine awp_ret ?_
  cases h
  refine retQ_ret (by simp only [Tryz.results107]; simp only [go_sem, seval]; exact rfl) ?_
  simp only [go_sem, seval]
  all_goals ((repeat' refine And.intro ?_ ?_) <;> first | rfl | (simp; done) | (simp; rfl) | (simp [*]; done) | (simp [*]; rfl))
end Go.Proofs.YtdmddoljldjjeaaGreat
set_option linter.unusedVariables false
set_option linter.unusedSimpArgs false
namespace Go.Proofs.YtdmddoljldjjeaaGreat
open Go Go.Ab
set_option maxHeartbeats 4000000 in
theorem table_validValues_con (l_743 : List Value) (r_747 : Bool) (h : table_validValues l_743 = some r_747) : Con Tryz.prog 69 [(.slc (List.map encValue l_743))] (.bool r_747) := by
  refine ⟨Tryz.call69, ?_⟩
  refine pure_of_awp Tryz.func69 rfl Tryz.ntmps69 (by simp) fun X w => ?_
  show AWp _ _ _ ⟨[(0, .p (.slc (List.map encValue l_743)))], []⟩
  simp only [table_validValues] at h
  refine awp_seq ?_
  refine awp_region ?_
  refine AL_upto (by exact rfl) (by simp only [go_sem, seval]; exact rfl) ?_
  refine AL_nil ?_
  refine thenA_n ?_
  refine awp_seq ?_
  refine awp_region ?_
  refine AL_upto (by exact rfl) (by simp only [go_sem, seval]; exact rfl) ?_
  obtain ⟨r_745, hr_746, h⟩ := Option.bind_eq_some_iff.1 h
  refine AL_con' rfl (guard_none rfl) rfl (by simp only [go_sem, seval]; exact rfl) (by simp only [go_sem, seval]; all_goals ((repeat' refine And.intro ?_ ?_) <;> first | rfl | (simp; done) | (simp; rfl) | (simp [*]; done) | (simp [*]; rfl))) (slices_ContainsFunc_Value_con l_743 (fun (y_744 : Value) => table_validValues_1 y_744) 107 [] (fun y_744 r h => table_validValues_1_con y_744 r h) _ hr_746) (.inr rfl) rfl ?_
  refine AL_upto (by exact rfl) (by simp only [go_sem, seval]; exact rfl) ?_
  refine AL_nil ?_
  refine thenA_n ?_
  refine awp_ret ?_
  cases h
  refine retQ_ret (by simp only [Tryz.results69]; simp only [go_sem, seval]; exact rfl) ?_
  simp only [go_sem, seval]
  all_goals ((repeat' refine And.intro ?_ ?_) <;> first | rfl | (simp; done) | (simp; rfl) | (simp [*]; done) | (simp [*]; rfl))
end Go.Proofs.YtdmddoljldjjeaaGreat
set_option linter.unusedVariables false
set_option linter.unusedSimpArgs false
namespace Go.Proofs.YtdmddoljldjjeaaGreat
open Go Go.Ab
set_option maxHeartbeats 4000000 in
theorem table_Valid_con (t_748 : Table) (r_846 : Int) (h : table_Valid t_748 = some r_846) : Con Tryz.prog 30 [(encTable t_748)] (.int .i64 r_846) := by
  refine ⟨Tryz.call30, ?_⟩
  refine pure_of_awp Tryz.func30 rfl Tryz.ntmps30 (by simp) fun X w => ?_
  show AWp _ _ _ ⟨[(0, .p (encTable t_748))], []⟩
  simp only [table_Valid] at h
  refine awp_seq ?_
  refine awp_region ?_
  refine AL_upto (by exact rfl) (by simp only [go_sem, seval]; exact rfl) ?_
  refine AL_nil ?_
  refine thenA_n ?_
  refine awp_seq ?_
  refine awp_seq ?_
  refine awp_region ?_
  refine AL_upto (by exact rfl) (by simp only [go_sem, seval]; exact rfl) ?_
  obtain ⟨r_749, hr_750, h⟩ := Option.bind_eq_some_iff.1 h
  refine AL_con' rfl (guard_none rfl) rfl (by simp only [go_sem, seval]; exact rfl) (by simp only [go_sem, seval]; all_goals ((repeat' refine And.intro ?_ ?_) <;> first | rfl | (simp; done) | (simp; rfl) | (simp [*]; done) | (simp [*]; rfl))) (table_isName_con t_748.Name _ hr_750) (.inr rfl) rfl ?_
  refine AL_upto (by exact rfl) (by simp only [go_sem, seval]; exact rfl) ?_
  refine AL_nil ?_
  refine thenA_n ?_
  by_cases hb_751 : r_749 = true
  · rw [if_pos hb_751] at h
    refine awp_cf (by simp only [go_sem, seval, hb_751]) ?_
    refine awp_skip ?_
    refine thenA_n ?_
    refine awp_seq ?_
    refine awp_seq ?_
    refine awp_region ?_
    refine AL_upto (by exact rfl) (by simp only [go_sem, seval, hb_751]; exact rfl) ?_
    by_cases hb_752 : (t_748.Attrs.length : Int) > 16
    · rw [if_pos hb_752] at h
      have hb_752T := eq_true hb_752
      refine AL_known (d := 16) (v := .p (.bool true)) (by simp only [go_sem, seval, hb_751, hb_752T]) ?_
      refine AL_skips (by exact rfl) ?_
      refine AL_upto (by exact rfl) (by simp only [go_sem, seval, hb_751, hb_752T]; exact rfl) ?_
      refine AL_nil ?_
      refine thenA_n ?_
      refine awp_ct (by simp only [go_sem, seval, hb_751, hb_752T]) ?_
      refine awp_seq ?_
      refine awp_region ?_
      refine AL_upto (by exact rfl) (by simp only [go_sem, seval, hb_751, hb_752T]; exact rfl) ?_
      refine AL_nil ?_
      refine thenA_n ?_
      refine awp_ret ?_
      refine thenA_ret ?_
      cases h
      refine retQ_ret (by simp only [Tryz.results30]; simp only [go_sem, seval, hb_751, hb_752T]; exact rfl) ?_
      simp only [go_sem, seval, hb_751, hb_752T]
      all_goals ((repeat' refine And.intro ?_ ?_) <;> first | rfl | (simp; done) | (simp; rfl) | (simp [*]; done) | (simp [*]; rfl))
    · rw [if_neg hb_752] at h
      have hb_752T := eq_false hb_752
      refine AL_known (d := 16) (v := .p (.bool false)) (by simp only [go_sem, seval, hb_751, hb_752T]) ?_
      refine AL_gt' (guard_true' rfl rfl (by exact rfl) (by exact rfl)) rfl (by simp only [go_sem, seval, hb_751, hb_752T]; exact rfl) ?_
      refine AL_gt' (guard_true' rfl rfl (by exact rfl) (by exact rfl)) rfl (by simp only [go_sem, seval, hb_751, hb_752T]; exact rfl) ?_
      refine AL_gt' (guard_true' rfl rfl (by exact rfl) (by exact rfl)) rfl (by simp only [go_sem, seval, hb_751, hb_752T]; exact rfl) ?_
      refine AL_gt' (guard_true' rfl rfl (by exact rfl) (by exact rfl)) rfl (by simp only [go_sem, seval, hb_751, hb_752T]; exact rfl) ?_
      refine AL_upto (by exact rfl) (by simp only [go_sem, seval, hb_751, hb_752T]; exact rfl) ?_
      refine AL_nil ?_
      refine thenA_n ?_
      by_cases hb_753 : (t_748.Rows.length : Int) > 1000
      · rw [if_pos hb_753] at h
        have hb_753T := eq_true hb_753
        refine awp_ct (by simp only [go_sem, seval, hb_751, hb_752T, hb_753T]) ?_
        refine awp_seq ?_
        refine awp_region ?_
        refine AL_upto (by exact rfl) (by simp only [go_sem, seval, hb_751, hb_752T, hb_753T]; exact rfl) ?_
        refine AL_nil ?_
        refine thenA_n ?_
        refine awp_ret ?_
        refine thenA_ret ?_
        cases h
        refine retQ_ret (by simp only [Tryz.results30]; simp only [go_sem, seval, hb_751, hb_752T, hb_753T]; exact rfl) ?_
        simp only [go_sem, seval, hb_751, hb_752T, hb_753T]
        all_goals ((repeat' refine And.intro ?_ ?_) <;> first | rfl | (simp; done) | (simp; rfl) | (simp [*]; done) | (simp [*]; rfl))
      · rw [if_neg hb_753] at h
        have hb_753T := eq_false hb_753
        refine awp_cf (by simp only [go_sem, seval, hb_751, hb_752T, hb_753T]) ?_
        refine awp_skip ?_
        refine thenA_n ?_
        refine awp_seq ?_
        refine awp_seq ?_
        refine awp_region ?_
        refine AL_upto (by exact rfl) (by simp only [go_sem, seval, hb_751, hb_752T, hb_753T]; exact rfl) ?_
        refine AL_nil ?_
        refine thenA_n ?_
        refine awp_block ?_
        obtain ⟨o_801, hL_802, h⟩ := Option.bind_eq_some_iff.1 h
        refine awp_loop_L (fun (s : Int) => ⟨[(1, .loc 1 1 0 0), (23, .p (.slc (List.map PV.str t_748.Attrs))), (24, .p (.int .i64 (t_748.Attrs.length : Int))), (25, .p (.int .i64 s))], [(1, .arr 25 3 1 [.p (encTable t_748)])]⟩) (fun (o : (Unit) ⊕ (Int)) (e : Exit) (s' : St) => match o with | .inl o_844 => e = (.exit 0) ∧ Le ⟨Tryz.prog, Tryz.f30.ntmps, 0, X, [], fun _ => none, w⟩ s' ⟨[(1, .loc 1 1 0 0)], [(1, .arr 25 3 1 [.p (encTable t_748)])]⟩ | .inr o_845 => e = .ret ∧ retQ Tryz.prog Tryz.f30 (.int .i64 o_845) .ret s') (by intro o s hT; rcases o with _ | _ <;> (have hh := hT.1; cases hh)) hL_802 (by simp only [go_sem, seval, hb_751, hb_752T, hb_753T]; all_goals ((repeat' refine And.intro ?_ ?_) <;> first | rfl | (simp; done) | (simp; rfl) | (simp [*]; done) | (simp [*]; rfl))) ?_ ?_
        · clear h
          intro t25_768 x h
          simp only [table_Valid_l1] at h
          show AWp _ _ _ ⟨[(1, .loc 1 1 0 0), (23, .p (.slc (List.map PV.str t_748.Attrs))), (24, .p (.int .i64 (t_748.Attrs.length : Int))), (25, .p (.int .i64 t25_768))], [(1, .arr 25 3 1 [.p (encTable t_748)])]⟩
          refine awp_seq ?_
          refine awp_region ?_
          refine AL_upto (by exact rfl) (by simp only [go_sem, seval]; exact rfl) ?_
          refine AL_nil ?_
          refine thenA_n ?_
          refine awp_seq ?_
          by_cases hb_786 : t25_768 < (t_748.Attrs.length : Int)
          · rw [if_pos hb_786] at h
            have hb_786T := eq_true hb_786
            refine awp_ct (by simp only [go_sem, seval, hb_786T]) ?_
            refine awp_skip ?_
            refine thenA_n ?_
            refine awp_seq ?_
            refine awp_block ?_
            refine awp_seq ?_
            refine awp_region ?_
            obtain ⟨x_789, hx_790, h⟩ := Option.bind_eq_some_iff.1 h
            obtain ⟨hx_790a, hx_790, hx_790b⟩ := idx_some hx_790
            have hx_790A := eq_true hx_790a
            have hx_790B := eq_true hx_790b
            refine AL_upto (by exact rfl) (by simp only [go_sem, seval, hb_786T, hx_790, hx_790A, hx_790B]; exact rfl) ?_
            refine AL_nil ?_
            refine thenA_n ?_
            refine awp_seq ?_
            refine awp_region ?_
            refine AL_upto (by exact rfl) (by simp only [go_sem, seval, hb_786T]; exact rfl) ?_
            obtain ⟨r_791, hr_792, h⟩ := Option.bind_eq_some_iff.1 h
            refine AL_con' rfl (guard_none rfl) rfl (by simp only [go_sem, seval, hb_786T]; exact rfl) (by simp only [go_sem, seval, hb_786T]; all_goals ((repeat' refine And.intro ?_ ?_) <;> first | rfl | (simp; done) | (simp; rfl) | (simp [*]; done) | (simp [*]; rfl))) (table_isName_con x_789 _ hr_792) (.inr rfl) rfl ?_
            refine AL_upto (by exact rfl) (by simp only [go_sem, seval, hb_786T]; exact rfl) ?_
            by_cases hb_793 : r_791 = true
            · rw [if_pos hb_793] at h
              refine AL_known (d := 33) (v := .p (.bool false)) (by simp only [go_sem, seval, hb_786T, hb_793]) ?_
              refine AL_gt' (guard_true' rfl rfl (by exact rfl) (by exact rfl)) rfl (by simp only [go_sem, seval, hb_786T, hb_793]; exact rfl) ?_
              refine AL_gt' (guard_true' rfl rfl (by exact rfl) (by exact rfl)) rfl (by simp only [go_sem, seval, hb_786T, hb_793]; exact rfl) ?_
              refine AL_gt' (guard_true' rfl rfl (by exact rfl) (by exact rfl)) rfl (by simp only [go_sem, seval, hb_786T, hb_793]; exact rfl) ?_
              obtain ⟨hc_796, h⟩ := ite_some h
              have hc_796T := eq_true hc_796
              obtain ⟨hc_797, h⟩ := ite_some h
              have hc_797T := eq_true hc_797
              refine AL_gt' (guard_true' rfl rfl (by exact rfl) (by exact rfl)) rfl (by simp only [go_sem, seval, hb_786T, hb_793, hc_796T, hc_797T]; exact rfl) ?_
              refine AL_gt' (guard_true' rfl rfl (by exact rfl) (by exact rfl)) rfl (by simp only [go_sem, seval, hb_786T, hb_793]; exact rfl) ?_
              obtain ⟨r_798, hr_799, h⟩ := Option.bind_eq_some_iff.1 h
              refine AL_con' rfl (guard_true' rfl rfl (by exact rfl) (by exact rfl)) rfl (by simp only [go_sem, seval, hb_786T, hb_793]; exact rfl) (by simp only [go_sem, seval, hb_786T, hb_793]; all_goals ((repeat' refine And.intro ?_ ?_) <;> first | rfl | (simp; done) | (simp; rfl) | (simp [*]; done) | (simp [*]; rfl))) (slices_Contains_string_con (t_748.Attrs.take (t25_768.toNat)) x_789 _ hr_799) (.inr rfl) rfl ?_
              refine AL_upto (by exact rfl) (by simp only [go_sem, seval, hb_786T, hb_793]; exact rfl) ?_
              refine AL_nil ?_
              refine thenA_n ?_
              by_cases hb_800 : r_798 = true
              · rw [if_pos hb_800] at h
                refine awp_ct (by simp only [go_sem, seval, hb_786T, hb_793, hb_800]) ?_
                refine awp_seq ?_
                refine awp_region ?_
                refine AL_upto (by exact rfl) (by simp only [go_sem, seval, hb_786T, hb_793, hb_800]; exact rfl) ?_
                refine AL_nil ?_
                refine thenA_n ?_
                refine awp_ret ?_
                refine blockA_ret ?_
                refine thenA_ret ?_
                cases h
                refine ⟨rfl, ?_⟩
                refine retQ_ret (by simp only [Tryz.results30]; simp only [go_sem, seval, hb_786T, hb_793, hb_800]; exact rfl) ?_
                simp only [go_sem, seval, hb_786T, hb_793, hb_800]
                all_goals ((repeat' refine And.intro ?_ ?_) <;> first | rfl | (simp; done) | (simp; rfl) | (simp [*]; done) | (simp [*]; rfl))
              · rw [if_neg hb_800] at h
                have hb_800F := Bool.eq_false_iff.2 hb_800
                refine awp_cf (by simp only [go_sem, seval, hb_786T, hb_793, hb_800F]) ?_
                refine awp_skip ?_
                refine blockA_n ?_
                refine thenA_n ?_
                refine awp_region ?_
                refine AL_upto (by exact rfl) (by simp only [go_sem, seval, hb_786T, hb_793, hb_800F]; exact rfl) ?_
                refine AL_nil ?_
                cases h
                refine ⟨rfl, ?_⟩
                simp only [go_sem, seval, hb_786T, hb_793, hb_800F]
                all_goals ((repeat' refine And.intro ?_ ?_) <;> first | rfl | (simp; done) | (simp; rfl) | (simp [*]; done) | (simp [*]; rfl))
            · rw [if_neg hb_793] at h
              have hb_793F := Bool.eq_false_iff.2 hb_793
              refine AL_known (d := 33) (v := .p (.bool true)) (by simp only [go_sem, seval, hb_786T, hb_793F]) ?_
              refine AL_skips (by exact rfl) ?_
              refine AL_upto (by exact rfl) (by simp only [go_sem, seval, hb_786T, hb_793F]; exact rfl) ?_
              refine AL_nil ?_
              refine thenA_n ?_
              refine awp_ct (by simp only [go_sem, seval, hb_786T, hb_793F]) ?_
              refine awp_seq ?_
              refine awp_region ?_
              refine AL_upto (by exact rfl) (by simp only [go_sem, seval, hb_786T, hb_793F]; exact rfl) ?_
              refine AL_nil ?_
              refine thenA_n ?_
              refine awp_ret ?_
              refine blockA_ret ?_
              refine thenA_ret ?_
              cases h
              refine ⟨rfl, ?_⟩
              refine retQ_ret (by simp only [Tryz.results30]; simp only [go_sem, seval, hb_786T, hb_793F]; exact rfl) ?_
              simp only [go_sem, seval, hb_786T, hb_793F]
              all_goals ((repeat' refine And.intro ?_ ?_) <;> first | rfl | (simp; done) | (simp; rfl) | (simp [*]; done) | (simp [*]; rfl))
          · rw [if_neg hb_786] at h
            have hb_786T := eq_false hb_786
            refine awp_cf (by simp only [go_sem, seval, hb_786T]) ?_
            refine awp_exit ?_
            refine thenA_exit ?_
            cases h
            refine ⟨rfl, ?_⟩
            simp only [go_sem, seval, hb_786T]
            all_goals ((repeat' refine And.intro ?_ ?_) <;> first | rfl | (simp; done) | (simp; rfl) | (simp [*]; done) | (simp [*]; rfl))
        · intro e s' hT
          rcases o_801 with ⟨⟩ | r_843
          · try simp only at h
            try simp only at hT
            obtain ⟨rfl, hle⟩ := hT
            refine Wk.to hle ?_
            clear hle
            refine blockA_here ?_
            refine thenA_n ?_
            refine awp_seq ?_
            refine awp_region ?_
            refine AL_upto (by exact rfl) (by simp only [go_sem, seval, hb_751, hb_752T, hb_753T]; exact rfl) ?_
            refine AL_nil ?_
            refine thenA_n ?_
            refine awp_seq ?_
            refine awp_seq ?_
            refine awp_region ?_
            refine AL_upto (by exact rfl) (by simp only [go_sem, seval, hb_751, hb_752T, hb_753T]; exact rfl) ?_
            refine AL_nil ?_
            refine thenA_n ?_
            refine awp_block ?_
            obtain ⟨o_838, hL_839, h⟩ := Option.bind_eq_some_iff.1 h
            refine awp_loop_L (fun (s : Int × Int) => ⟨[(1, .loc 1 1 0 0), (5, .p (.int .i64 s.1)), (43, .p (.slc (List.map encRow t_748.Rows))), (44, .p (.int .i64 (t_748.Rows.length : Int))), (45, .p (.int .i64 s.2))], [(1, .arr 25 3 1 [.p (encTable t_748)])]⟩) (fun (o : (Unit) ⊕ (Int)) (e : Exit) (s' : St) => match o with | .inl o_841 => e = (.exit 2) ∧ Le ⟨Tryz.prog, Tryz.f30.ntmps, 0, X, [], fun _ => none, w⟩ s' ⟨[], []⟩ | .inr o_842 => e = .ret ∧ retQ Tryz.prog Tryz.f30 (.int .i64 o_842) .ret s') (by intro o s hT; rcases o with _ | _ <;> (have hh := hT.1; cases hh)) hL_839 (by simp only [go_sem, seval, hb_751, hb_752T, hb_753T]; all_goals ((repeat' refine And.intro ?_ ?_) <;> first | rfl | (simp; done) | (simp; rfl) | (simp [*]; done) | (simp [*]; rfl))) ?_ ?_
            · clear h
              intro s x h
              obtain ⟨last_814, t45_815⟩ := s
              simp only [table_Valid_l2] at h
              show AWp _ _ _ ⟨[(1, .loc 1 1 0 0), (5, .p (.int .i64 last_814)), (43, .p (.slc (List.map encRow t_748.Rows))), (44, .p (.int .i64 (t_748.Rows.length : Int))), (45, .p (.int .i64 t45_815))], [(1, .arr 25 3 1 [.p (encTable t_748)])]⟩
              refine awp_seq ?_
              refine awp_region ?_
              refine AL_upto (by exact rfl) (by simp only [go_sem, seval]; exact rfl) ?_
              refine AL_nil ?_
              refine thenA_n ?_
              refine awp_seq ?_
              by_cases hb_828 : t45_815 < (t_748.Rows.length : Int)
              · rw [if_pos hb_828] at h
                have hb_828T := eq_true hb_828
                refine awp_ct (by simp only [go_sem, seval, hb_828T]) ?_
                refine awp_skip ?_
                refine thenA_n ?_
                refine awp_seq ?_
                refine awp_block ?_
                refine awp_seq ?_
                refine awp_region ?_
                obtain ⟨x_831, hx_832, h⟩ := Option.bind_eq_some_iff.1 h
                obtain ⟨hx_832a, hx_832, hx_832b⟩ := idx_some hx_832
                have hx_832A := eq_true hx_832a
                have hx_832B := eq_true hx_832b
                refine AL_upto (by exact rfl) (by simp only [go_sem, seval, hb_828T, hx_832, hx_832A, hx_832B]; exact rfl) ?_
                refine AL_nil ?_
                refine thenA_n ?_
                refine awp_seq ?_
                refine awp_block ?_
                refine awp_seq ?_
                refine awp_region ?_
                refine AL_upto (by exact rfl) (by simp only [go_sem, seval, hb_828T]; exact rfl) ?_
                refine AL_nil ?_
                refine thenA_n ?_
                by_cases hb_833 : x_831.ID ≤ last_814
                · rw [if_pos hb_833] at h
                  have hb_833T := eq_true hb_833
                  refine awp_ct (by simp only [go_sem, seval, hb_828T, hb_833T]) ?_
                  refine awp_seq ?_
                  refine awp_region ?_
                  refine AL_upto (by exact rfl) (by simp only [go_sem, seval, hb_828T, hb_833T]; exact rfl) ?_
                  refine AL_nil ?_
                  refine thenA_n ?_
                  refine awp_ret ?_
                  refine blockA_ret ?_
                  refine thenA_ret ?_
                  refine blockA_ret ?_
                  refine thenA_ret ?_
                  cases h
                  refine ⟨rfl, ?_⟩
                  refine retQ_ret (by simp only [Tryz.results30]; simp only [go_sem, seval, hb_828T, hb_833T]; exact rfl) ?_
                  simp only [go_sem, seval, hb_828T, hb_833T]
                  all_goals ((repeat' refine And.intro ?_ ?_) <;> first | rfl | (simp; done) | (simp; rfl) | (simp [*]; done) | (simp [*]; rfl))
                · rw [if_neg hb_833] at h
                  have hb_833T := eq_false hb_833
                  refine awp_cf (by simp only [go_sem, seval, hb_828T, hb_833T]) ?_
                  refine awp_seq ?_
                  refine awp_region ?_
                  refine AL_upto (by exact rfl) (by simp only [go_sem, seval, hb_828T, hb_833T]; exact rfl) ?_
                  refine AL_nil ?_
                  refine thenA_n ?_
                  by_cases hb_834 : ((x_831.Values.length : Int) != (t_748.Attrs.length : Int)) = true
                  · rw [if_pos hb_834] at h
                    refine awp_ct (by simp only [go_sem, seval, hb_828T, hb_833T, hb_834]) ?_
                    refine awp_seq ?_
                    refine awp_region ?_
                    refine AL_upto (by exact rfl) (by simp only [go_sem, seval, hb_828T, hb_833T, hb_834]; exact rfl) ?_
                    refine AL_nil ?_
                    refine thenA_n ?_
                    refine awp_ret ?_
                    refine blockA_ret ?_
                    refine thenA_ret ?_
                    refine blockA_ret ?_
                    refine thenA_ret ?_
                    cases h
                    refine ⟨rfl, ?_⟩
                    refine retQ_ret (by simp only [Tryz.results30]; simp only [go_sem, seval, hb_828T, hb_833T, hb_834]; exact rfl) ?_
                    simp only [go_sem, seval, hb_828T, hb_833T, hb_834]
                    all_goals ((repeat' refine And.intro ?_ ?_) <;> first | rfl | (simp; done) | (simp; rfl) | (simp [*]; done) | (simp [*]; rfl))
                  · rw [if_neg hb_834] at h
                    have hb_834F := Bool.eq_false_iff.2 hb_834
                    refine awp_cf (by simp only [go_sem, seval, hb_828T, hb_833T, hb_834F]) ?_
                    refine awp_seq ?_
                    refine awp_region ?_
                    refine AL_upto (by exact rfl) (by simp only [go_sem, seval, hb_828T, hb_833T, hb_834F]; exact rfl) ?_
                    obtain ⟨r_835, hr_836, h⟩ := Option.bind_eq_some_iff.1 h
                    refine AL_con' rfl (guard_none rfl) rfl (by simp only [go_sem, seval, hb_828T, hb_833T, hb_834F]; exact rfl) (by simp only [go_sem, seval, hb_828T, hb_833T, hb_834F]; all_goals ((repeat' refine And.intro ?_ ?_) <;> first | rfl | (simp; done) | (simp; rfl) | (simp [*]; done) | (simp [*]; rfl))) (table_validValues_con x_831.Values _ hr_836) (.inr rfl) rfl ?_
                    refine AL_upto (by exact rfl) (by simp only [go_sem, seval, hb_828T, hb_833T, hb_834F]; exact rfl) ?_
                    refine AL_nil ?_
                    refine thenA_n ?_
                    by_cases hb_837 : r_835 = true
                    · rw [if_pos hb_837] at h
                      refine awp_cf (by simp only [go_sem, seval, hb_828T, hb_833T, hb_834F, hb_837]) ?_
                      refine awp_skip ?_
                      refine blockA_n ?_
                      refine thenA_n ?_
                      refine awp_region ?_
                      refine AL_upto (by exact rfl) (by simp only [go_sem, seval, hb_828T, hb_833T, hb_834F, hb_837]; exact rfl) ?_
                      refine AL_nil ?_
                      refine blockA_n ?_
                      refine thenA_n ?_
                      refine awp_region ?_
                      refine AL_upto (by exact rfl) (by simp only [go_sem, seval, hb_828T, hb_833T, hb_834F, hb_837]; exact rfl) ?_
                      refine AL_nil ?_
                      cases h
                      refine ⟨rfl, ?_⟩
                      simp only [go_sem, seval, hb_828T, hb_833T, hb_834F, hb_837]
                      all_goals ((repeat' refine And.intro ?_ ?_) <;> first | rfl | (simp; done) | (simp; rfl) | (simp [*]; done) | (simp [*]; rfl))
                    · rw [if_neg hb_837] at h
                      have hb_837F := Bool.eq_false_iff.2 hb_837
                      refine awp_ct (by simp only [go_sem, seval, hb_828T, hb_833T, hb_834F, hb_837F]) ?_
                      refine awp_seq ?_
                      refine awp_region ?_
                      refine AL_upto (by exact rfl) (by simp only [go_sem, seval, hb_828T, hb_833T, hb_834F, hb_837F]; exact rfl) ?_
                      refine AL_nil ?_
                      refine thenA_n ?_
                      refine awp_ret ?_
                      refine blockA_ret ?_
                      refine thenA_ret ?_
                      refine blockA_ret ?_
                      refine thenA_ret ?_
                      cases h
                      refine ⟨rfl, ?_⟩
                      refine retQ_ret (by simp only [Tryz.results30]; simp only [go_sem, seval, hb_828T, hb_833T, hb_834F, hb_837F]; exact rfl) ?_
                      simp only [go_sem, seval, hb_828T, hb_833T, hb_834F, hb_837F]
                      all_goals ((repeat' refine And.intro ?_ ?_) <;> first | rfl | (simp; done) | (simp; rfl) | (simp [*]; done) | (simp [*]; rfl))
              · rw [if_neg hb_828] at h
                have hb_828T := eq_false hb_828
                refine awp_cf (by simp only [go_sem, seval, hb_828T]) ?_
                refine awp_exit ?_
                refine thenA_exit ?_
                cases h
                refine ⟨rfl, ?_⟩
                simp only [go_sem, seval, hb_828T]
                all_goals ((repeat' refine And.intro ?_ ?_) <;> first | rfl | (simp; done) | (simp; rfl) | (simp [*]; done) | (simp [*]; rfl))
            · intro e s' hT
              rcases o_838 with ⟨⟩ | r_840
              · try simp only at h
                try simp only at hT
                obtain ⟨rfl, hle⟩ := hT
                refine Wk.to hle ?_
                clear hle
                refine blockA_here ?_
                refine thenA_n ?_
                refine awp_seq ?_
                refine awp_region ?_
                refine AL_upto (by exact rfl) (by simp only [go_sem, seval, hb_751, hb_752T, hb_753T]; exact rfl) ?_
                refine AL_nil ?_
                refine thenA_n ?_
                refine awp_ret ?_
                cases h
                refine retQ_ret (by simp only [Tryz.results30]; simp only [go_sem, seval, hb_751, hb_752T, hb_753T]; exact rfl) ?_
                simp only [go_sem, seval, hb_751, hb_752T, hb_753T]
                all_goals ((repeat' refine And.intro ?_ ?_) <;> first | rfl | (simp; done) | (simp; rfl) | (simp [*]; done) | (simp [*]; rfl))
              · try simp only at h
                try simp only at hT
                obtain ⟨rfl, hq⟩ := hT
                refine Wk.now ?_
                refine blockA_ret ?_
                refine thenA_ret ?_
                cases h
                exact hq
          · try simp only at h
            try simp only at hT
            obtain ⟨rfl, hq⟩ := hT
            refine Wk.now ?_
            refine blockA_ret ?_
            refine thenA_ret ?_
            cases h
            exact hq
  · rw [if_neg hb_751] at h
    have hb_751F := Bool.eq_false_iff.2 hb_751
    refine awp_ct (by simp only [go_sem, seval, hb_751F]) ?_
    refine awp_seq ?_
    refine awp_region ?_
    refine AL_upto (by exact rfl) (by simp only [go_sem, seval, hb_751F]; exact rfl) ?_
    refine AL_nil ?_
    refine thenA_n ?_
    refine awp_ret ?_
    refine thenA_ret ?_
    cases h
    refine retQ_ret (by simp only [Tryz.results30]; simp only [go_sem, seval, hb_751F]; exact rfl) ?_
    simp only [go_sem, seval, hb_751F]
    all_goals ((repeat' refine And.intro ?_ ?_) <;> first | rfl | (simp; done) | (simp; rfl) | (simp [*]; done) | (simp [*]; rfl))
end Go.Proofs.YtdmddoljldjjeaaGreat
