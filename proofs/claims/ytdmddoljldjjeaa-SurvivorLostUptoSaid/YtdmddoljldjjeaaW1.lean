/- Each function of the program computes what its Lean function says, where that has a value. -/
import Derived.Shelf.Small.Strs
import Derived.Test.YtdmddoljldjjeaaT1
import Derived.Test.YtdmddoljldjjeaaL1
set_option linter.unusedVariables false
set_option linter.unusedSimpArgs false
namespace Go.Proofs.Ytdmddoljldjjeaa
open Go Go.Ab
theorem mixed : Try.prog.follows .mixedOrders = true := by kernel_rfl
def encValue (x : Value) : PV := .agg [.int .i64 x.Kind, .int .i64 x.Num, .str x.Str]
@[go_sem] theorem encValue_fold (x : Value) : PV.agg [.int .i64 x.Kind, .int .i64 x.Num, .str x.Str] = encValue x := rfl
@[go_sem] theorem encValue_cells (x : Value) : (encValue x).cells = [.int .i64 x.Kind, .int .i64 x.Num, .str x.Str] := rfl
@[go_sem] theorem encValue_isAgg (x : Value) : (encValue x).isAgg = true := rfl
@[go_sem] theorem encValue_isTup (x : Value) : (encValue x).isTup = false := rfl
@[go_sem] theorem encValue_sl (l : List Value) : ((l.map encValue).all fun y => y.cells.length == 3) = true := by simp [encValue, PV.cells]
@[go_sem] theorem encValue_ok (l : List Value) : ((l.map encValue).map AV.p).all (elemOk 3) = true := elemOkAll_map _ _ _ fun _ => ⟨rfl, rfl⟩
@[go_sem] theorem encValue_flat (x : Value) : (encValue x).flat = true := rfl
def encRow (x : Row) : PV := .agg [.int .i64 x.ID, .slc (List.map encValue x.Values)]
@[go_sem] theorem encRow_fold (x : Row) : PV.agg [.int .i64 x.ID, .slc (List.map encValue x.Values)] = encRow x := rfl
@[go_sem] theorem encRow_cells (x : Row) : (encRow x).cells = [.int .i64 x.ID, .slc (List.map encValue x.Values)] := rfl
@[go_sem] theorem encRow_isAgg (x : Row) : (encRow x).isAgg = true := rfl
@[go_sem] theorem encRow_isTup (x : Row) : (encRow x).isTup = false := rfl
@[go_sem] theorem encRow_sl (l : List Row) : ((l.map encRow).all fun y => y.cells.length == 2) = true := by simp [encRow, PV.cells]
@[go_sem] theorem encRow_ok (l : List Row) : ((l.map encRow).map AV.p).all (elemOk 2) = true := elemOkAll_map _ _ _ fun _ => ⟨rfl, rfl⟩
def encDrossref55_Result (x : Drossref55_Result) : PV := .agg [.int .i64 x.Value.Kind, .int .i64 x.Value.Num, .str x.Value.Str, .int .i64 x.Origin]
@[go_sem] theorem encDrossref55_Result_fold (x : Drossref55_Result) : PV.agg [.int .i64 x.Value.Kind, .int .i64 x.Value.Num, .str x.Value.Str, .int .i64 x.Origin] = encDrossref55_Result x := rfl
@[go_sem] theorem encDrossref55_Result_cells (x : Drossref55_Result) : (encDrossref55_Result x).cells = [.int .i64 x.Value.Kind, .int .i64 x.Value.Num, .str x.Value.Str, .int .i64 x.Origin] := rfl
@[go_sem] theorem encDrossref55_Result_isAgg (x : Drossref55_Result) : (encDrossref55_Result x).isAgg = true := rfl
@[go_sem] theorem encDrossref55_Result_isTup (x : Drossref55_Result) : (encDrossref55_Result x).isTup = false := rfl
@[go_sem] theorem encDrossref55_Result_sl (l : List Drossref55_Result) : ((l.map encDrossref55_Result).all fun y => y.cells.length == 4) = true := by simp [encDrossref55_Result, PV.cells]
@[go_sem] theorem encDrossref55_Result_ok (l : List Drossref55_Result) : ((l.map encDrossref55_Result).map AV.p).all (elemOk 4) = true := elemOkAll_map _ _ _ fun _ => ⟨rfl, rfl⟩
@[go_sem] theorem encDrossref55_Result_flat (x : Drossref55_Result) : (encDrossref55_Result x).flat = true := rfl
def encDrossref55_Row (x : Drossref55_Row) : PV := .agg [.int .i64 x.Row.ID, .slc (List.map encValue x.Row.Values), .slc (List.map (PV.int .i64) x.Origins)]
@[go_sem] theorem encDrossref55_Row_fold (x : Drossref55_Row) : PV.agg [.int .i64 x.Row.ID, .slc (List.map encValue x.Row.Values), .slc (List.map (PV.int .i64) x.Origins)] = encDrossref55_Row x := rfl
@[go_sem] theorem encDrossref55_Row_cells (x : Drossref55_Row) : (encDrossref55_Row x).cells = [.int .i64 x.Row.ID, .slc (List.map encValue x.Row.Values), .slc (List.map (PV.int .i64) x.Origins)] := rfl
@[go_sem] theorem encDrossref55_Row_isAgg (x : Drossref55_Row) : (encDrossref55_Row x).isAgg = true := rfl
@[go_sem] theorem encDrossref55_Row_isTup (x : Drossref55_Row) : (encDrossref55_Row x).isTup = false := rfl
@[go_sem] theorem encDrossref55_Row_sl (l : List Drossref55_Row) : ((l.map encDrossref55_Row).all fun y => y.cells.length == 3) = true := by simp [encDrossref55_Row, PV.cells]
@[go_sem] theorem encDrossref55_Row_ok (l : List Drossref55_Row) : ((l.map encDrossref55_Row).map AV.p).all (elemOk 3) = true := elemOkAll_map _ _ _ fun _ => ⟨rfl, rfl⟩
def encTable (x : Table) : PV := .agg [.str x.Name, .slc (List.map PV.str x.Attrs), .slc (List.map encRow x.Rows)]
@[go_sem] theorem encTable_fold (x : Table) : PV.agg [.str x.Name, .slc (List.map PV.str x.Attrs), .slc (List.map encRow x.Rows)] = encTable x := rfl
@[go_sem] theorem encTable_cells (x : Table) : (encTable x).cells = [.str x.Name, .slc (List.map PV.str x.Attrs), .slc (List.map encRow x.Rows)] := rfl
@[go_sem] theorem encTable_isAgg (x : Table) : (encTable x).isAgg = true := rfl
@[go_sem] theorem encTable_isTup (x : Table) : (encTable x).isTup = false := rfl
@[go_sem] theorem encTable_sl (l : List Table) : ((l.map encTable).all fun y => y.cells.length == 3) = true := by simp [encTable, PV.cells]
@[go_sem] theorem encTable_ok (l : List Table) : ((l.map encTable).map AV.p).all (elemOk 3) = true := elemOkAll_map _ _ _ fun _ => ⟨rfl, rfl⟩
def encMerged (x : Merged) : PV := .agg [.str x.Table.Name, .slc (List.map PV.str x.Table.Attrs), .slc (List.map encRow x.Table.Rows), .slc (List.map (encL (PV.int .i64)) x.Clusters), .slc (List.map (encL (PV.int .i64)) x.Origins)]
@[go_sem] theorem encMerged_fold (x : Merged) : PV.agg [.str x.Table.Name, .slc (List.map PV.str x.Table.Attrs), .slc (List.map encRow x.Table.Rows), .slc (List.map (encL (PV.int .i64)) x.Clusters), .slc (List.map (encL (PV.int .i64)) x.Origins)] = encMerged x := rfl
@[go_sem] theorem encMerged_cells (x : Merged) : (encMerged x).cells = [.str x.Table.Name, .slc (List.map PV.str x.Table.Attrs), .slc (List.map encRow x.Table.Rows), .slc (List.map (encL (PV.int .i64)) x.Clusters), .slc (List.map (encL (PV.int .i64)) x.Origins)] := rfl
@[go_sem] theorem encMerged_isAgg (x : Merged) : (encMerged x).isAgg = true := rfl
@[go_sem] theorem encMerged_isTup (x : Merged) : (encMerged x).isTup = false := rfl
@[go_sem] theorem encMerged_sl (l : List Merged) : ((l.map encMerged).all fun y => y.cells.length == 5) = true := by simp [encMerged, PV.cells]
@[go_sem] theorem encMerged_ok (l : List Merged) : ((l.map encMerged).map AV.p).all (elemOk 5) = true := elemOkAll_map _ _ _ fun _ => ⟨rfl, rfl⟩
def encCellRef (x : CellRef) : PV := .agg [.int .i64 x.ID, .int .i64 x.Attr]
@[go_sem] theorem encCellRef_fold (x : CellRef) : PV.agg [.int .i64 x.ID, .int .i64 x.Attr] = encCellRef x := rfl
@[go_sem] theorem encCellRef_cells (x : CellRef) : (encCellRef x).cells = [.int .i64 x.ID, .int .i64 x.Attr] := rfl
@[go_sem] theorem encCellRef_isAgg (x : CellRef) : (encCellRef x).isAgg = true := rfl
@[go_sem] theorem encCellRef_isTup (x : CellRef) : (encCellRef x).isTup = false := rfl
@[go_sem] theorem encCellRef_sl (l : List CellRef) : ((l.map encCellRef).all fun y => y.cells.length == 2) = true := by simp [encCellRef, PV.cells]
@[go_sem] theorem encCellRef_ok (l : List CellRef) : ((l.map encCellRef).map AV.p).all (elemOk 2) = true := elemOkAll_map _ _ _ fun _ => ⟨rfl, rfl⟩
@[go_sem] theorem encCellRef_flat (x : CellRef) : (encCellRef x).flat = true := rfl
end Go.Proofs.Ytdmddoljldjjeaa
set_option linter.unusedVariables false
set_option linter.unusedSimpArgs false
namespace Go.Proofs.Ytdmddoljldjjeaa
open Go Go.Ab
set_option maxHeartbeats 4000000 in
theorem survivor_checkRows_con (rows_1 : List Row) (r_34 : Int) (h : survivor_checkRows rows_1 = some r_34) : Con Try.prog 24 [(.slc (List.map encRow rows_1))] (.int .i64 r_34) := by
  refine ⟨Try.call24, ?_⟩
  refine pure_of_awp Try.func24 rfl Try.ntmps24 (by simp) fun X w => ?_
  show AWp _ _ _ ⟨[(0, .p (.slc (List.map encRow rows_1)))], []⟩
  simp only [survivor_checkRows] at h
  refine awp_seq ?_
  refine awp_region ?_
  refine AL_upto (by exact rfl) (by simp only [go_sem, seval]; exact rfl) ?_
  refine AL_nil ?_
  refine thenA_n ?_
  refine awp_seq ?_
  refine awp_seq ?_
  refine awp_region ?_
  refine AL_upto (by exact rfl) (by simp only [go_sem, seval]; exact rfl) ?_
  refine AL_nil ?_
  refine thenA_n ?_
  by_cases hb_2 : ((rows_1.length : Int) == 0) = true
  · rw [if_pos hb_2] at h
    refine awp_ct (by simp only [go_sem, seval, hb_2]) ?_
    refine awp_seq ?_
    refine awp_region ?_
    refine AL_upto (by exact rfl) (by simp only [go_sem, seval, hb_2]; exact rfl) ?_
    refine AL_nil ?_
    refine thenA_n ?_
    refine awp_ret ?_
    refine thenA_ret ?_
    cases h
    refine retQ_ret (by simp only [Try.results24]; simp only [go_sem, seval, hb_2]; exact rfl) ?_
    simp only [go_sem, seval, hb_2]
    all_goals ((repeat' refine And.intro ?_ ?_) <;> first | rfl | (simp; done) | (simp; rfl) | (simp [*]; done) | (simp [*]; rfl))
  · rw [if_neg hb_2] at h
    have hb_2F := Bool.eq_false_iff.2 hb_2
    refine awp_cf (by simp only [go_sem, seval, hb_2F]) ?_
    refine awp_skip ?_
    refine thenA_n ?_
    refine awp_seq ?_
    refine awp_seq ?_
    refine awp_region ?_
    refine AL_upto (by exact rfl) (by simp only [go_sem, seval, hb_2F]; exact rfl) ?_
    refine AL_nil ?_
    refine thenA_n ?_
    refine awp_block ?_
    obtain ⟨o_29, hL_30, h⟩ := Option.bind_eq_some_iff.1 h
    refine awp_loop_L (fun (s : Int) => ⟨[(0, .p (.slc (List.map encRow rows_1))), (8, .p (.slc (List.map encRow rows_1))), (9, .p (.int .i64 (rows_1.length : Int))), (10, .p (.int .i64 s))], []⟩) (fun (o : (Unit) ⊕ (Int)) (e : Exit) (s' : St) => match o with | .inl o_32 => e = (.exit 0) ∧ Le ⟨Try.prog, Try.f24.ntmps, 0, X, [], fun _ => none, w⟩ s' ⟨[], []⟩ | .inr o_33 => e = .ret ∧ retQ Try.prog Try.f24 (.int .i64 o_33) .ret s') (by intro o s hT; rcases o with _ | _ <;> (have hh := hT.1; cases hh)) hL_30 (by simp only [go_sem, seval, hb_2F]; all_goals ((repeat' refine And.intro ?_ ?_) <;> first | rfl | (simp; done) | (simp; rfl) | (simp [*]; done) | (simp [*]; rfl))) ?_ ?_
    · clear h
      intro t10_10 x h
      simp only [survivor_checkRows_l1] at h
      show AWp _ _ _ ⟨[(0, .p (.slc (List.map encRow rows_1))), (8, .p (.slc (List.map encRow rows_1))), (9, .p (.int .i64 (rows_1.length : Int))), (10, .p (.int .i64 t10_10))], []⟩
      refine awp_seq ?_
      refine awp_region ?_
      refine AL_upto (by exact rfl) (by simp only [go_sem, seval]; exact rfl) ?_
      refine AL_nil ?_
      refine thenA_n ?_
      refine awp_seq ?_
      by_cases hb_21 : t10_10 < (rows_1.length : Int)
      · rw [if_pos hb_21] at h
        have hb_21T := eq_true hb_21
        refine awp_ct (by simp only [go_sem, seval, hb_21T]) ?_
        refine awp_skip ?_
        refine thenA_n ?_
        refine awp_seq ?_
        refine awp_block ?_
        refine awp_seq ?_
        refine awp_region ?_
        obtain ⟨x_24, hx_25, h⟩ := Option.bind_eq_some_iff.1 h
        obtain ⟨hx_25a, hx_25, hx_25b⟩ := idx_some hx_25
        have hx_25A := eq_true hx_25a
        have hx_25B := eq_true hx_25b
        refine AL_upto (by exact rfl) (by simp only [go_sem, seval, hb_21T, hx_25, hx_25A, hx_25B]; exact rfl) ?_
        refine AL_nil ?_
        refine thenA_n ?_
        refine awp_seq ?_
        refine awp_drawn_walk mixed (by decide) ?_
        obtain ⟨x_26, hx_27, h⟩ := Option.bind_eq_some_iff.1 h
        have hx_27l := eq_true (lt_of_get hx_27)
        have hx_27L : ((0 : Int) < (rows_1.length : Int)) = True := eq_true (by have := lt_of_get hx_27; omega)
        refine DGo.upto (by exact rfl) (by simp only [go_sem, seval, hb_21T, hx_27, hx_27l, hx_27L]; exact ⟨rfl, rfl⟩) ?_
        refine DGo.fin rfl ?_
        refine thenA_n ?_
        by_cases hb_28 : ((x_24.Values.length : Int) != (x_26.Values.length : Int)) = true
        · rw [if_pos hb_28] at h
          refine awp_ct (by simp only [go_sem, seval, hb_21T, hb_28]) ?_
          refine awp_seq ?_
          refine awp_region ?_
          refine AL_upto (by exact rfl) (by simp only [go_sem, seval, hb_21T, hb_28]; exact rfl) ?_
          refine AL_nil ?_
          refine thenA_n ?_
          refine awp_ret ?_
          refine blockA_ret ?_
          refine thenA_ret ?_
          cases h
          refine ⟨rfl, ?_⟩
          refine retQ_ret (by simp only [Try.results24]; simp only [go_sem, seval, hb_21T, hb_28]; exact rfl) ?_
          simp only [go_sem, seval, hb_21T, hb_28]
          all_goals ((repeat' refine And.intro ?_ ?_) <;> first | rfl | (simp; done) | (simp; rfl) | (simp [*]; done) | (simp [*]; rfl))
        · rw [if_neg hb_28] at h
          have hb_28F := Bool.eq_false_iff.2 hb_28
          refine awp_cf (by simp only [go_sem, seval, hb_21T, hb_28F]) ?_
          refine awp_skip ?_
          refine blockA_n ?_
          refine thenA_n ?_
          refine awp_region ?_
          refine AL_upto (by exact rfl) (by simp only [go_sem, seval, hb_21T, hb_28F]; exact rfl) ?_
          refine AL_nil ?_
          cases h
          refine ⟨rfl, ?_⟩
          simp only [go_sem, seval, hb_21T, hb_28F]
          all_goals ((repeat' refine And.intro ?_ ?_) <;> first | rfl | (simp; done) | (simp; rfl) | (simp [*]; done) | (simp [*]; rfl))
      · rw [if_neg hb_21] at h
        have hb_21T := eq_false hb_21
        refine awp_cf (by simp only [go_sem, seval, hb_21T]) ?_
        refine awp_exit ?_
        refine thenA_exit ?_
        cases h
        refine ⟨rfl, ?_⟩
        simp only [go_sem, seval, hb_21T]
        all_goals ((repeat' refine And.intro ?_ ?_) <;> first | rfl | (simp; done) | (simp; rfl) | (simp [*]; done) | (simp [*]; rfl))
    · intro e s' hT
      rcases o_29 with ⟨⟩ | r_31
      · try simp only at h
        try simp only at hT
        obtain ⟨rfl, hle⟩ := hT
        refine Wk.to hle ?_
        clear hle
        refine blockA_here ?_
        refine thenA_n ?_
        refine awp_seq ?_
        refine awp_region ?_
        refine AL_upto (by exact rfl) (by simp only [go_sem, seval, hb_2F]; exact rfl) ?_
        refine AL_nil ?_
        refine thenA_n ?_
        refine awp_ret ?_
        cases h
        refine retQ_ret (by simp only [Try.results24]; simp only [go_sem, seval, hb_2F]; exact rfl) ?_
        simp only [go_sem, seval, hb_2F]
        all_goals ((repeat' refine And.intro ?_ ?_) <;> first | rfl | (simp; done) | (simp; rfl) | (simp [*]; done) | (simp [*]; rfl))
      · try simp only at h
        try simp only at hT
        obtain ⟨rfl, hq⟩ := hT
        refine Wk.now ?_
        refine blockA_ret ?_
        refine thenA_ret ?_
        cases h
        exact hq
end Go.Proofs.Ytdmddoljldjjeaa
set_option linter.unusedVariables false
set_option linter.unusedSimpArgs false
namespace Go.Proofs.Ytdmddoljldjjeaa
open Go Go.Ab
set_option maxHeartbeats 4000000 in
theorem slices_IndexFunc_Value_con (s_35 : List Value) (f_36 : Value → Option (Bool)) (f_36_k : FuncId) (f_36_cs : List PV) (f_36_h : ∀ (y_37 : Value) (r_38 : Bool), f_36 y_37 = some r_38 → Con Try.prog f_36_k ((encValue y_37) :: f_36_cs) (.bool r_38)) (r_66 : Int) (h : slices_IndexFunc_Value s_35 f_36 = some r_66) : Con Try.prog 75 [(.slc (List.map encValue s_35)), .func (.func f_36_k) f_36_cs] (.int .i64 r_66) := by
  refine ⟨Try.call75, ?_⟩
  refine pure_of_awp Try.func75 rfl Try.ntmps75 (by simp) fun X w => ?_
  show AWp _ _ _ ⟨[(0, .p (.slc (List.map encValue s_35))), (1, .p (.func (.func f_36_k) f_36_cs))], []⟩
  simp only [slices_IndexFunc_Value] at h
  refine awp_seq ?_
  refine awp_region ?_
  refine AL_upto (by exact rfl) (by simp only [go_sem, seval]; exact rfl) ?_
  refine AL_nil ?_
  refine thenA_n ?_
  refine awp_seq ?_
  refine awp_seq ?_
  refine awp_region ?_
  refine AL_upto (by exact rfl) (by simp only [go_sem, seval]; exact rfl) ?_
  refine AL_nil ?_
  refine thenA_n ?_
  refine awp_block ?_
  obtain ⟨o_61, hL_62, h⟩ := Option.bind_eq_some_iff.1 h
  refine awp_loop_L (fun (s : Int) => ⟨[(0, .p (.slc (List.map encValue s_35))), (1, .p (.func (.func f_36_k) f_36_cs)), (7, .p (.int .i64 (s_35.length : Int))), (8, .p (.int .i64 s))], []⟩) (fun (o : (Unit) ⊕ (Int)) (e : Exit) (s' : St) => match o with | .inl o_64 => e = (.exit 0) ∧ Le ⟨Try.prog, Try.f75.ntmps, 0, X, [], fun _ => none, w⟩ s' ⟨[], []⟩ | .inr o_65 => e = .ret ∧ retQ Try.prog Try.f75 (.int .i64 o_65) .ret s') (by intro o s hT; rcases o with _ | _ <;> (have hh := hT.1; cases hh)) hL_62 (by simp only [go_sem, seval]; all_goals ((repeat' refine And.intro ?_ ?_) <;> first | rfl | (simp; done) | (simp; rfl) | (simp [*]; done) | (simp [*]; rfl))) ?_ ?_
  · clear h
    intro t8_46 x h
    simp only [slices_IndexFunc_Value_l1] at h
    show AWp _ _ _ ⟨[(0, .p (.slc (List.map encValue s_35))), (1, .p (.func (.func f_36_k) f_36_cs)), (7, .p (.int .i64 (s_35.length : Int))), (8, .p (.int .i64 t8_46))], []⟩
    refine awp_seq ?_
    refine awp_region ?_
    refine AL_upto (by exact rfl) (by simp only [go_sem, seval]; exact rfl) ?_
    refine AL_nil ?_
    refine thenA_n ?_
    refine awp_seq ?_
    by_cases hb_55 : t8_46 < (s_35.length : Int)
    · rw [if_pos hb_55] at h
      have hb_55T := eq_true hb_55
      refine awp_ct (by simp only [go_sem, seval, hb_55T]) ?_
      refine awp_skip ?_
      refine thenA_n ?_
      refine awp_seq ?_
      refine awp_block ?_
      refine awp_seq ?_
      refine awp_region ?_
      refine AL_upto (by exact rfl) (by simp only [go_sem, seval, hb_55T]; exact rfl) ?_
      refine AL_nil ?_
      refine thenA_n ?_
      refine awp_seq ?_
      refine awp_region ?_
      obtain ⟨x_56, hx_57, h⟩ := Option.bind_eq_some_iff.1 h
      obtain ⟨hx_57a, hx_57, hx_57b⟩ := idx_some hx_57
      have hx_57A := eq_true hx_57a
      have hx_57B := eq_true hx_57b
      refine AL_upto (by exact rfl) (by simp only [go_sem, seval, hb_55T, hx_57, hx_57A, hx_57B]; exact rfl) ?_
      obtain ⟨r_58, hr_59, h⟩ := Option.bind_eq_some_iff.1 h
      refine AL_con' rfl (guard_none rfl) rfl (by simp only [go_sem, seval, hb_55T]; exact rfl) (by simp only [go_sem, seval, hb_55T]; all_goals ((repeat' refine And.intro ?_ ?_) <;> first | rfl | (simp; done) | (simp; rfl) | (simp [*]; done) | (simp [*]; rfl))) (f_36_h x_56 _ hr_59) (.inr rfl) rfl ?_
      refine AL_nil ?_
      refine thenA_n ?_
      by_cases hb_60 : r_58 = true
      · rw [if_pos hb_60] at h
        refine awp_ct (by simp only [go_sem, seval, hb_55T, hb_60]) ?_
        refine awp_seq ?_
        refine awp_region ?_
        refine AL_upto (by exact rfl) (by simp only [go_sem, seval, hb_55T, hb_60]; exact rfl) ?_
        refine AL_nil ?_
        refine thenA_n ?_
        refine awp_ret ?_
        refine blockA_ret ?_
        refine thenA_ret ?_
        cases h
        refine ⟨rfl, ?_⟩
        refine retQ_ret (by simp only [Try.results75]; simp only [go_sem, seval, hb_55T, hb_60]; exact rfl) ?_
        simp only [go_sem, seval, hb_55T, hb_60]
        all_goals ((repeat' refine And.intro ?_ ?_) <;> first | rfl | (simp; done) | (simp; rfl) | (simp [*]; done) | (simp [*]; rfl))
      · rw [if_neg hb_60] at h
        have hb_60F := Bool.eq_false_iff.2 hb_60
        refine awp_cf (by simp only [go_sem, seval, hb_55T, hb_60F]) ?_
        refine awp_skip ?_
        refine blockA_n ?_
        refine thenA_n ?_
        refine awp_region ?_
        refine AL_upto (by exact rfl) (by simp only [go_sem, seval, hb_55T, hb_60F]; exact rfl) ?_
        refine AL_nil ?_
        cases h
        refine ⟨rfl, ?_⟩
        simp only [go_sem, seval, hb_55T, hb_60F]
        all_goals ((repeat' refine And.intro ?_ ?_) <;> first | rfl | (simp; done) | (simp; rfl) | (simp [*]; done) | (simp [*]; rfl))
    · rw [if_neg hb_55] at h
      have hb_55T := eq_false hb_55
      refine awp_cf (by simp only [go_sem, seval, hb_55T]) ?_
      refine awp_exit ?_
      refine thenA_exit ?_
      cases h
      refine ⟨rfl, ?_⟩
      simp only [go_sem, seval, hb_55T]
      all_goals ((repeat' refine And.intro ?_ ?_) <;> first | rfl | (simp; done) | (simp; rfl) | (simp [*]; done) | (simp [*]; rfl))
  · intro e s' hT
    rcases o_61 with ⟨⟩ | r_63
    · try simp only at h
      try simp only at hT
      obtain ⟨rfl, hle⟩ := hT
      refine Wk.to hle ?_
      clear hle
      refine blockA_here ?_
      refine thenA_n ?_
      refine awp_seq ?_
      refine awp_region ?_
      refine AL_upto (by exact rfl) (by simp only [go_sem, seval]; exact rfl) ?_
      refine AL_nil ?_
      refine thenA_n ?_
      refine awp_ret ?_
      cases h
      refine retQ_ret (by simp only [Try.results75]; simp only [go_sem, seval]; exact rfl) ?_
      simp only [go_sem, seval]
      all_goals ((repeat' refine And.intro ?_ ?_) <;> first | rfl | (simp; done) | (simp; rfl) | (simp [*]; done) | (simp [*]; rfl))
    · try simp only at h
      try simp only at hT
      obtain ⟨rfl, hq⟩ := hT
      refine Wk.now ?_
      refine blockA_ret ?_
      refine thenA_ret ?_
      cases h
      exact hq
end Go.Proofs.Ytdmddoljldjjeaa
set_option linter.unusedVariables false
set_option linter.unusedSimpArgs false
namespace Go.Proofs.Ytdmddoljldjjeaa
open Go Go.Ab
set_option maxHeartbeats 4000000 in
theorem slices_ContainsFunc_Value_con (s_67 : List Value) (f_68 : Value → Option (Bool)) (f_68_k : FuncId) (f_68_cs : List PV) (f_68_h : ∀ (y_69 : Value) (r_70 : Bool), f_68 y_69 = some r_70 → Con Try.prog f_68_k ((encValue y_69) :: f_68_cs) (.bool r_70)) (r_73 : Bool) (h : slices_ContainsFunc_Value s_67 f_68 = some r_73) : Con Try.prog 48 [(.slc (List.map encValue s_67)), .func (.func f_68_k) f_68_cs] (.bool r_73) := by
  refine ⟨Try.call48, ?_⟩
  refine pure_of_awp Try.func48 rfl Try.ntmps48 (by simp) fun X w => ?_
  show AWp _ _ _ ⟨[(0, .p (.slc (List.map encValue s_67))), (1, .p (.func (.func f_68_k) f_68_cs))], []⟩
  simp only [slices_ContainsFunc_Value] at h
  refine awp_seq ?_
  refine awp_region ?_
  refine AL_upto (by exact rfl) (by simp only [go_sem, seval]; exact rfl) ?_
  refine AL_nil ?_
  refine thenA_n ?_
  refine awp_seq ?_
  refine awp_region ?_
  refine AL_upto (by exact rfl) (by simp only [go_sem, seval]; exact rfl) ?_
  obtain ⟨r_71, hr_72, h⟩ := Option.bind_eq_some_iff.1 h
  refine AL_con' rfl (guard_none rfl) rfl (by simp only [go_sem, seval]; exact rfl) (by simp only [go_sem, seval]; all_goals ((repeat' refine And.intro ?_ ?_) <;> first | rfl | (simp; done) | (simp; rfl) | (simp [*]; done) | (simp [*]; rfl))) (slices_IndexFunc_Value_con s_67 f_68 f_68_k f_68_cs f_68_h _ hr_72) (.inr rfl) rfl ?_
  refine AL_upto (by exact rfl) (by simp only [go_sem, seval]; exact rfl) ?_
  refine AL_nil ?_
  refine thenA_n ?_
  refine awp_ret ?_
  cases h
  refine retQ_ret (by simp only [Try.results48]; simp only [go_sem, seval]; exact rfl) ?_
  simp only [go_sem, seval]
  all_goals ((repeat' refine And.intro ?_ ?_) <;> first | rfl | (simp; done) | (simp; rfl) | (simp [*]; done) | (simp [*]; rfl))
end Go.Proofs.Ytdmddoljldjjeaa
set_option linter.unusedVariables false
set_option linter.unusedSimpArgs false
namespace Go.Proofs.Ytdmddoljldjjeaa
open Go Go.Ab
set_option maxHeartbeats 4000000 in
theorem value_Valid_con (v_74 : Value) (r_82 : Bool) (h : value_Valid v_74 = some r_82) : Con Try.prog 50 [(encValue v_74)] (.bool r_82) := by
  refine ⟨Try.call50, ?_⟩
  refine pure_of_awp Try.func50 rfl Try.ntmps50 (by simp) fun X w => ?_
  show AWp _ _ _ ⟨[(0, .p (encValue v_74))], []⟩
  simp only [value_Valid] at h
  refine awp_seq ?_
  refine awp_region ?_
  refine AL_upto (by exact rfl) (by simp only [go_sem, seval]; exact rfl) ?_
  refine AL_nil ?_
  refine thenA_n ?_
  refine awp_seq ?_
  refine awp_seq ?_
  refine awp_region ?_
  refine AL_upto (by exact rfl) (by simp only [go_sem, seval]; exact rfl) ?_
  refine AL_nil ?_
  refine thenA_n ?_
  refine awp_block ?_
  refine awp_seq ?_
  refine awp_region ?_
  refine AL_upto (by exact rfl) (by simp only [go_sem, seval]; exact rfl) ?_
  refine AL_nil ?_
  refine thenA_n ?_
  by_cases hb_75 : (v_74.Kind == 0) = true
  · rw [if_pos hb_75] at h
    refine awp_ct (by simp only [go_sem, seval, hb_75]) ?_
    refine awp_seq ?_
    refine awp_region ?_
    refine AL_upto (by exact rfl) (by simp only [go_sem, seval, hb_75]; exact rfl) ?_
    by_cases hb_76 : (v_74.Num == 0) = true
    · rw [if_pos hb_76] at h
      refine AL_known (d := 10) (v := .p (.bool true)) (by simp only [go_sem, seval, hb_75, hb_76]) ?_
      refine AL_gt' (guard_true' rfl rfl (by exact rfl) (by exact rfl)) rfl (by simp only [go_sem, seval, hb_75, hb_76]; exact rfl) ?_
      refine AL_gt' (guard_true' rfl rfl (by exact rfl) (by exact rfl)) rfl (by simp only [go_sem, seval, hb_75, hb_76]; exact rfl) ?_
      refine AL_gt' (guard_true' rfl rfl (by exact rfl) (by exact rfl)) rfl (by simp only [go_sem, seval, hb_75, hb_76]; exact rfl) ?_
      refine AL_upto (by exact rfl) (by simp only [go_sem, seval, hb_75, hb_76]; exact rfl) ?_
      refine AL_nil ?_
      refine thenA_n ?_
      refine awp_ret ?_
      refine blockA_ret ?_
      refine thenA_ret ?_
      cases h
      refine retQ_ret (by simp only [Try.results50]; simp only [go_sem, seval, hb_75, hb_76]; exact rfl) ?_
      simp only [go_sem, seval, hb_75, hb_76]
      all_goals ((repeat' refine And.intro ?_ ?_) <;> first | rfl | (simp; done) | (simp; rfl) | (simp [*]; done) | (simp [*]; rfl))
    · rw [if_neg hb_76] at h
      have hb_76F := Bool.eq_false_iff.2 hb_76
      refine AL_known (d := 10) (v := .p (.bool false)) (by simp only [go_sem, seval, hb_75, hb_76F]) ?_
      refine AL_skips (by exact rfl) ?_
      refine AL_upto (by exact rfl) (by simp only [go_sem, seval, hb_75, hb_76F]; exact rfl) ?_
      refine AL_nil ?_
      refine thenA_n ?_
      refine awp_ret ?_
      refine blockA_ret ?_
      refine thenA_ret ?_
      cases h
      refine retQ_ret (by simp only [Try.results50]; simp only [go_sem, seval, hb_75, hb_76F]; exact rfl) ?_
      simp only [go_sem, seval, hb_75, hb_76F]
      all_goals ((repeat' refine And.intro ?_ ?_) <;> first | rfl | (simp; done) | (simp; rfl) | (simp [*]; done) | (simp [*]; rfl))
  · rw [if_neg hb_75] at h
    have hb_75F := Bool.eq_false_iff.2 hb_75
    refine awp_cf (by simp only [go_sem, seval, hb_75F]) ?_
    refine awp_seq ?_
    refine awp_region ?_
    refine AL_upto (by exact rfl) (by simp only [go_sem, seval, hb_75F]; exact rfl) ?_
    refine AL_nil ?_
    refine thenA_n ?_
    by_cases hb_77 : (v_74.Kind == 1) = true
    · rw [if_pos hb_77] at h
      refine awp_ct (by simp only [go_sem, seval, hb_75F, hb_77]) ?_
      refine awp_seq ?_
      refine awp_region ?_
      refine AL_upto (by exact rfl) (by simp only [go_sem, seval, hb_75F, hb_77]; exact rfl) ?_
      refine AL_nil ?_
      refine thenA_n ?_
      refine awp_ret ?_
      refine blockA_ret ?_
      refine thenA_ret ?_
      cases h
      refine retQ_ret (by simp only [Try.results50]; simp only [go_sem, seval, hb_75F, hb_77]; exact rfl) ?_
      simp only [go_sem, seval, hb_75F, hb_77]
      all_goals ((repeat' refine And.intro ?_ ?_) <;> first | rfl | (simp; done) | (simp; rfl) | (simp [*]; done) | (simp [*]; rfl))
    · rw [if_neg hb_77] at h
      have hb_77F := Bool.eq_false_iff.2 hb_77
      refine awp_cf (by simp only [go_sem, seval, hb_75F, hb_77F]) ?_
      refine awp_seq ?_
      refine awp_region ?_
      refine AL_upto (by exact rfl) (by simp only [go_sem, seval, hb_75F, hb_77F]; exact rfl) ?_
      refine AL_nil ?_
      refine thenA_n ?_
      by_cases hb_78 : (v_74.Kind == 2) = true
      · rw [if_pos hb_78] at h
        refine awp_ct (by simp only [go_sem, seval, hb_75F, hb_77F, hb_78]) ?_
        refine awp_seq ?_
        refine awp_region ?_
        refine AL_upto (by exact rfl) (by simp only [go_sem, seval, hb_75F, hb_77F, hb_78]; exact rfl) ?_
        by_cases hb_79 : (v_74.Num == 0) = true
        · rw [if_pos hb_79] at h
          refine AL_known (d := 25) (v := .p (.bool true)) (by simp only [go_sem, seval, hb_75F, hb_77F, hb_78, hb_79]) ?_
          refine AL_gt' (guard_true' rfl rfl (by exact rfl) (by exact rfl)) rfl (by simp only [go_sem, seval, hb_75F, hb_77F, hb_78, hb_79]; exact rfl) ?_
          refine AL_gt' (guard_true' rfl rfl (by exact rfl) (by exact rfl)) rfl (by simp only [go_sem, seval, hb_75F, hb_77F, hb_78, hb_79]; exact rfl) ?_
          refine AL_gt' (guard_true' rfl rfl (by exact rfl) (by exact rfl)) rfl (by simp only [go_sem, seval, hb_75F, hb_77F, hb_78, hb_79]; exact rfl) ?_
          refine AL_gt' (guard_true' rfl rfl (by exact rfl) (by exact rfl)) rfl (by simp only [go_sem, seval, hb_75F, hb_77F, hb_78, hb_79]; exact rfl) ?_
          refine AL_upto (by exact rfl) (by simp only [go_sem, seval, hb_75F, hb_77F, hb_78, hb_79]; exact rfl) ?_
          refine AL_nil ?_
          refine thenA_n ?_
          refine awp_ret ?_
          refine blockA_ret ?_
          refine thenA_ret ?_
          cases h
          refine retQ_ret (by simp only [Try.results50]; simp only [go_sem, seval, hb_75F, hb_77F, hb_78, hb_79]; exact rfl) ?_
          simp only [go_sem, seval, hb_75F, hb_77F, hb_78, hb_79]
          all_goals ((repeat' refine And.intro ?_ ?_) <;> first | rfl | (simp; done) | (simp; rfl) | (simp [*]; done) | (simp [*]; rfl))
        · rw [if_neg hb_79] at h
          have hb_79F := Bool.eq_false_iff.2 hb_79
          refine AL_known (d := 25) (v := .p (.bool false)) (by simp only [go_sem, seval, hb_75F, hb_77F, hb_78, hb_79F]) ?_
          refine AL_skips (by exact rfl) ?_
          refine AL_upto (by exact rfl) (by simp only [go_sem, seval, hb_75F, hb_77F, hb_78, hb_79F]; exact rfl) ?_
          refine AL_nil ?_
          refine thenA_n ?_
          refine awp_ret ?_
          refine blockA_ret ?_
          refine thenA_ret ?_
          cases h
          refine retQ_ret (by simp only [Try.results50]; simp only [go_sem, seval, hb_75F, hb_77F, hb_78, hb_79F]; exact rfl) ?_
          simp only [go_sem, seval, hb_75F, hb_77F, hb_78, hb_79F]
          all_goals ((repeat' refine And.intro ?_ ?_) <;> first | rfl | (simp; done) | (simp; rfl) | (simp [*]; done) | (simp [*]; rfl))
      · rw [if_neg hb_78] at h
        have hb_78F := Bool.eq_false_iff.2 hb_78
        refine awp_cf (by simp only [go_sem, seval, hb_75F, hb_77F, hb_78F]) ?_
        refine awp_seq ?_
        refine awp_region ?_
        refine AL_upto (by exact rfl) (by simp only [go_sem, seval, hb_75F, hb_77F, hb_78F]; exact rfl) ?_
        refine AL_nil ?_
        refine thenA_n ?_
        by_cases hb_80 : (v_74.Kind == 3) = true
        · rw [if_pos hb_80] at h
          refine awp_ct (by simp only [go_sem, seval, hb_75F, hb_77F, hb_78F, hb_80]) ?_
          refine awp_seq ?_
          refine awp_region ?_
          refine AL_upto (by exact rfl) (by simp only [go_sem, seval, hb_75F, hb_77F, hb_78F, hb_80]; exact rfl) ?_
          by_cases hb_81 : v_74.Num ≥ 1
          · rw [if_pos hb_81] at h
            have hb_81T := eq_true hb_81
            refine AL_known (d := 36) (v := .p (.bool true)) (by simp only [go_sem, seval, hb_75F, hb_77F, hb_78F, hb_80, hb_81T]) ?_
            refine AL_gt' (guard_true' rfl rfl (by exact rfl) (by exact rfl)) rfl (by simp only [go_sem, seval, hb_75F, hb_77F, hb_78F, hb_80, hb_81T]; exact rfl) ?_
            refine AL_gt' (guard_true' rfl rfl (by exact rfl) (by exact rfl)) rfl (by simp only [go_sem, seval, hb_75F, hb_77F, hb_78F, hb_80, hb_81T]; exact rfl) ?_
            refine AL_gt' (guard_true' rfl rfl (by exact rfl) (by exact rfl)) rfl (by simp only [go_sem, seval, hb_75F, hb_77F, hb_78F, hb_80, hb_81T]; exact rfl) ?_
            refine AL_upto (by exact rfl) (by simp only [go_sem, seval, hb_75F, hb_77F, hb_78F, hb_80, hb_81T]; exact rfl) ?_
            refine AL_nil ?_
            refine thenA_n ?_
            refine awp_ret ?_
            refine blockA_ret ?_
            refine thenA_ret ?_
            cases h
            refine retQ_ret (by simp only [Try.results50]; simp only [go_sem, seval, hb_75F, hb_77F, hb_78F, hb_80, hb_81T]; exact rfl) ?_
            simp only [go_sem, seval, hb_75F, hb_77F, hb_78F, hb_80, hb_81T]
            all_goals ((repeat' refine And.intro ?_ ?_) <;> first | rfl | (simp; done) | (simp; rfl) | (simp [*]; done) | (simp [*]; rfl))
          · rw [if_neg hb_81] at h
            have hb_81T := eq_false hb_81
            refine AL_known (d := 36) (v := .p (.bool false)) (by simp only [go_sem, seval, hb_75F, hb_77F, hb_78F, hb_80, hb_81T]) ?_
            refine AL_skips (by exact rfl) ?_
            refine AL_upto (by exact rfl) (by simp only [go_sem, seval, hb_75F, hb_77F, hb_78F, hb_80, hb_81T]; exact rfl) ?_
            refine AL_nil ?_
            refine thenA_n ?_
            refine awp_ret ?_
            refine blockA_ret ?_
            refine thenA_ret ?_
            cases h
            refine retQ_ret (by simp only [Try.results50]; simp only [go_sem, seval, hb_75F, hb_77F, hb_78F, hb_80, hb_81T]; exact rfl) ?_
            simp only [go_sem, seval, hb_75F, hb_77F, hb_78F, hb_80, hb_81T]
            all_goals ((repeat' refine And.intro ?_ ?_) <;> first | rfl | (simp; done) | (simp; rfl) | (simp [*]; done) | (simp [*]; rfl))
        · rw [if_neg hb_80] at h
          have hb_80F := Bool.eq_false_iff.2 hb_80
          refine awp_cf (by simp only [go_sem, seval, hb_75F, hb_77F, hb_78F, hb_80F]) ?_
          refine awp_skip ?_
          refine blockA_n ?_
          refine thenA_n ?_
          refine awp_seq ?_
          refine awp_region ?_
          refine AL_upto (by exact rfl) (by simp only [go_sem, seval, hb_75F, hb_77F, hb_78F, hb_80F]; exact rfl) ?_
          refine AL_nil ?_
          refine thenA_n ?_
          refine awp_ret ?_
          cases h
          refine retQ_ret (by simp only [Try.results50]; simp only [go_sem, seval, hb_75F, hb_77F, hb_78F, hb_80F]; exact rfl) ?_
          simp only [go_sem, seval, hb_75F, hb_77F, hb_78F, hb_80F]
          all_goals ((repeat' refine And.intro ?_ ?_) <;> first | rfl | (simp; done) | (simp; rfl) | (simp [*]; done) | (simp [*]; rfl))
end Go.Proofs.Ytdmddoljldjjeaa
set_option linter.unusedVariables false
set_option linter.unusedSimpArgs false
namespace Go.Proofs.Ytdmddoljldjjeaa
open Go Go.Ab
set_option maxHeartbeats 4000000 in
theorem survivor_checkValues_1_con (v_83 : Value) (r_86 : Bool) (h : survivor_checkValues_1 v_83 = some r_86) : Con Try.prog 49 [(encValue v_83)] (.bool r_86) := by
  refine ⟨Try.call49, ?_⟩
  refine pure_of_awp Try.func49 rfl Try.ntmps49 (by simp) fun X w => ?_
  show AWp _ _ _ ⟨[(0, .p (encValue v_83))], []⟩
  simp only [survivor_checkValues_1] at h
  refine awp_seq ?_
  refine awp_region ?_
  refine AL_upto (by exact rfl) (by simp only [go_sem, seval]; exact rfl) ?_
  refine AL_nil ?_
  refine thenA_n ?_
  refine awp_seq ?_
  refine awp_region ?_
  refine AL_upto (by exact rfl) (by simp only [go_sem, seval]; exact rfl) ?_
  obtain ⟨r_84, hr_85, h⟩ := Option.bind_eq_some_iff.1 h
  refine AL_con' rfl (guard_none rfl) rfl (by simp only [go_sem, seval]; exact rfl) (by simp only [go_sem, seval]; all_goals ((repeat' refine And.intro ?_ ?_) <;> first | rfl | (simp; done) | (simp; rfl) | (simp [*]; done) | (simp [*]; rfl))) (value_Valid_con v_83 _ hr_85) (.inr rfl) rfl ?_
  refine AL_upto (by exact rfl) (by simp only [go_sem, seval]; exact rfl) ?_
  refine AL_nil ?_
  refine thenA_n ?_
  refine awp_ret ?_
  cases h
  refine retQ_ret (by simp only [Try.results49]; simp only [go_sem, seval]; exact rfl) ?_
  simp only [go_sem, seval]
  all_goals ((repeat' refine And.intro ?_ ?_) <;> first | rfl | (simp; done) | (simp; rfl) | (simp [*]; done) | (simp [*]; rfl))
end Go.Proofs.Ytdmddoljldjjeaa
set_option linter.unusedVariables false
set_option linter.unusedSimpArgs false
namespace Go.Proofs.Ytdmddoljldjjeaa
open Go Go.Ab
set_option maxHeartbeats 4000000 in
theorem survivor_checkValues_con (rows_87 : List Row) (r_128 : Int) (h : survivor_checkValues rows_87 = some r_128) : Con Try.prog 25 [(.slc (List.map encRow rows_87))] (.int .i64 r_128) := by
  refine ⟨Try.call25, ?_⟩
  refine pure_of_awp Try.func25 rfl Try.ntmps25 (by simp) fun X w => ?_
  show AWp _ _ _ ⟨[(0, .p (.slc (List.map encRow rows_87)))], []⟩
  simp only [survivor_checkValues] at h
  refine awp_seq ?_
  refine awp_region ?_
  refine AL_upto (by exact rfl) (by simp only [go_sem, seval]; exact rfl) ?_
  refine AL_nil ?_
  refine thenA_n ?_
  refine awp_seq ?_
  refine awp_region ?_
  refine AL_upto (by exact rfl) (by simp only [go_sem, seval]; exact rfl) ?_
  refine AL_nil ?_
  refine thenA_n ?_
  refine awp_seq ?_
  refine awp_seq ?_
  refine awp_region ?_
  refine AL_upto (by exact rfl) (by simp only [go_sem, seval]; exact rfl) ?_
  refine AL_nil ?_
  refine thenA_n ?_
  refine awp_block ?_
  obtain ⟨o_123, hL_124, h⟩ := Option.bind_eq_some_iff.1 h
  refine awp_loop_L (fun (s : Int × Int) => ⟨[(3, .p (.int .i64 s.1)), (6, .p (.slc (List.map encRow rows_87))), (7, .p (.int .i64 (rows_87.length : Int))), (8, .p (.int .i64 s.2))], []⟩) (fun (o : (Unit) ⊕ (Int)) (e : Exit) (s' : St) => match o with | .inl o_126 => e = (.exit 0) ∧ Le ⟨Try.prog, Try.f25.ntmps, 0, X, [], fun _ => none, w⟩ s' ⟨[], []⟩ | .inr o_127 => e = .ret ∧ retQ Try.prog Try.f25 (.int .i64 o_127) .ret s') (by intro o s hT; rcases o with _ | _ <;> (have hh := hT.1; cases hh)) hL_124 (by simp only [go_sem, seval]; all_goals ((repeat' refine And.intro ?_ ?_) <;> first | rfl | (simp; done) | (simp; rfl) | (simp [*]; done) | (simp [*]; rfl))) ?_ ?_
  · clear h
    intro s x h
    obtain ⟨last_99, t8_100⟩ := s
    simp only [survivor_checkValues_l1] at h
    show AWp _ _ _ ⟨[(3, .p (.int .i64 last_99)), (6, .p (.slc (List.map encRow rows_87))), (7, .p (.int .i64 (rows_87.length : Int))), (8, .p (.int .i64 t8_100))], []⟩
    refine awp_seq ?_
    refine awp_region ?_
    refine AL_upto (by exact rfl) (by simp only [go_sem, seval]; exact rfl) ?_
    refine AL_nil ?_
    refine thenA_n ?_
    refine awp_seq ?_
    by_cases hb_113 : t8_100 < (rows_87.length : Int)
    · rw [if_pos hb_113] at h
      have hb_113T := eq_true hb_113
      refine awp_ct (by simp only [go_sem, seval, hb_113T]) ?_
      refine awp_skip ?_
      refine thenA_n ?_
      refine awp_seq ?_
      refine awp_block ?_
      refine awp_seq ?_
      refine awp_region ?_
      obtain ⟨x_116, hx_117, h⟩ := Option.bind_eq_some_iff.1 h
      obtain ⟨hx_117a, hx_117, hx_117b⟩ := idx_some hx_117
      have hx_117A := eq_true hx_117a
      have hx_117B := eq_true hx_117b
      refine AL_upto (by exact rfl) (by simp only [go_sem, seval, hb_113T, hx_117, hx_117A, hx_117B]; exact rfl) ?_
      refine AL_nil ?_
      refine thenA_n ?_
      refine awp_seq ?_
      refine awp_seq ?_
      refine awp_region ?_
      refine AL_upto (by exact rfl) (by simp only [go_sem, seval, hb_113T]; exact rfl) ?_
      by_cases hb_118 : x_116.ID ≤ last_99
      · rw [if_pos hb_118] at h
        have hb_118T := eq_true hb_118
        refine AL_known (d := 16) (v := .p (.bool true)) (by simp only [go_sem, seval, hb_113T, hb_118T]) ?_
        refine AL_skips (by exact rfl) ?_
        refine AL_upto (by exact rfl) (by simp only [go_sem, seval, hb_113T, hb_118T]; exact rfl) ?_
        refine AL_nil ?_
        refine thenA_n ?_
        refine awp_ct (by simp only [go_sem, seval, hb_113T, hb_118T]) ?_
        refine awp_seq ?_
        refine awp_region ?_
        refine AL_upto (by exact rfl) (by simp only [go_sem, seval, hb_113T, hb_118T]; exact rfl) ?_
        refine AL_nil ?_
        refine thenA_n ?_
        refine awp_ret ?_
        refine thenA_ret ?_
        refine blockA_ret ?_
        refine thenA_ret ?_
        cases h
        refine ⟨rfl, ?_⟩
        refine retQ_ret (by simp only [Try.results25]; simp only [go_sem, seval, hb_113T, hb_118T]; exact rfl) ?_
        simp only [go_sem, seval, hb_113T, hb_118T]
        all_goals ((repeat' refine And.intro ?_ ?_) <;> first | rfl | (simp; done) | (simp; rfl) | (simp [*]; done) | (simp [*]; rfl))
      · rw [if_neg hb_118] at h
        have hb_118T := eq_false hb_118
        refine AL_known (d := 16) (v := .p (.bool false)) (by simp only [go_sem, seval, hb_113T, hb_118T]) ?_
        refine AL_gt' (guard_true' rfl rfl (by exact rfl) (by exact rfl)) rfl (by simp only [go_sem, seval, hb_113T, hb_118T]; exact rfl) ?_
        refine AL_gt' (guard_true' rfl rfl (by exact rfl) (by exact rfl)) rfl (by simp only [go_sem, seval, hb_113T, hb_118T]; exact rfl) ?_
        obtain ⟨r_120, hr_121, h⟩ := Option.bind_eq_some_iff.1 h
        refine AL_con' rfl (guard_true' rfl rfl (by exact rfl) (by exact rfl)) rfl (by simp only [go_sem, seval, hb_113T, hb_118T]; exact rfl) (by simp only [go_sem, seval, hb_113T, hb_118T]; all_goals ((repeat' refine And.intro ?_ ?_) <;> first | rfl | (simp; done) | (simp; rfl) | (simp [*]; done) | (simp [*]; rfl))) (slices_ContainsFunc_Value_con x_116.Values (fun (y_119 : Value) => survivor_checkValues_1 y_119) 49 [] (fun y_119 r h => survivor_checkValues_1_con y_119 r h) _ hr_121) (.inr rfl) rfl ?_
        refine AL_upto (by exact rfl) (by simp only [go_sem, seval, hb_113T, hb_118T]; exact rfl) ?_
        refine AL_nil ?_
        refine thenA_n ?_
        by_cases hb_122 : r_120 = true
        · rw [if_pos hb_122] at h
          refine awp_ct (by simp only [go_sem, seval, hb_113T, hb_118T, hb_122]) ?_
          refine awp_seq ?_
          refine awp_region ?_
          refine AL_upto (by exact rfl) (by simp only [go_sem, seval, hb_113T, hb_118T, hb_122]; exact rfl) ?_
          refine AL_nil ?_
          refine thenA_n ?_
          refine awp_ret ?_
          refine thenA_ret ?_
          refine blockA_ret ?_
          refine thenA_ret ?_
          cases h
          refine ⟨rfl, ?_⟩
          refine retQ_ret (by simp only [Try.results25]; simp only [go_sem, seval, hb_113T, hb_118T, hb_122]; exact rfl) ?_
          simp only [go_sem, seval, hb_113T, hb_118T, hb_122]
          all_goals ((repeat' refine And.intro ?_ ?_) <;> first | rfl | (simp; done) | (simp; rfl) | (simp [*]; done) | (simp [*]; rfl))
        · rw [if_neg hb_122] at h
          have hb_122F := Bool.eq_false_iff.2 hb_122
          refine awp_cf (by simp only [go_sem, seval, hb_113T, hb_118T, hb_122F]) ?_
          refine awp_skip ?_
          refine thenA_n ?_
          refine awp_region ?_
          refine AL_upto (by exact rfl) (by simp only [go_sem, seval, hb_113T, hb_118T, hb_122F]; exact rfl) ?_
          refine AL_nil ?_
          refine blockA_n ?_
          refine thenA_n ?_
          refine awp_region ?_
          refine AL_upto (by exact rfl) (by simp only [go_sem, seval, hb_113T, hb_118T, hb_122F]; exact rfl) ?_
          refine AL_nil ?_
          cases h
          refine ⟨rfl, ?_⟩
          simp only [go_sem, seval, hb_113T, hb_118T, hb_122F]
          all_goals ((repeat' refine And.intro ?_ ?_) <;> first | rfl | (simp; done) | (simp; rfl) | (simp [*]; done) | (simp [*]; rfl))
    · rw [if_neg hb_113] at h
      have hb_113T := eq_false hb_113
      refine awp_cf (by simp only [go_sem, seval, hb_113T]) ?_
      refine awp_exit ?_
      refine thenA_exit ?_
      cases h
      refine ⟨rfl, ?_⟩
      simp only [go_sem, seval, hb_113T]
      all_goals ((repeat' refine And.intro ?_ ?_) <;> first | rfl | (simp; done) | (simp; rfl) | (simp [*]; done) | (simp [*]; rfl))
  · intro e s' hT
    rcases o_123 with ⟨⟩ | r_125
    · try simp only at h
      try simp only at hT
      obtain ⟨rfl, hle⟩ := hT
      refine Wk.to hle ?_
      clear hle
      refine blockA_here ?_
      refine thenA_n ?_
      refine awp_seq ?_
      refine awp_region ?_
      refine AL_upto (by exact rfl) (by simp only [go_sem, seval]; exact rfl) ?_
      refine AL_nil ?_
      refine thenA_n ?_
      refine awp_ret ?_
      cases h
      refine retQ_ret (by simp only [Try.results25]; simp only [go_sem, seval]; exact rfl) ?_
      simp only [go_sem, seval]
      all_goals ((repeat' refine And.intro ?_ ?_) <;> first | rfl | (simp; done) | (simp; rfl) | (simp [*]; done) | (simp [*]; rfl))
    · try simp only at h
      try simp only at hT
      obtain ⟨rfl, hq⟩ := hT
      refine Wk.now ?_
      refine blockA_ret ?_
      refine thenA_ret ?_
      cases h
      exact hq
end Go.Proofs.Ytdmddoljldjjeaa
set_option linter.unusedVariables false
set_option linter.unusedSimpArgs false
namespace Go.Proofs.Ytdmddoljldjjeaa
open Go Go.Ab
set_option maxHeartbeats 4000000 in
theorem survivor_validRule_con (rule_129 : Int) (r_131 : Bool) (h : survivor_validRule rule_129 = some r_131) : Con Try.prog 26 [(.int .i64 rule_129)] (.bool r_131) := by
  refine ⟨Try.call26, ?_⟩
  refine pure_of_awp Try.func26 rfl Try.ntmps26 (by simp) fun X w => ?_
  show AWp _ _ _ ⟨[(0, .p (.int .i64 rule_129))], []⟩
  simp only [survivor_validRule] at h
  refine awp_seq ?_
  refine awp_region ?_
  refine AL_upto (by exact rfl) (by simp only [go_sem, seval]; exact rfl) ?_
  refine AL_nil ?_
  refine thenA_n ?_
  refine awp_seq ?_
  refine awp_region ?_
  refine AL_upto (by exact rfl) (by simp only [go_sem, seval]; exact rfl) ?_
  by_cases hb_130 : rule_129 ≥ 1
  · rw [if_pos hb_130] at h
    have hb_130T := eq_true hb_130
    refine AL_known (d := 5) (v := .p (.bool true)) (by simp only [go_sem, seval, hb_130T]) ?_
    refine AL_gt' (guard_true' rfl rfl (by exact rfl) (by exact rfl)) rfl (by simp only [go_sem, seval, hb_130T]; exact rfl) ?_
    refine AL_gt' (guard_true' rfl rfl (by exact rfl) (by exact rfl)) rfl (by simp only [go_sem, seval, hb_130T]; exact rfl) ?_
    refine AL_upto (by exact rfl) (by simp only [go_sem, seval, hb_130T]; exact rfl) ?_
    refine AL_nil ?_
    refine thenA_n ?_
    refine awp_ret ?_
    cases h
    refine retQ_ret (by simp only [Try.results26]; simp only [go_sem, seval, hb_130T]; exact rfl) ?_
    simp only [go_sem, seval, hb_130T]
    all_goals ((repeat' refine And.intro ?_ ?_) <;> first | rfl | (simp; done) | (simp; rfl) | (simp [*]; done) | (simp [*]; rfl))
  · rw [if_neg hb_130] at h
    have hb_130T := eq_false hb_130
    refine AL_known (d := 5) (v := .p (.bool false)) (by simp only [go_sem, seval, hb_130T]) ?_
    refine AL_skips (by exact rfl) ?_
    refine AL_upto (by exact rfl) (by simp only [go_sem, seval, hb_130T]; exact rfl) ?_
    refine AL_nil ?_
    refine thenA_n ?_
    refine awp_ret ?_
    cases h
    refine retQ_ret (by simp only [Try.results26]; simp only [go_sem, seval, hb_130T]; exact rfl) ?_
    simp only [go_sem, seval, hb_130T]
    all_goals ((repeat' refine And.intro ?_ ?_) <;> first | rfl | (simp; done) | (simp; rfl) | (simp [*]; done) | (simp [*]; rfl))
end Go.Proofs.Ytdmddoljldjjeaa
set_option linter.unusedVariables false
set_option linter.unusedSimpArgs false
namespace Go.Proofs.Ytdmddoljldjjeaa
open Go Go.Ab
set_option maxHeartbeats 4000000 in
theorem survivor_count_con (l_132 : List Value) (v_133 : Value) (r_161 : Int) (h : survivor_count l_132 v_133 = some r_161) : Con Try.prog 76 [(.slc (List.map encValue l_132)), (encValue v_133)] (.int .i64 r_161) := by
  refine ⟨Try.call76, ?_⟩
  refine pure_of_awp Try.func76 rfl Try.ntmps76 (by simp) fun X w => ?_
  show AWp _ _ _ ⟨[(0, .p (.slc (List.map encValue l_132))), (1, .p (encValue v_133))], []⟩
  simp only [survivor_count] at h
  refine awp_seq ?_
  refine awp_region ?_
  refine AL_upto (by exact rfl) (by simp only [go_sem, seval]; exact rfl) ?_
  refine AL_nil ?_
  refine thenA_n ?_
  refine awp_seq ?_
  refine awp_region ?_
  refine AL_upto (by exact rfl) (by simp only [go_sem, seval]; exact rfl) ?_
  refine AL_nil ?_
  refine thenA_n ?_
  refine awp_seq ?_
  refine awp_seq ?_
  refine awp_region ?_
  refine AL_upto (by exact rfl) (by simp only [go_sem, seval]; exact rfl) ?_
  refine AL_nil ?_
  refine thenA_n ?_
  refine awp_block ?_
  obtain ⟨o_158, hL_159, h⟩ := Option.bind_eq_some_iff.1 h
  refine awp_loop_L (fun (s : Int × Int) => ⟨[(3, .loc 3 1 0 0), (5, .p (.int .i64 s.1)), (8, .p (.slc (List.map encValue l_132))), (9, .p (.int .i64 (l_132.length : Int))), (10, .p (.int .i64 s.2))], [(3, .arr 25 3 1 [.p (encValue v_133)])]⟩) (fun (o_160 : Int) (e : Exit) (s' : St) => e = (.exit 0) ∧ Le ⟨Try.prog, Try.f76.ntmps, 0, X, [], fun _ => none, w⟩ s' ⟨[(5, .p (.int .i64 o_160))], []⟩) (by intro o s hT; have hh := hT.1; cases hh) hL_159 (by simp only [go_sem, seval]; all_goals ((repeat' refine And.intro ?_ ?_) <;> first | rfl | (simp; done) | (simp; rfl) | (simp [*]; done) | (simp [*]; rfl))) ?_ ?_
  · clear h
    intro s x h
    obtain ⟨n_141, t10_142⟩ := s
    simp only [survivor_count_l1] at h
    show AWp _ _ _ ⟨[(3, .loc 3 1 0 0), (5, .p (.int .i64 n_141)), (8, .p (.slc (List.map encValue l_132))), (9, .p (.int .i64 (l_132.length : Int))), (10, .p (.int .i64 t10_142))], [(3, .arr 25 3 1 [.p (encValue v_133)])]⟩
    refine awp_seq ?_
    refine awp_region ?_
    refine AL_upto (by exact rfl) (by simp only [go_sem, seval]; exact rfl) ?_
    refine AL_nil ?_
    refine thenA_n ?_
    refine awp_seq ?_
    by_cases hb_152 : t10_142 < (l_132.length : Int)
    · rw [if_pos hb_152] at h
      have hb_152T := eq_true hb_152
      refine awp_ct (by simp only [go_sem, seval, hb_152T]) ?_
      refine awp_skip ?_
      refine thenA_n ?_
      refine awp_seq ?_
      refine awp_block ?_
      refine awp_seq ?_
      refine awp_region ?_
      obtain ⟨x_155, hx_156, h⟩ := Option.bind_eq_some_iff.1 h
      obtain ⟨hx_156a, hx_156, hx_156b⟩ := idx_some hx_156
      have hx_156A := eq_true hx_156a
      have hx_156B := eq_true hx_156b
      refine AL_upto (by exact rfl) (by simp only [go_sem, seval, hb_152T, hx_156, hx_156A, hx_156B]; exact rfl) ?_
      refine AL_nil ?_
      refine thenA_n ?_
      refine awp_seq ?_
      refine awp_region ?_
      refine AL_upto (by exact rfl) (by simp only [go_sem, seval, hb_152T]; exact rfl) ?_
      refine AL_nil ?_
      refine thenA_n ?_
      by_cases hb_157 : ((x_155.Kind == v_133.Kind) && ((x_155.Num == v_133.Num) && (x_155.Str == v_133.Str))) = true
      · rw [if_pos hb_157] at h
        refine awp_ct (by simp only [go_sem, seval, hb_152T, hb_157]) ?_
        refine awp_region ?_
        refine AL_upto (by exact rfl) (by simp only [go_sem, seval, hb_152T, hb_157]; exact rfl) ?_
        refine AL_nil ?_
        refine blockA_n ?_
        refine thenA_n ?_
        refine awp_region ?_
        refine AL_upto (by exact rfl) (by simp only [go_sem, seval, hb_152T, hb_157]; exact rfl) ?_
        refine AL_nil ?_
        cases h
        refine ⟨rfl, ?_⟩
        simp only [go_sem, seval, hb_152T, hb_157]
        all_goals ((repeat' refine And.intro ?_ ?_) <;> first | rfl | (simp; done) | (simp; rfl) | (simp [*]; done) | (simp [*]; rfl))
      · rw [if_neg hb_157] at h
        have hb_157F := Bool.eq_false_iff.2 hb_157
        refine awp_cf (by simp only [go_sem, seval, hb_152T, hb_157F]) ?_
        refine awp_skip ?_
        refine blockA_n ?_
        refine thenA_n ?_
        refine awp_region ?_
        refine AL_upto (by exact rfl) (by simp only [go_sem, seval, hb_152T, hb_157F]; exact rfl) ?_
        refine AL_nil ?_
        cases h
        refine ⟨rfl, ?_⟩
        simp only [go_sem, seval, hb_152T, hb_157F]
        all_goals ((repeat' refine And.intro ?_ ?_) <;> first | rfl | (simp; done) | (simp; rfl) | (simp [*]; done) | (simp [*]; rfl))
    · rw [if_neg hb_152] at h
      have hb_152T := eq_false hb_152
      refine awp_cf (by simp only [go_sem, seval, hb_152T]) ?_
      refine awp_exit ?_
      refine thenA_exit ?_
      cases h
      refine ⟨rfl, ?_⟩
      simp only [go_sem, seval, hb_152T]
      all_goals ((repeat' refine And.intro ?_ ?_) <;> first | rfl | (simp; done) | (simp; rfl) | (simp [*]; done) | (simp [*]; rfl))
  · intro e s' hT
    obtain ⟨n_150, rfl⟩ : ∃ z, z = o_158 := ⟨_, rfl⟩
    try simp only at h
    try simp only at hT
    obtain ⟨rfl, hle⟩ := hT
    refine Wk.to hle ?_
    clear hle
    refine blockA_here ?_
    refine thenA_n ?_
    refine awp_seq ?_
    refine awp_region ?_
    refine AL_upto (by exact rfl) (by simp only [go_sem, seval]; exact rfl) ?_
    refine AL_nil ?_
    refine thenA_n ?_
    refine awp_ret ?_
    cases h
    refine retQ_ret (by simp only [Try.results76]; simp only [go_sem, seval]; exact rfl) ?_
    simp only [go_sem, seval]
    all_goals ((repeat' refine And.intro ?_ ?_) <;> first | rfl | (simp; done) | (simp; rfl) | (simp [*]; done) | (simp [*]; rfl))
end Go.Proofs.Ytdmddoljldjjeaa
set_option linter.unusedVariables false
set_option linter.unusedSimpArgs false
namespace Go.Proofs.Ytdmddoljldjjeaa
open Go Go.Ab
set_option maxHeartbeats 4000000 in
theorem cmp_Or_int_con (vals_162 : List Int) (r_190 : Int) (h : cmp_Or_int vals_162 = some r_190) : Con Try.prog 90 [(.slc (List.map (PV.int .i64) vals_162))] (.int .i64 r_190) := by
  refine ⟨Try.call90, ?_⟩
  refine pure_of_awp Try.func90 rfl Try.ntmps90 (by simp) fun X w => ?_
  show AWp _ _ _ ⟨[(0, .p (.slc (List.map (PV.int .i64) vals_162)))], []⟩
  simp only [cmp_Or_int] at h
  refine awp_seq ?_
  refine awp_region ?_
  refine AL_upto (by exact rfl) (by simp only [go_sem, seval]; exact rfl) ?_
  refine AL_nil ?_
  refine thenA_n ?_
  refine awp_seq ?_
  refine awp_region ?_
  refine AL_upto (by exact rfl) (by simp only [go_sem, seval]; exact rfl) ?_
  refine AL_nil ?_
  refine thenA_n ?_
  refine awp_seq ?_
  refine awp_seq ?_
  refine awp_region ?_
  refine AL_upto (by exact rfl) (by simp only [go_sem, seval]; exact rfl) ?_
  refine AL_nil ?_
  refine thenA_n ?_
  refine awp_block ?_
  obtain ⟨o_185, hL_186, h⟩ := Option.bind_eq_some_iff.1 h
  refine awp_loop_L (fun (s : Int) => ⟨[(3, .p (.int .i64 0)), (6, .p (.slc (List.map (PV.int .i64) vals_162))), (7, .p (.int .i64 (vals_162.length : Int))), (8, .p (.int .i64 s))], []⟩) (fun (o : (Unit) ⊕ (Int)) (e : Exit) (s' : St) => match o with | .inl o_188 => e = (.exit 0) ∧ Le ⟨Try.prog, Try.f90.ntmps, 0, X, [], fun _ => none, w⟩ s' ⟨[(3, .p (.int .i64 0))], []⟩ | .inr o_189 => e = .ret ∧ retQ Try.prog Try.f90 (.int .i64 o_189) .ret s') (by intro o s hT; rcases o with _ | _ <;> (have hh := hT.1; cases hh)) hL_186 (by simp only [go_sem, seval]; all_goals ((repeat' refine And.intro ?_ ?_) <;> first | rfl | (simp; done) | (simp; rfl) | (simp [*]; done) | (simp [*]; rfl))) ?_ ?_
  · clear h
    intro t8_170 x h
    simp only [cmp_Or_int_l1] at h
    show AWp _ _ _ ⟨[(3, .p (.int .i64 0)), (6, .p (.slc (List.map (PV.int .i64) vals_162))), (7, .p (.int .i64 (vals_162.length : Int))), (8, .p (.int .i64 t8_170))], []⟩
    refine awp_seq ?_
    refine awp_region ?_
    refine AL_upto (by exact rfl) (by simp only [go_sem, seval]; exact rfl) ?_
    refine AL_nil ?_
    refine thenA_n ?_
    refine awp_seq ?_
    by_cases hb_179 : t8_170 < (vals_162.length : Int)
    · rw [if_pos hb_179] at h
      have hb_179T := eq_true hb_179
      refine awp_ct (by simp only [go_sem, seval, hb_179T]) ?_
      refine awp_skip ?_
      refine thenA_n ?_
      refine awp_seq ?_
      refine awp_block ?_
      refine awp_seq ?_
      refine awp_region ?_
      obtain ⟨x_182, hx_183, h⟩ := Option.bind_eq_some_iff.1 h
      obtain ⟨hx_183a, hx_183, hx_183b⟩ := idx_some hx_183
      have hx_183A := eq_true hx_183a
      have hx_183B := eq_true hx_183b
      refine AL_upto (by exact rfl) (by simp only [go_sem, seval, hb_179T, hx_183, hx_183A, hx_183B]; exact rfl) ?_
      refine AL_nil ?_
      refine thenA_n ?_
      refine awp_seq ?_
      refine awp_region ?_
      refine AL_upto (by exact rfl) (by simp only [go_sem, seval, hb_179T]; exact rfl) ?_
      refine AL_nil ?_
      refine thenA_n ?_
      by_cases hb_184 : (x_182 != 0) = true
      · rw [if_pos hb_184] at h
        refine awp_ct (by simp only [go_sem, seval, hb_179T, hb_184]) ?_
        refine awp_seq ?_
        refine awp_region ?_
        refine AL_upto (by exact rfl) (by simp only [go_sem, seval, hb_179T, hb_184]; exact rfl) ?_
        refine AL_nil ?_
        refine thenA_n ?_
        refine awp_ret ?_
        refine blockA_ret ?_
        refine thenA_ret ?_
        cases h
        refine ⟨rfl, ?_⟩
        refine retQ_ret (by simp only [Try.results90]; simp only [go_sem, seval, hb_179T, hb_184]; exact rfl) ?_
        simp only [go_sem, seval, hb_179T, hb_184]
        all_goals ((repeat' refine And.intro ?_ ?_) <;> first | rfl | (simp; done) | (simp; rfl) | (simp [*]; done) | (simp [*]; rfl))
      · rw [if_neg hb_184] at h
        have hb_184F := Bool.eq_false_iff.2 hb_184
        refine awp_cf (by simp only [go_sem, seval, hb_179T, hb_184F]) ?_
        refine awp_skip ?_
        refine blockA_n ?_
        refine thenA_n ?_
        refine awp_region ?_
        refine AL_upto (by exact rfl) (by simp only [go_sem, seval, hb_179T, hb_184F]; exact rfl) ?_
        refine AL_nil ?_
        cases h
        refine ⟨rfl, ?_⟩
        simp only [go_sem, seval, hb_179T, hb_184F]
        all_goals ((repeat' refine And.intro ?_ ?_) <;> first | rfl | (simp; done) | (simp; rfl) | (simp [*]; done) | (simp [*]; rfl))
    · rw [if_neg hb_179] at h
      have hb_179T := eq_false hb_179
      refine awp_cf (by simp only [go_sem, seval, hb_179T]) ?_
      refine awp_exit ?_
      refine thenA_exit ?_
      cases h
      refine ⟨rfl, ?_⟩
      simp only [go_sem, seval, hb_179T]
      all_goals ((repeat' refine And.intro ?_ ?_) <;> first | rfl | (simp; done) | (simp; rfl) | (simp [*]; done) | (simp [*]; rfl))
  · intro e s' hT
    rcases o_185 with ⟨⟩ | r_187
    · try simp only at h
      try simp only at hT
      obtain ⟨rfl, hle⟩ := hT
      refine Wk.to hle ?_
      clear hle
      refine blockA_here ?_
      refine thenA_n ?_
      refine awp_seq ?_
      refine awp_region ?_
      refine AL_upto (by exact rfl) (by simp only [go_sem, seval]; exact rfl) ?_
      refine AL_nil ?_
      refine thenA_n ?_
      refine awp_ret ?_
      cases h
      refine retQ_ret (by simp only [Try.results90]; simp only [go_sem, seval]; exact rfl) ?_
      simp only [go_sem, seval]
      all_goals ((repeat' refine And.intro ?_ ?_) <;> first | rfl | (simp; done) | (simp; rfl) | (simp [*]; done) | (simp [*]; rfl))
    · try simp only at h
      try simp only at hT
      obtain ⟨rfl, hq⟩ := hT
      refine Wk.now ?_
      refine blockA_ret ?_
      refine thenA_ret ?_
      cases h
      exact hq
end Go.Proofs.Ytdmddoljldjjeaa
set_option linter.unusedVariables false
set_option linter.unusedSimpArgs false
namespace Go.Proofs.Ytdmddoljldjjeaa
open Go Go.Ab
set_option maxHeartbeats 4000000 in
theorem cmp_isNaN_int_con (x_191 : Int) (r_192 : Bool) (h : cmp_isNaN_int x_191 = some r_192) : Con Try.prog 94 [(.int .i64 x_191)] (.bool r_192) := by
  refine ⟨Try.call94, ?_⟩
  refine pure_of_awp Try.func94 rfl Try.ntmps94 (by simp) fun X w => ?_
  show AWp _ _ _ ⟨[(0, .p (.int .i64 x_191))], []⟩
  simp only [cmp_isNaN_int] at h
  refine awp_seq ?_
  refine awp_region ?_
  refine AL_upto (by exact rfl) (by simp only [go_sem, seval]; exact rfl) ?_
  refine AL_nil ?_
  refine thenA_n ?_
  refine awp_seq ?_
  refine awp_region ?_
  refine AL_upto (by exact rfl) (by simp only [go_sem, seval]; exact rfl) ?_
  refine AL_nil ?_
  refine thenA_n ?_
  refine awp_ret ?_
  cases h
  refine retQ_ret (by simp only [Try.results94]; simp only [go_sem, seval]; exact rfl) ?_
  simp only [go_sem, seval]
  all_goals ((repeat' refine And.intro ?_ ?_) <;> first | rfl | (simp; done) | (simp; rfl) | (simp [*]; done) | (simp [*]; rfl))
end Go.Proofs.Ytdmddoljldjjeaa
set_option linter.unusedVariables false
set_option linter.unusedSimpArgs false
namespace Go.Proofs.Ytdmddoljldjjeaa
open Go Go.Ab
set_option maxHeartbeats 4000000 in
theorem cmp_Compare_int_con (x_193 : Int) (y_194 : Int) (r_208 : Int) (h : cmp_Compare_int x_193 y_194 = some r_208) : Con Try.prog 91 [(.int .i64 x_193), (.int .i64 y_194)] (.int .i64 r_208) := by
  refine ⟨Try.call91, ?_⟩
  refine pure_of_awp Try.func91 rfl Try.ntmps91 (by simp) fun X w => ?_
  show AWp _ _ _ ⟨[(0, .p (.int .i64 x_193)), (1, .p (.int .i64 y_194))], []⟩
  simp only [cmp_Compare_int] at h
  refine awp_seq ?_
  refine awp_region ?_
  refine AL_upto (by exact rfl) (by simp only [go_sem, seval]; exact rfl) ?_
  refine AL_nil ?_
  refine thenA_n ?_
  refine awp_seq ?_
  refine awp_region ?_
  refine AL_upto (by exact rfl) (by simp only [go_sem, seval]; exact rfl) ?_
  obtain ⟨r_197, hr_198, h⟩ := Option.bind_eq_some_iff.1 h
  refine AL_con' rfl (guard_none rfl) rfl (by simp only [go_sem, seval]; exact rfl) (by simp only [go_sem, seval]; all_goals ((repeat' refine And.intro ?_ ?_) <;> first | rfl | (simp; done) | (simp; rfl) | (simp [*]; done) | (simp [*]; rfl))) (cmp_isNaN_int_con x_193 _ hr_198) (.inr rfl) rfl ?_
  refine AL_upto (by exact rfl) (by simp only [go_sem, seval]; exact rfl) ?_
  refine AL_nil ?_
  refine thenA_n ?_
  refine awp_seq ?_
  refine awp_region ?_
  refine AL_upto (by exact rfl) (by simp only [go_sem, seval]; exact rfl) ?_
  obtain ⟨r_201, hr_202, h⟩ := Option.bind_eq_some_iff.1 h
  refine AL_con' rfl (guard_none rfl) rfl (by simp only [go_sem, seval]; exact rfl) (by simp only [go_sem, seval]; all_goals ((repeat' refine And.intro ?_ ?_) <;> first | rfl | (simp; done) | (simp; rfl) | (simp [*]; done) | (simp [*]; rfl))) (cmp_isNaN_int_con y_194 _ hr_202) (.inr rfl) rfl ?_
  refine AL_upto (by exact rfl) (by simp only [go_sem, seval]; exact rfl) ?_
  refine AL_nil ?_
  refine thenA_n ?_
  refine awp_seq ?_
  refine awp_seq ?_
  refine awp_region ?_
  refine AL_upto (by exact rfl) (by simp only [go_sem, seval]; exact rfl) ?_
  refine AL_nil ?_
  refine thenA_n ?_
  by_cases hb_203 : r_197 = true
  · rw [if_pos hb_203] at h
    refine awp_ct (by simp only [go_sem, seval, hb_203]) ?_
    refine awp_seq ?_
    refine awp_seq ?_
    refine awp_region ?_
    refine AL_upto (by exact rfl) (by simp only [go_sem, seval, hb_203]; exact rfl) ?_
    refine AL_nil ?_
    refine thenA_n ?_
    by_cases hb_204 : r_201 = true
    · rw [if_pos hb_204] at h
      refine awp_ct (by simp only [go_sem, seval, hb_203, hb_204]) ?_
      refine awp_seq ?_
      refine awp_region ?_
      refine AL_upto (by exact rfl) (by simp only [go_sem, seval, hb_203, hb_204]; exact rfl) ?_
      refine AL_nil ?_
      refine thenA_n ?_
      refine awp_ret ?_
      refine thenA_ret ?_
      refine thenA_ret ?_
      cases h
      refine retQ_ret (by simp only [Try.results91]; simp only [go_sem, seval, hb_203, hb_204]; exact rfl) ?_
      simp only [go_sem, seval, hb_203, hb_204]
      all_goals ((repeat' refine And.intro ?_ ?_) <;> first | rfl | (simp; done) | (simp; rfl) | (simp [*]; done) | (simp [*]; rfl))
    · rw [if_neg hb_204] at h
      have hb_204F := Bool.eq_false_iff.2 hb_204
      refine awp_cf (by simp only [go_sem, seval, hb_203, hb_204F]) ?_
      refine awp_skip ?_
      refine thenA_n ?_
      refine awp_seq ?_
      refine awp_region ?_
      refine AL_upto (by exact rfl) (by simp only [go_sem, seval, hb_203, hb_204F]; exact rfl) ?_
      refine AL_nil ?_
      refine thenA_n ?_
      refine awp_ret ?_
      refine thenA_ret ?_
      cases h
      refine retQ_ret (by simp only [Try.results91]; simp only [go_sem, seval, hb_203, hb_204F]; exact rfl) ?_
      simp only [go_sem, seval, hb_203, hb_204F]
      all_goals ((repeat' refine And.intro ?_ ?_) <;> first | rfl | (simp; done) | (simp; rfl) | (simp [*]; done) | (simp [*]; rfl))
  · rw [if_neg hb_203] at h
    have hb_203F := Bool.eq_false_iff.2 hb_203
    refine awp_cf (by simp only [go_sem, seval, hb_203F]) ?_
    refine awp_skip ?_
    refine thenA_n ?_
    refine awp_seq ?_
    refine awp_seq ?_
    refine awp_region ?_
    refine AL_upto (by exact rfl) (by simp only [go_sem, seval, hb_203F]; exact rfl) ?_
    refine AL_nil ?_
    refine thenA_n ?_
    by_cases hb_205 : r_201 = true
    · rw [if_pos hb_205] at h
      refine awp_ct (by simp only [go_sem, seval, hb_203F, hb_205]) ?_
      refine awp_seq ?_
      refine awp_region ?_
      refine AL_upto (by exact rfl) (by simp only [go_sem, seval, hb_203F, hb_205]; exact rfl) ?_
      refine AL_nil ?_
      refine thenA_n ?_
      refine awp_ret ?_
      refine thenA_ret ?_
      cases h
      refine retQ_ret (by simp only [Try.results91]; simp only [go_sem, seval, hb_203F, hb_205]; exact rfl) ?_
      simp only [go_sem, seval, hb_203F, hb_205]
      all_goals ((repeat' refine And.intro ?_ ?_) <;> first | rfl | (simp; done) | (simp; rfl) | (simp [*]; done) | (simp [*]; rfl))
    · rw [if_neg hb_205] at h
      have hb_205F := Bool.eq_false_iff.2 hb_205
      refine awp_cf (by simp only [go_sem, seval, hb_203F, hb_205F]) ?_
      refine awp_skip ?_
      refine thenA_n ?_
      refine awp_seq ?_
      refine awp_seq ?_
      refine awp_region ?_
      refine AL_upto (by exact rfl) (by simp only [go_sem, seval, hb_203F, hb_205F]; exact rfl) ?_
      refine AL_nil ?_
      refine thenA_n ?_
      by_cases hb_206 : x_193 < y_194
      · rw [if_pos hb_206] at h
        have hb_206T := eq_true hb_206
        refine awp_ct (by simp only [go_sem, seval, hb_203F, hb_205F, hb_206T]) ?_
        refine awp_seq ?_
        refine awp_region ?_
        refine AL_upto (by exact rfl) (by simp only [go_sem, seval, hb_203F, hb_205F, hb_206T]; exact rfl) ?_
        refine AL_nil ?_
        refine thenA_n ?_
        refine awp_ret ?_
        refine thenA_ret ?_
        cases h
        refine retQ_ret (by simp only [Try.results91]; simp only [go_sem, seval, hb_203F, hb_205F, hb_206T]; exact rfl) ?_
        simp only [go_sem, seval, hb_203F, hb_205F, hb_206T]
        all_goals ((repeat' refine And.intro ?_ ?_) <;> first | rfl | (simp; done) | (simp; rfl) | (simp [*]; done) | (simp [*]; rfl))
      · rw [if_neg hb_206] at h
        have hb_206T := eq_false hb_206
        refine awp_cf (by simp only [go_sem, seval, hb_203F, hb_205F, hb_206T]) ?_
        refine awp_skip ?_
        refine thenA_n ?_
        refine awp_seq ?_
        refine awp_seq ?_
        refine awp_region ?_
        refine AL_upto (by exact rfl) (by simp only [go_sem, seval, hb_203F, hb_205F, hb_206T]; exact rfl) ?_
        refine AL_nil ?_
        refine thenA_n ?_
        by_cases hb_207 : x_193 > y_194
        · rw [if_pos hb_207] at h
          have hb_207T := eq_true hb_207
          refine awp_ct (by simp only [go_sem, seval, hb_203F, hb_205F, hb_206T, hb_207T]) ?_
          refine awp_seq ?_
          refine awp_region ?_
          refine AL_upto (by exact rfl) (by simp only [go_sem, seval, hb_203F, hb_205F, hb_206T, hb_207T]; exact rfl) ?_
          refine AL_nil ?_
          refine thenA_n ?_
          refine awp_ret ?_
          refine thenA_ret ?_
          cases h
          refine retQ_ret (by simp only [Try.results91]; simp only [go_sem, seval, hb_203F, hb_205F, hb_206T, hb_207T]; exact rfl) ?_
          simp only [go_sem, seval, hb_203F, hb_205F, hb_206T, hb_207T]
          all_goals ((repeat' refine And.intro ?_ ?_) <;> first | rfl | (simp; done) | (simp; rfl) | (simp [*]; done) | (simp [*]; rfl))
        · rw [if_neg hb_207] at h
          have hb_207T := eq_false hb_207
          refine awp_cf (by simp only [go_sem, seval, hb_203F, hb_205F, hb_206T, hb_207T]) ?_
          refine awp_skip ?_
          refine thenA_n ?_
          refine awp_seq ?_
          refine awp_region ?_
          refine AL_upto (by exact rfl) (by simp only [go_sem, seval, hb_203F, hb_205F, hb_206T, hb_207T]; exact rfl) ?_
          refine AL_nil ?_
          refine thenA_n ?_
          refine awp_ret ?_
          cases h
          refine retQ_ret (by simp only [Try.results91]; simp only [go_sem, seval, hb_203F, hb_205F, hb_206T, hb_207T]; exact rfl) ?_
          simp only [go_sem, seval, hb_203F, hb_205F, hb_206T, hb_207T]
          all_goals ((repeat' refine And.intro ?_ ?_) <;> first | rfl | (simp; done) | (simp; rfl) | (simp [*]; done) | (simp [*]; rfl))
end Go.Proofs.Ytdmddoljldjjeaa
set_option linter.unusedVariables false
set_option linter.unusedSimpArgs false
namespace Go.Proofs.Ytdmddoljldjjeaa
open Go Go.Ab
set_option maxHeartbeats 4000000 in
theorem cmp_isNaN_int64_con (x_209 : Int) (r_210 : Bool) (h : cmp_isNaN_int64 x_209 = some r_210) : Con Try.prog 95 [(.int .i64 x_209)] (.bool r_210) := by
  refine ⟨Try.call95, ?_⟩
  refine pure_of_awp Try.func95 rfl Try.ntmps95 (by simp) fun X w => ?_
  show AWp _ _ _ ⟨[(0, .p (.int .i64 x_209))], []⟩
  simp only [cmp_isNaN_int64] at h
  refine awp_seq ?_
  refine awp_region ?_
  refine AL_upto (by exact rfl) (by simp only [go_sem, seval]; exact rfl) ?_
  refine AL_nil ?_
  refine thenA_n ?_
  refine awp_seq ?_
  refine awp_region ?_
  refine AL_upto (by exact rfl) (by simp only [go_sem, seval]; exact rfl) ?_
  refine AL_nil ?_
  refine thenA_n ?_
  refine awp_ret ?_
  cases h
  refine retQ_ret (by simp only [Try.results95]; simp only [go_sem, seval]; exact rfl) ?_
  simp only [go_sem, seval]
  all_goals ((repeat' refine And.intro ?_ ?_) <;> first | rfl | (simp; done) | (simp; rfl) | (simp [*]; done) | (simp [*]; rfl))
end Go.Proofs.Ytdmddoljldjjeaa
set_option linter.unusedVariables false
set_option linter.unusedSimpArgs false
namespace Go.Proofs.Ytdmddoljldjjeaa
open Go Go.Ab
set_option maxHeartbeats 4000000 in
theorem cmp_Compare_int64_con (x_211 : Int) (y_212 : Int) (r_226 : Int) (h : cmp_Compare_int64 x_211 y_212 = some r_226) : Con Try.prog 92 [(.int .i64 x_211), (.int .i64 y_212)] (.int .i64 r_226) := by
  refine ⟨Try.call92, ?_⟩
  refine pure_of_awp Try.func92 rfl Try.ntmps92 (by simp) fun X w => ?_
  show AWp _ _ _ ⟨[(0, .p (.int .i64 x_211)), (1, .p (.int .i64 y_212))], []⟩
  simp only [cmp_Compare_int64] at h
  refine awp_seq ?_
  refine awp_region ?_
  refine AL_upto (by exact rfl) (by simp only [go_sem, seval]; exact rfl) ?_
  refine AL_nil ?_
  refine thenA_n ?_
  refine awp_seq ?_
  refine awp_region ?_
  refine AL_upto (by exact rfl) (by simp only [go_sem, seval]; exact rfl) ?_
  obtain ⟨r_215, hr_216, h⟩ := Option.bind_eq_some_iff.1 h
  refine AL_con' rfl (guard_none rfl) rfl (by simp only [go_sem, seval]; exact rfl) (by simp only [go_sem, seval]; all_goals ((repeat' refine And.intro ?_ ?_) <;> first | rfl | (simp; done) | (simp; rfl) | (simp [*]; done) | (simp [*]; rfl))) (cmp_isNaN_int64_con x_211 _ hr_216) (.inr rfl) rfl ?_
  refine AL_upto (by exact rfl) (by simp only [go_sem, seval]; exact rfl) ?_
  refine AL_nil ?_
  refine thenA_n ?_
  refine awp_seq ?_
  refine awp_region ?_
  refine AL_upto (by exact rfl) (by simp only [go_sem, seval]; exact rfl) ?_
  obtain ⟨r_219, hr_220, h⟩ := Option.bind_eq_some_iff.1 h
  refine AL_con' rfl (guard_none rfl) rfl (by simp only [go_sem, seval]; exact rfl) (by simp only [go_sem, seval]; all_goals ((repeat' refine And.intro ?_ ?_) <;> first | rfl | (simp; done) | (simp; rfl) | (simp [*]; done) | (simp [*]; rfl))) (cmp_isNaN_int64_con y_212 _ hr_220) (.inr rfl) rfl ?_
  refine AL_upto (by exact rfl) (by simp only [go_sem, seval]; exact rfl) ?_
  refine AL_nil ?_
  refine thenA_n ?_
  refine awp_seq ?_
  refine awp_seq ?_
  refine awp_region ?_
  refine AL_upto (by exact rfl) (by simp only [go_sem, seval]; exact rfl) ?_
  refine AL_nil ?_
  refine thenA_n ?_
  by_cases hb_221 : r_215 = true
  · rw [if_pos hb_221] at h
    refine awp_ct (by simp only [go_sem, seval, hb_221]) ?_
    refine awp_seq ?_
    refine awp_seq ?_
    refine awp_region ?_
    refine AL_upto (by exact rfl) (by simp only [go_sem, seval, hb_221]; exact rfl) ?_
    refine AL_nil ?_
    refine thenA_n ?_
    by_cases hb_222 : r_219 = true
    · rw [if_pos hb_222] at h
      refine awp_ct (by simp only [go_sem, seval, hb_221, hb_222]) ?_
      refine awp_seq ?_
      refine awp_region ?_
      refine AL_upto (by exact rfl) (by simp only [go_sem, seval, hb_221, hb_222]; exact rfl) ?_
      refine AL_nil ?_
      refine thenA_n ?_
      refine awp_ret ?_
      refine thenA_ret ?_
      refine thenA_ret ?_
      cases h
      refine retQ_ret (by simp only [Try.results92]; simp only [go_sem, seval, hb_221, hb_222]; exact rfl) ?_
      simp only [go_sem, seval, hb_221, hb_222]
      all_goals ((repeat' refine And.intro ?_ ?_) <;> first | rfl | (simp; done) | (simp; rfl) | (simp [*]; done) | (simp [*]; rfl))
    · rw [if_neg hb_222] at h
      have hb_222F := Bool.eq_false_iff.2 hb_222
      refine awp_cf (by simp only [go_sem, seval, hb_221, hb_222F]) ?_
      refine awp_skip ?_
      refine thenA_n ?_
      refine awp_seq ?_
      refine awp_region ?_
      refine AL_upto (by exact rfl) (by simp only [go_sem, seval, hb_221, hb_222F]; exact rfl) ?_
      refine AL_nil ?_
      refine thenA_n ?_
      refine awp_ret ?_
      refine thenA_ret ?_
      cases h
      refine retQ_ret (by simp only [Try.results92]; simp only [go_sem, seval, hb_221, hb_222F]; exact rfl) ?_
      simp only [go_sem, seval, hb_221, hb_222F]
      all_goals ((repeat' refine And.intro ?_ ?_) <;> first | rfl | (simp; done) | (simp; rfl) | (simp [*]; done) | (simp [*]; rfl))
  · rw [if_neg hb_221] at h
    have hb_221F := Bool.eq_false_iff.2 hb_221
    refine awp_cf (by simp only [go_sem, seval, hb_221F]) ?_
    refine awp_skip ?_
    refine thenA_n ?_
    refine awp_seq ?_
    refine awp_seq ?_
    refine awp_region ?_
    refine AL_upto (by exact rfl) (by simp only [go_sem, seval, hb_221F]; exact rfl) ?_
    refine AL_nil ?_
    refine thenA_n ?_
    by_cases hb_223 : r_219 = true
    · rw [if_pos hb_223] at h
      refine awp_ct (by simp only [go_sem, seval, hb_221F, hb_223]) ?_
      refine awp_seq ?_
      refine awp_region ?_
      refine AL_upto (by exact rfl) (by simp only [go_sem, seval, hb_221F, hb_223]; exact rfl) ?_
      refine AL_nil ?_
      refine thenA_n ?_
      refine awp_ret ?_
      refine thenA_ret ?_
      cases h
      refine retQ_ret (by simp only [Try.results92]; simp only [go_sem, seval, hb_221F, hb_223]; exact rfl) ?_
      simp only [go_sem, seval, hb_221F, hb_223]
      all_goals ((repeat' refine And.intro ?_ ?_) <;> first | rfl | (simp; done) | (simp; rfl) | (simp [*]; done) | (simp [*]; rfl))
    · rw [if_neg hb_223] at h
      have hb_223F := Bool.eq_false_iff.2 hb_223
      refine awp_cf (by simp only [go_sem, seval, hb_221F, hb_223F]) ?_
      refine awp_skip ?_
      refine thenA_n ?_
      refine awp_seq ?_
      refine awp_seq ?_
      refine awp_region ?_
      refine AL_upto (by exact rfl) (by simp only [go_sem, seval, hb_221F, hb_223F]; exact rfl) ?_
      refine AL_nil ?_
      refine thenA_n ?_
      by_cases hb_224 : x_211 < y_212
      · rw [if_pos hb_224] at h
        have hb_224T := eq_true hb_224
        refine awp_ct (by simp only [go_sem, seval, hb_221F, hb_223F, hb_224T]) ?_
        refine awp_seq ?_
        refine awp_region ?_
        refine AL_upto (by exact rfl) (by simp only [go_sem, seval, hb_221F, hb_223F, hb_224T]; exact rfl) ?_
        refine AL_nil ?_
        refine thenA_n ?_
        refine awp_ret ?_
        refine thenA_ret ?_
        cases h
        refine retQ_ret (by simp only [Try.results92]; simp only [go_sem, seval, hb_221F, hb_223F, hb_224T]; exact rfl) ?_
        simp only [go_sem, seval, hb_221F, hb_223F, hb_224T]
        all_goals ((repeat' refine And.intro ?_ ?_) <;> first | rfl | (simp; done) | (simp; rfl) | (simp [*]; done) | (simp [*]; rfl))
      · rw [if_neg hb_224] at h
        have hb_224T := eq_false hb_224
        refine awp_cf (by simp only [go_sem, seval, hb_221F, hb_223F, hb_224T]) ?_
        refine awp_skip ?_
        refine thenA_n ?_
        refine awp_seq ?_
        refine awp_seq ?_
        refine awp_region ?_
        refine AL_upto (by exact rfl) (by simp only [go_sem, seval, hb_221F, hb_223F, hb_224T]; exact rfl) ?_
        refine AL_nil ?_
        refine thenA_n ?_
        by_cases hb_225 : x_211 > y_212
        · rw [if_pos hb_225] at h
          have hb_225T := eq_true hb_225
          refine awp_ct (by simp only [go_sem, seval, hb_221F, hb_223F, hb_224T, hb_225T]) ?_
          refine awp_seq ?_
          refine awp_region ?_
          refine AL_upto (by exact rfl) (by simp only [go_sem, seval, hb_221F, hb_223F, hb_224T, hb_225T]; exact rfl) ?_
          refine AL_nil ?_
          refine thenA_n ?_
          refine awp_ret ?_
          refine thenA_ret ?_
          cases h
          refine retQ_ret (by simp only [Try.results92]; simp only [go_sem, seval, hb_221F, hb_223F, hb_224T, hb_225T]; exact rfl) ?_
          simp only [go_sem, seval, hb_221F, hb_223F, hb_224T, hb_225T]
          all_goals ((repeat' refine And.intro ?_ ?_) <;> first | rfl | (simp; done) | (simp; rfl) | (simp [*]; done) | (simp [*]; rfl))
        · rw [if_neg hb_225] at h
          have hb_225T := eq_false hb_225
          refine awp_cf (by simp only [go_sem, seval, hb_221F, hb_223F, hb_224T, hb_225T]) ?_
          refine awp_skip ?_
          refine thenA_n ?_
          refine awp_seq ?_
          refine awp_region ?_
          refine AL_upto (by exact rfl) (by simp only [go_sem, seval, hb_221F, hb_223F, hb_224T, hb_225T]; exact rfl) ?_
          refine AL_nil ?_
          refine thenA_n ?_
          refine awp_ret ?_
          cases h
          refine retQ_ret (by simp only [Try.results92]; simp only [go_sem, seval, hb_221F, hb_223F, hb_224T, hb_225T]; exact rfl) ?_
          simp only [go_sem, seval, hb_221F, hb_223F, hb_224T, hb_225T]
          all_goals ((repeat' refine And.intro ?_ ?_) <;> first | rfl | (simp; done) | (simp; rfl) | (simp [*]; done) | (simp [*]; rfl))
end Go.Proofs.Ytdmddoljldjjeaa
namespace Go.Proofs.Ytdmddoljldjjeaa
open Go Go.Ab
theorem ext97 (a b : List UInt8) (w : World) : (callFunc 97 #[.string ⟨a.toArray⟩, .string ⟨b.toArray⟩]).run Try.prog w = .ok (.value (.int .i64 (Lib.compareBytes a b))) w := by
  rw [run_callFunc_extern Try.func97 (by kernel_rfl) (by kernel_rfl) (by kernel_rfl) (e := Extern.BytealgCompare.compare) (by kernel_rfl), Lib.run_compareString]
  rfl
end Go.Proofs.Ytdmddoljldjjeaa
set_option linter.unusedVariables false
set_option linter.unusedSimpArgs false
namespace Go.Proofs.Ytdmddoljldjjeaa
open Go Go.Ab
set_option maxHeartbeats 4000000 in
theorem bytealg_CompareString_con (a_227 : List UInt8) (b_228 : List UInt8) (r_231 : Int) (h : bytealg_CompareString a_227 b_228 = some r_231) : Con Try.prog 96 [(.str a_227), (.str b_228)] (.int .i64 r_231) := by
  refine ⟨Try.call96, ?_⟩
  refine pure_of_awp Try.func96 rfl Try.ntmps96 (by simp) fun X w => ?_
  show AWp _ _ _ ⟨[(0, .p (.str a_227)), (1, .p (.str b_228))], []⟩
  simp only [bytealg_CompareString] at h
  refine awp_seq ?_
  refine awp_region ?_
  refine AL_upto (by exact rfl) (by simp only [go_sem, seval]; exact rfl) ?_
  refine AL_nil ?_
  refine thenA_n ?_
  refine awp_seq ?_
  refine awp_region ?_
  refine AL_upto (by exact rfl) (by simp only [go_sem, seval]; exact rfl) ?_
  refine AL_ext2 (ext97 a_227 b_228) (by simp only [go_sem, seval]; all_goals ((repeat' refine And.intro ?_ ?_) <;> first | rfl | (simp; done) | (simp; rfl) | (simp [*]; done) | (simp [*]; rfl))) (by simp only [go_sem, seval]; all_goals ((repeat' refine And.intro ?_ ?_) <;> first | rfl | (simp; done) | (simp; rfl) | (simp [*]; done) | (simp [*]; rfl))) rfl ?_
  refine AL_upto (by exact rfl) (by simp only [go_sem, seval]; exact rfl) ?_
  refine AL_nil ?_
  refine thenA_n ?_
  refine awp_ret ?_
  cases h
  refine retQ_ret (by simp only [Try.results96]; simp only [go_sem, seval]; exact rfl) ?_
  simp only [go_sem, seval]
  all_goals ((repeat' refine And.intro ?_ ?_) <;> first | rfl | (simp; done) | (simp; rfl) | (simp [*]; done) | (simp [*]; rfl))
end Go.Proofs.Ytdmddoljldjjeaa
set_option linter.unusedVariables false
set_option linter.unusedSimpArgs false
namespace Go.Proofs.Ytdmddoljldjjeaa
open Go Go.Ab
set_option maxHeartbeats 4000000 in
theorem strings_Compare_con (a_232 : List UInt8) (b_233 : List UInt8) (r_236 : Int) (h : strings_Compare a_232 b_233 = some r_236) : Con Try.prog 93 [(.str a_232), (.str b_233)] (.int .i64 r_236) := by
  refine ⟨Try.call93, ?_⟩
  refine pure_of_awp Try.func93 rfl Try.ntmps93 (by simp) fun X w => ?_
  show AWp _ _ _ ⟨[(0, .p (.str a_232)), (1, .p (.str b_233))], []⟩
  simp only [strings_Compare] at h
  refine awp_seq ?_
  refine awp_region ?_
  refine AL_upto (by exact rfl) (by simp only [go_sem, seval]; exact rfl) ?_
  refine AL_nil ?_
  refine thenA_n ?_
  refine awp_seq ?_
  refine awp_region ?_
  refine AL_upto (by exact rfl) (by simp only [go_sem, seval]; exact rfl) ?_
  obtain ⟨r_234, hr_235, h⟩ := Option.bind_eq_some_iff.1 h
  refine AL_con' rfl (guard_none rfl) rfl (by simp only [go_sem, seval]; exact rfl) (by simp only [go_sem, seval]; all_goals ((repeat' refine And.intro ?_ ?_) <;> first | rfl | (simp; done) | (simp; rfl) | (simp [*]; done) | (simp [*]; rfl))) (bytealg_CompareString_con a_232 b_233 _ hr_235) (.inr rfl) rfl ?_
  refine AL_upto (by exact rfl) (by simp only [go_sem, seval]; exact rfl) ?_
  refine AL_nil ?_
  refine thenA_n ?_
  refine awp_ret ?_
  cases h
  refine retQ_ret (by simp only [Try.results93]; simp only [go_sem, seval]; exact rfl) ?_
  simp only [go_sem, seval]
  all_goals ((repeat' refine And.intro ?_ ?_) <;> first | rfl | (simp; done) | (simp; rfl) | (simp [*]; done) | (simp [*]; rfl))
end Go.Proofs.Ytdmddoljldjjeaa
set_option linter.unusedVariables false
set_option linter.unusedSimpArgs false
namespace Go.Proofs.Ytdmddoljldjjeaa
open Go Go.Ab
set_option maxHeartbeats 4000000 in
theorem value_Compare_con (a_237 : Value) (b_238 : Value) (r_247 : Int) (h : value_Compare a_237 b_238 = some r_247) : Con Try.prog 77 [(encValue a_237), (encValue b_238)] (.int .i64 r_247) := by
  refine ⟨Try.call77, ?_⟩
  refine pure_of_awp Try.func77 rfl Try.ntmps77 (by simp) fun X w => ?_
  show AWp _ _ _ ⟨[(0, .p (encValue a_237)), (1, .p (encValue b_238))], []⟩
  simp only [value_Compare] at h
  refine awp_seq ?_
  refine awp_region ?_
  refine AL_upto (by exact rfl) (by simp only [go_sem, seval]; exact rfl) ?_
  refine AL_nil ?_
  refine thenA_n ?_
  refine awp_seq ?_
  refine awp_drawn_walk mixed (by decide) ?_
  refine DGo.upto (by exact rfl) (by simp only [go_sem, seval]; exact ⟨rfl, rfl⟩) ?_
  obtain ⟨r_239, hr_240, h⟩ := Option.bind_eq_some_iff.1 h
  refine DGo.con' rfl (guard_none rfl) rfl (by simp only [go_sem, seval]; exact rfl) (by simp only [go_sem, seval]; all_goals ((repeat' refine And.intro ?_ ?_) <;> first | rfl | (simp; done) | (simp; rfl) | (simp [*]; done) | (simp [*]; rfl))) (by simp only [go_sem, seval]; exact rfl) (cmp_Compare_int_con a_237.Kind b_238.Kind _ hr_240) (.inr rfl) rfl ?_
  refine DGo.upto (by exact rfl) (by simp only [go_sem, seval]; exact ⟨rfl, rfl⟩) ?_
  obtain ⟨r_241, hr_242, h⟩ := Option.bind_eq_some_iff.1 h
  refine DGo.con' rfl (guard_none rfl) rfl (by simp only [go_sem, seval]; exact rfl) (by simp only [go_sem, seval]; all_goals ((repeat' refine And.intro ?_ ?_) <;> first | rfl | (simp; done) | (simp; rfl) | (simp [*]; done) | (simp [*]; rfl))) (by simp only [go_sem, seval]; exact rfl) (cmp_Compare_int64_con a_237.Num b_238.Num _ hr_242) (.inr rfl) rfl ?_
  refine DGo.upto (by exact rfl) (by simp only [go_sem, seval]; exact ⟨rfl, rfl⟩) ?_
  obtain ⟨r_243, hr_244, h⟩ := Option.bind_eq_some_iff.1 h
  refine DGo.con' rfl (guard_none rfl) rfl (by simp only [go_sem, seval]; exact rfl) (by simp only [go_sem, seval]; all_goals ((repeat' refine And.intro ?_ ?_) <;> first | rfl | (simp; done) | (simp; rfl) | (simp [*]; done) | (simp [*]; rfl))) (by simp only [go_sem, seval]; exact rfl) (strings_Compare_con a_237.Str b_238.Str _ hr_244) (.inr rfl) rfl ?_
  refine DGo.upto (by exact rfl) (by simp only [go_sem, seval]; exact ⟨rfl, rfl⟩) ?_
  obtain ⟨r_245, hr_246, h⟩ := Option.bind_eq_some_iff.1 h
  refine DGo.con' rfl (guard_none rfl) rfl (by simp only [go_sem, seval]; exact rfl) (by simp only [go_sem, seval]; all_goals ((repeat' refine And.intro ?_ ?_) <;> first | rfl | (simp; done) | (simp; rfl) | (simp [*]; done) | (simp [*]; rfl))) (by simp only [go_sem, seval]; exact rfl) (cmp_Or_int_con [r_239, r_241, r_243] _ hr_246) (.inr rfl) rfl ?_
  refine DGo.upto (by exact rfl) (by simp only [go_sem, seval]; exact ⟨rfl, rfl⟩) ?_
  refine DGo.fin rfl ?_
  refine thenA_n ?_
  refine awp_ret ?_
  cases h
  refine retQ_ret (by simp only [Try.results77]; simp only [go_sem, seval]; exact rfl) ?_
  simp only [go_sem, seval]
  all_goals ((repeat' refine And.intro ?_ ?_) <;> first | rfl | (simp; done) | (simp; rfl) | (simp [*]; done) | (simp [*]; rfl))
end Go.Proofs.Ytdmddoljldjjeaa
set_option linter.unusedVariables false
set_option linter.unusedSimpArgs false
namespace Go.Proofs.Ytdmddoljldjjeaa
open Go Go.Ab
set_option maxHeartbeats 4000000 in
theorem survivor_better_con (l_248 : List Value) (v_249 : Value) (best_250 : Value) (rule_251 : Int) (r_266 : Bool) (h : survivor_better l_248 v_249 best_250 rule_251 = some r_266) : Con Try.prog 51 [(.slc (List.map encValue l_248)), (encValue v_249), (encValue best_250), (.int .i64 rule_251)] (.bool r_266) := by
  refine ⟨Try.call51, ?_⟩
  refine pure_of_awp Try.func51 rfl Try.ntmps51 (by simp) fun X w => ?_
  show AWp _ _ _ ⟨[(0, .p (.slc (List.map encValue l_248))), (1, .p (encValue v_249)), (2, .p (encValue best_250)), (3, .p (.int .i64 rule_251))], []⟩
  simp only [survivor_better] at h
  refine awp_seq ?_
  refine awp_region ?_
  refine AL_upto (by exact rfl) (by simp only [go_sem, seval]; exact rfl) ?_
  refine AL_nil ?_
  refine thenA_n ?_
  refine awp_seq ?_
  refine awp_seq ?_
  refine awp_region ?_
  refine AL_upto (by exact rfl) (by simp only [go_sem, seval]; exact rfl) ?_
  refine AL_nil ?_
  refine thenA_n ?_
  refine awp_block ?_
  refine awp_seq ?_
  refine awp_region ?_
  refine AL_upto (by exact rfl) (by simp only [go_sem, seval]; exact rfl) ?_
  refine AL_nil ?_
  refine thenA_n ?_
  by_cases hb_252 : (rule_251 == 2) = true
  · rw [if_pos hb_252] at h
    refine awp_ct (by simp only [go_sem, seval, hb_252]) ?_
    refine awp_seq ?_
    refine awp_drawn_walk mixed (by decide) ?_
    refine DGo.upto (by exact rfl) (by simp only [go_sem, seval, hb_252]; exact ⟨rfl, rfl⟩) ?_
    obtain ⟨r_253, hr_254, h⟩ := Option.bind_eq_some_iff.1 h
    refine DGo.con' rfl (guard_none rfl) rfl (by simp only [go_sem, seval, hb_252]; exact rfl) (by simp only [go_sem, seval, hb_252]; all_goals ((repeat' refine And.intro ?_ ?_) <;> first | rfl | (simp; done) | (simp; rfl) | (simp [*]; done) | (simp [*]; rfl))) (by simp only [go_sem, seval, hb_252]; exact rfl) (survivor_count_con l_248 v_249 _ hr_254) (.inr rfl) rfl ?_
    refine DGo.upto (by exact rfl) (by simp only [go_sem, seval, hb_252]; exact ⟨rfl, rfl⟩) ?_
    obtain ⟨r_255, hr_256, h⟩ := Option.bind_eq_some_iff.1 h
    refine DGo.con' rfl (guard_none rfl) rfl (by simp only [go_sem, seval, hb_252]; exact rfl) (by simp only [go_sem, seval, hb_252]; all_goals ((repeat' refine And.intro ?_ ?_) <;> first | rfl | (simp; done) | (simp; rfl) | (simp [*]; done) | (simp [*]; rfl))) (by simp only [go_sem, seval, hb_252]; exact rfl) (survivor_count_con l_248 best_250 _ hr_256) (.inr rfl) rfl ?_
    refine DGo.upto (by exact rfl) (by simp only [go_sem, seval, hb_252]; exact ⟨rfl, rfl⟩) ?_
    refine DGo.fin rfl ?_
    refine thenA_n ?_
    refine awp_ret ?_
    refine blockA_ret ?_
    refine thenA_ret ?_
    cases h
    refine retQ_ret (by simp only [Try.results51]; simp only [go_sem, seval, hb_252]; exact rfl) ?_
    simp only [go_sem, seval, hb_252]
    all_goals ((repeat' refine And.intro ?_ ?_) <;> first | rfl | (simp; done) | (simp; rfl) | (simp [*]; done) | (simp [*]; rfl))
  · rw [if_neg hb_252] at h
    have hb_252F := Bool.eq_false_iff.2 hb_252
    refine awp_cf (by simp only [go_sem, seval, hb_252F]) ?_
    refine awp_seq ?_
    refine awp_region ?_
    refine AL_upto (by exact rfl) (by simp only [go_sem, seval, hb_252F]; exact rfl) ?_
    refine AL_nil ?_
    refine thenA_n ?_
    by_cases hb_257 : (rule_251 == 3) = true
    · rw [if_pos hb_257] at h
      refine awp_ct (by simp only [go_sem, seval, hb_252F, hb_257]) ?_
      refine awp_seq ?_
      refine awp_region ?_
      refine AL_upto (by exact rfl) (by simp only [go_sem, seval, hb_252F, hb_257]; exact rfl) ?_
      by_cases hb_258 : (v_249.Kind == 2) = true
      · rw [if_pos hb_258] at h
        refine AL_known (d := 24) (v := .p (.bool true)) (by simp only [go_sem, seval, hb_252F, hb_257, hb_258]) ?_
        refine AL_gt' (guard_true' rfl rfl (by exact rfl) (by exact rfl)) rfl (by simp only [go_sem, seval, hb_252F, hb_257, hb_258]; exact rfl) ?_
        refine AL_gt' (guard_true' rfl rfl (by exact rfl) (by exact rfl)) rfl (by simp only [go_sem, seval, hb_252F, hb_257, hb_258]; exact rfl) ?_
        refine AL_gt' (guard_true' rfl rfl (by exact rfl) (by exact rfl)) rfl (by simp only [go_sem, seval, hb_252F, hb_257, hb_258]; exact rfl) ?_
        refine AL_gt' (guard_true' rfl rfl (by exact rfl) (by exact rfl)) rfl (by simp only [go_sem, seval, hb_252F, hb_257, hb_258]; exact rfl) ?_
        by_cases hb_259 : (best_250.Kind != 2) = true
        · rw [if_pos hb_259] at h
          refine AL_known (d := 28) (v := .p (.bool true)) (by simp only [go_sem, seval, hb_252F, hb_257, hb_258, hb_259]) ?_
          refine AL_skips (by exact rfl) ?_
          refine AL_gt' (guard_true' rfl rfl (by exact rfl) (by exact rfl)) rfl (by simp only [go_sem, seval, hb_252F, hb_257, hb_258, hb_259]; exact rfl) ?_
          refine AL_upto (by exact rfl) (by simp only [go_sem, seval, hb_252F, hb_257, hb_258, hb_259]; exact rfl) ?_
          refine AL_nil ?_
          refine thenA_n ?_
          refine awp_ret ?_
          refine blockA_ret ?_
          refine thenA_ret ?_
          cases h
          refine retQ_ret (by simp only [Try.results51]; simp only [go_sem, seval, hb_252F, hb_257, hb_258, hb_259]; exact rfl) ?_
          simp only [go_sem, seval, hb_252F, hb_257, hb_258, hb_259]
          all_goals ((repeat' refine And.intro ?_ ?_) <;> first | rfl | (simp; done) | (simp; rfl) | (simp [*]; done) | (simp [*]; rfl))
        · rw [if_neg hb_259] at h
          have hb_259F := Bool.eq_false_iff.2 hb_259
          refine AL_known (d := 28) (v := .p (.bool false)) (by simp only [go_sem, seval, hb_252F, hb_257, hb_258, hb_259F]) ?_
          refine AL_gt' (guard_true' rfl rfl (by exact rfl) (by exact rfl)) rfl (by simp only [go_sem, seval, hb_252F, hb_257, hb_258, hb_259F]; exact rfl) ?_
          refine AL_gt' (guard_true' rfl rfl (by exact rfl) (by exact rfl)) rfl (by simp only [go_sem, seval, hb_252F, hb_257, hb_258, hb_259F]; exact rfl) ?_
          refine AL_gt' (guard_true' rfl rfl (by exact rfl) (by exact rfl)) rfl (by simp only [go_sem, seval, hb_252F, hb_257, hb_258, hb_259F]; exact rfl) ?_
          refine AL_gt' (guard_true' rfl rfl (by exact rfl) (by exact rfl)) rfl (by simp only [go_sem, seval, hb_252F, hb_257, hb_258, hb_259F]; exact rfl) ?_
          refine AL_gt' (guard_true' rfl rfl (by exact rfl) (by exact rfl)) rfl (by simp only [go_sem, seval, hb_252F, hb_257, hb_258, hb_259F]; exact rfl) ?_
          refine AL_gt' (guard_true' rfl rfl (by exact rfl) (by exact rfl)) rfl (by simp only [go_sem, seval, hb_252F, hb_257, hb_258, hb_259F]; exact rfl) ?_
          refine AL_gt' (guard_true' rfl rfl (by exact rfl) (by exact rfl)) rfl (by simp only [go_sem, seval, hb_252F, hb_257, hb_258, hb_259F]; exact rfl) ?_
          refine AL_gt' (guard_true' rfl rfl (by exact rfl) (by exact rfl)) rfl (by simp only [go_sem, seval, hb_252F, hb_257, hb_258, hb_259F]; exact rfl) ?_
          refine AL_upto (by exact rfl) (by simp only [go_sem, seval, hb_252F, hb_257, hb_258, hb_259F]; exact rfl) ?_
          refine AL_nil ?_
          refine thenA_n ?_
          refine awp_ret ?_
          refine blockA_ret ?_
          refine thenA_ret ?_
          cases h
          refine retQ_ret (by simp only [Try.results51]; simp only [go_sem, seval, hb_252F, hb_257, hb_258, hb_259F]; exact rfl) ?_
          simp only [go_sem, seval, hb_252F, hb_257, hb_258, hb_259F]
          all_goals ((repeat' refine And.intro ?_ ?_) <;> first | rfl | (simp; done) | (simp; rfl) | (simp [*]; done) | (simp [*]; rfl))
      · rw [if_neg hb_258] at h
        have hb_258F := Bool.eq_false_iff.2 hb_258
        refine AL_known (d := 24) (v := .p (.bool false)) (by simp only [go_sem, seval, hb_252F, hb_257, hb_258F]) ?_
        refine AL_skips (by exact rfl) ?_
        refine AL_upto (by exact rfl) (by simp only [go_sem, seval, hb_252F, hb_257, hb_258F]; exact rfl) ?_
        refine AL_nil ?_
        refine thenA_n ?_
        refine awp_ret ?_
        refine blockA_ret ?_
        refine thenA_ret ?_
        cases h
        refine retQ_ret (by simp only [Try.results51]; simp only [go_sem, seval, hb_252F, hb_257, hb_258F]; exact rfl) ?_
        simp only [go_sem, seval, hb_252F, hb_257, hb_258F]
        all_goals ((repeat' refine And.intro ?_ ?_) <;> first | rfl | (simp; done) | (simp; rfl) | (simp [*]; done) | (simp [*]; rfl))
    · rw [if_neg hb_257] at h
      have hb_257F := Bool.eq_false_iff.2 hb_257
      refine awp_cf (by simp only [go_sem, seval, hb_252F, hb_257F]) ?_
      refine awp_seq ?_
      refine awp_region ?_
      refine AL_upto (by exact rfl) (by simp only [go_sem, seval, hb_252F, hb_257F]; exact rfl) ?_
      refine AL_nil ?_
      refine thenA_n ?_
      by_cases hb_260 : (rule_251 == 4) = true
      · rw [if_pos hb_260] at h
        refine awp_ct (by simp only [go_sem, seval, hb_252F, hb_257F, hb_260]) ?_
        refine awp_seq ?_
        refine awp_region ?_
        refine AL_upto (by exact rfl) (by simp only [go_sem, seval, hb_252F, hb_257F, hb_260]; exact rfl) ?_
        obtain ⟨r_261, hr_262, h⟩ := Option.bind_eq_some_iff.1 h
        refine AL_con' rfl (guard_none rfl) rfl (by simp only [go_sem, seval, hb_252F, hb_257F, hb_260]; exact rfl) (by simp only [go_sem, seval, hb_252F, hb_257F, hb_260]; all_goals ((repeat' refine And.intro ?_ ?_) <;> first | rfl | (simp; done) | (simp; rfl) | (simp [*]; done) | (simp [*]; rfl))) (value_Compare_con v_249 best_250 _ hr_262) (.inr rfl) rfl ?_
        refine AL_upto (by exact rfl) (by simp only [go_sem, seval, hb_252F, hb_257F, hb_260]; exact rfl) ?_
        refine AL_nil ?_
        refine thenA_n ?_
        refine awp_ret ?_
        refine blockA_ret ?_
        refine thenA_ret ?_
        cases h
        refine retQ_ret (by simp only [Try.results51]; simp only [go_sem, seval, hb_252F, hb_257F, hb_260]; exact rfl) ?_
        simp only [go_sem, seval, hb_252F, hb_257F, hb_260]
        all_goals ((repeat' refine And.intro ?_ ?_) <;> first | rfl | (simp; done) | (simp; rfl) | (simp [*]; done) | (simp [*]; rfl))
      · rw [if_neg hb_260] at h
        have hb_260F := Bool.eq_false_iff.2 hb_260
        refine awp_cf (by simp only [go_sem, seval, hb_252F, hb_257F, hb_260F]) ?_
        refine awp_seq ?_
        refine awp_region ?_
        refine AL_upto (by exact rfl) (by simp only [go_sem, seval, hb_252F, hb_257F, hb_260F]; exact rfl) ?_
        refine AL_nil ?_
        refine thenA_n ?_
        by_cases hb_263 : (rule_251 == 5) = true
        · rw [if_pos hb_263] at h
          refine awp_ct (by simp only [go_sem, seval, hb_252F, hb_257F, hb_260F, hb_263]) ?_
          refine awp_seq ?_
          refine awp_region ?_
          refine AL_upto (by exact rfl) (by simp only [go_sem, seval, hb_252F, hb_257F, hb_260F, hb_263]; exact rfl) ?_
          obtain ⟨r_264, hr_265, h⟩ := Option.bind_eq_some_iff.1 h
          refine AL_con' rfl (guard_none rfl) rfl (by simp only [go_sem, seval, hb_252F, hb_257F, hb_260F, hb_263]; exact rfl) (by simp only [go_sem, seval, hb_252F, hb_257F, hb_260F, hb_263]; all_goals ((repeat' refine And.intro ?_ ?_) <;> first | rfl | (simp; done) | (simp; rfl) | (simp [*]; done) | (simp [*]; rfl))) (value_Compare_con v_249 best_250 _ hr_265) (.inr rfl) rfl ?_
          refine AL_upto (by exact rfl) (by simp only [go_sem, seval, hb_252F, hb_257F, hb_260F, hb_263]; exact rfl) ?_
          refine AL_nil ?_
          refine thenA_n ?_
          refine awp_ret ?_
          refine blockA_ret ?_
          refine thenA_ret ?_
          cases h
          refine retQ_ret (by simp only [Try.results51]; simp only [go_sem, seval, hb_252F, hb_257F, hb_260F, hb_263]; exact rfl) ?_
          simp only [go_sem, seval, hb_252F, hb_257F, hb_260F, hb_263]
          all_goals ((repeat' refine And.intro ?_ ?_) <;> first | rfl | (simp; done) | (simp; rfl) | (simp [*]; done) | (simp [*]; rfl))
        · rw [if_neg hb_263] at h
          have hb_263F := Bool.eq_false_iff.2 hb_263
          refine awp_cf (by simp only [go_sem, seval, hb_252F, hb_257F, hb_260F, hb_263F]) ?_
          refine awp_skip ?_
          refine blockA_n ?_
          refine thenA_n ?_
          refine awp_seq ?_
          refine awp_region ?_
          refine AL_upto (by exact rfl) (by simp only [go_sem, seval, hb_252F, hb_257F, hb_260F, hb_263F]; exact rfl) ?_
          refine AL_nil ?_
          refine thenA_n ?_
          refine awp_ret ?_
          cases h
          refine retQ_ret (by simp only [Try.results51]; simp only [go_sem, seval, hb_252F, hb_257F, hb_260F, hb_263F]; exact rfl) ?_
          simp only [go_sem, seval, hb_252F, hb_257F, hb_260F, hb_263F]
          all_goals ((repeat' refine And.intro ?_ ?_) <;> first | rfl | (simp; done) | (simp; rfl) | (simp [*]; done) | (simp [*]; rfl))
end Go.Proofs.Ytdmddoljldjjeaa
set_option linter.unusedVariables false
set_option linter.unusedSimpArgs false
namespace Go.Proofs.Ytdmddoljldjjeaa
open Go Go.Ab
set_option maxHeartbeats 4000000 in
theorem slices_IndexFunc_Row_con (s_267 : List Row) (f_268 : Row → Option (Bool)) (f_268_k : FuncId) (f_268_cs : List PV) (f_268_h : ∀ (y_269 : Row) (r_270 : Bool), f_268 y_269 = some r_270 → Con Try.prog f_268_k ((encRow y_269) :: f_268_cs) (.bool r_270)) (r_298 : Int) (h : slices_IndexFunc_Row s_267 f_268 = some r_298) : Con Try.prog 52 [(.slc (List.map encRow s_267)), .func (.func f_268_k) f_268_cs] (.int .i64 r_298) := by
  refine ⟨Try.call52, ?_⟩
  refine pure_of_awp Try.func52 rfl Try.ntmps52 (by simp) fun X w => ?_
  show AWp _ _ _ ⟨[(0, .p (.slc (List.map encRow s_267))), (1, .p (.func (.func f_268_k) f_268_cs))], []⟩
  simp only [slices_IndexFunc_Row] at h
  refine awp_seq ?_
  refine awp_region ?_
  refine AL_upto (by exact rfl) (by simp only [go_sem, seval]; exact rfl) ?_
  refine AL_nil ?_
  refine thenA_n ?_
  refine awp_seq ?_
  refine awp_seq ?_
  refine awp_region ?_
  refine AL_upto (by exact rfl) (by simp only [go_sem, seval]; exact rfl) ?_
  refine AL_nil ?_
  refine thenA_n ?_
  refine awp_block ?_
  obtain ⟨o_293, hL_294, h⟩ := Option.bind_eq_some_iff.1 h
  refine awp_loop_L (fun (s : Int) => ⟨[(0, .p (.slc (List.map encRow s_267))), (1, .p (.func (.func f_268_k) f_268_cs)), (7, .p (.int .i64 (s_267.length : Int))), (8, .p (.int .i64 s))], []⟩) (fun (o : (Unit) ⊕ (Int)) (e : Exit) (s' : St) => match o with | .inl o_296 => e = (.exit 0) ∧ Le ⟨Try.prog, Try.f52.ntmps, 0, X, [], fun _ => none, w⟩ s' ⟨[], []⟩ | .inr o_297 => e = .ret ∧ retQ Try.prog Try.f52 (.int .i64 o_297) .ret s') (by intro o s hT; rcases o with _ | _ <;> (have hh := hT.1; cases hh)) hL_294 (by simp only [go_sem, seval]; all_goals ((repeat' refine And.intro ?_ ?_) <;> first | rfl | (simp; done) | (simp; rfl) | (simp [*]; done) | (simp [*]; rfl))) ?_ ?_
  · clear h
    intro t8_278 x h
    simp only [slices_IndexFunc_Row_l1] at h
    show AWp _ _ _ ⟨[(0, .p (.slc (List.map encRow s_267))), (1, .p (.func (.func f_268_k) f_268_cs)), (7, .p (.int .i64 (s_267.length : Int))), (8, .p (.int .i64 t8_278))], []⟩
    refine awp_seq ?_
    refine awp_region ?_
    refine AL_upto (by exact rfl) (by simp only [go_sem, seval]; exact rfl) ?_
    refine AL_nil ?_
    refine thenA_n ?_
    refine awp_seq ?_
    by_cases hb_287 : t8_278 < (s_267.length : Int)
    · rw [if_pos hb_287] at h
      have hb_287T := eq_true hb_287
      refine awp_ct (by simp only [go_sem, seval, hb_287T]) ?_
      refine awp_skip ?_
      refine thenA_n ?_
      refine awp_seq ?_
      refine awp_block ?_
      refine awp_seq ?_
      refine awp_region ?_
      refine AL_upto (by exact rfl) (by simp only [go_sem, seval, hb_287T]; exact rfl) ?_
      refine AL_nil ?_
      refine thenA_n ?_
      refine awp_seq ?_
      refine awp_region ?_
      obtain ⟨x_288, hx_289, h⟩ := Option.bind_eq_some_iff.1 h
      obtain ⟨hx_289a, hx_289, hx_289b⟩ := idx_some hx_289
      have hx_289A := eq_true hx_289a
      have hx_289B := eq_true hx_289b
      refine AL_upto (by exact rfl) (by simp only [go_sem, seval, hb_287T, hx_289, hx_289A, hx_289B]; exact rfl) ?_
      obtain ⟨r_290, hr_291, h⟩ := Option.bind_eq_some_iff.1 h
      refine AL_con' rfl (guard_none rfl) rfl (by simp only [go_sem, seval, hb_287T]; exact rfl) (by simp only [go_sem, seval, hb_287T]; all_goals ((repeat' refine And.intro ?_ ?_) <;> first | rfl | (simp; done) | (simp; rfl) | (simp [*]; done) | (simp [*]; rfl))) (f_268_h x_288 _ hr_291) (.inr rfl) rfl ?_
      refine AL_nil ?_
      refine thenA_n ?_
      by_cases hb_292 : r_290 = true
      · rw [if_pos hb_292] at h
        refine awp_ct (by simp only [go_sem, seval, hb_287T, hb_292]) ?_
        refine awp_seq ?_
        refine awp_region ?_
        refine AL_upto (by exact rfl) (by simp only [go_sem, seval, hb_287T, hb_292]; exact rfl) ?_
        refine AL_nil ?_
        refine thenA_n ?_
        refine awp_ret ?_
        refine blockA_ret ?_
        refine thenA_ret ?_
        cases h
        refine ⟨rfl, ?_⟩
        refine retQ_ret (by simp only [Try.results52]; simp only [go_sem, seval, hb_287T, hb_292]; exact rfl) ?_
        simp only [go_sem, seval, hb_287T, hb_292]
        all_goals ((repeat' refine And.intro ?_ ?_) <;> first | rfl | (simp; done) | (simp; rfl) | (simp [*]; done) | (simp [*]; rfl))
      · rw [if_neg hb_292] at h
        have hb_292F := Bool.eq_false_iff.2 hb_292
        refine awp_cf (by simp only [go_sem, seval, hb_287T, hb_292F]) ?_
        refine awp_skip ?_
        refine blockA_n ?_
        refine thenA_n ?_
        refine awp_region ?_
        refine AL_upto (by exact rfl) (by simp only [go_sem, seval, hb_287T, hb_292F]; exact rfl) ?_
        refine AL_nil ?_
        cases h
        refine ⟨rfl, ?_⟩
        simp only [go_sem, seval, hb_287T, hb_292F]
        all_goals ((repeat' refine And.intro ?_ ?_) <;> first | rfl | (simp; done) | (simp; rfl) | (simp [*]; done) | (simp [*]; rfl))
    · rw [if_neg hb_287] at h
      have hb_287T := eq_false hb_287
      refine awp_cf (by simp only [go_sem, seval, hb_287T]) ?_
      refine awp_exit ?_
      refine thenA_exit ?_
      cases h
      refine ⟨rfl, ?_⟩
      simp only [go_sem, seval, hb_287T]
      all_goals ((repeat' refine And.intro ?_ ?_) <;> first | rfl | (simp; done) | (simp; rfl) | (simp [*]; done) | (simp [*]; rfl))
  · intro e s' hT
    rcases o_293 with ⟨⟩ | r_295
    · try simp only at h
      try simp only at hT
      obtain ⟨rfl, hle⟩ := hT
      refine Wk.to hle ?_
      clear hle
      refine blockA_here ?_
      refine thenA_n ?_
      refine awp_seq ?_
      refine awp_region ?_
      refine AL_upto (by exact rfl) (by simp only [go_sem, seval]; exact rfl) ?_
      refine AL_nil ?_
      refine thenA_n ?_
      refine awp_ret ?_
      cases h
      refine retQ_ret (by simp only [Try.results52]; simp only [go_sem, seval]; exact rfl) ?_
      simp only [go_sem, seval]
      all_goals ((repeat' refine And.intro ?_ ?_) <;> first | rfl | (simp; done) | (simp; rfl) | (simp [*]; done) | (simp [*]; rfl))
    · try simp only at h
      try simp only at hT
      obtain ⟨rfl, hq⟩ := hT
      refine Wk.now ?_
      refine blockA_ret ?_
      refine thenA_ret ?_
      cases h
      exact hq
end Go.Proofs.Ytdmddoljldjjeaa
set_option linter.unusedVariables false
set_option linter.unusedSimpArgs false
namespace Go.Proofs.Ytdmddoljldjjeaa
open Go Go.Ab
set_option maxHeartbeats 4000000 in
theorem survivor_choose_1_con (r_299 : Row) (c_300 : Int) (c_301 : Value) (r_304 : Bool) (h : survivor_choose_1 r_299 c_300 c_301 = some r_304) : Con Try.prog 53 [(encRow r_299), .imm [.int .i64 c_300], .imm [.int .i64 c_301.Kind, .int .i64 c_301.Num, .str c_301.Str]] (.bool r_304) := by
  refine ⟨Try.call53, ?_⟩
  refine pure_of_awp Try.func53 rfl Try.ntmps53 (by simp) fun X w => ?_
  show AWp _ _ _ ⟨[(0, .p (encRow r_299)), (1, .p (.imm [.int .i64 c_300])), (2, .p (.imm [.int .i64 c_301.Kind, .int .i64 c_301.Num, .str c_301.Str]))], []⟩
  simp only [survivor_choose_1] at h
  refine awp_seq ?_
  refine awp_region ?_
  refine AL_upto (by exact rfl) (by simp only [go_sem, seval]; exact rfl) ?_
  refine AL_nil ?_
  refine thenA_n ?_
  refine awp_seq ?_
  refine awp_drawn_walk mixed (by decide) ?_
  obtain ⟨x_302, hx_303, h⟩ := Option.bind_eq_some_iff.1 h
  obtain ⟨hx_303a, hx_303, hx_303b⟩ := idx_some hx_303
  have hx_303A := eq_true hx_303a
  have hx_303B := eq_true hx_303b
  refine DGo.upto (by exact rfl) (by simp only [go_sem, seval, hx_303, hx_303A, hx_303B]; exact ⟨rfl, rfl⟩) ?_
  refine DGo.fin rfl ?_
  refine thenA_n ?_
  refine awp_ret ?_
  cases h
  refine retQ_ret (by simp only [Try.results53]; simp only [go_sem, seval]; exact rfl) ?_
  simp only [go_sem, seval]
  all_goals ((repeat' refine And.intro ?_ ?_) <;> first | rfl | (simp; done) | (simp; rfl) | (simp [*]; done) | (simp [*]; rfl))
end Go.Proofs.Ytdmddoljldjjeaa
set_option linter.unusedVariables false
set_option linter.unusedSimpArgs false
namespace Go.Proofs.Ytdmddoljldjjeaa
open Go Go.Ab
set_option maxHeartbeats 4000000 in
theorem survivor_choose_con (rows_305 : List Row) (attr_306 : Int) (rule_307 : Int) (r_406 : Value × Int) (h : survivor_choose rows_305 attr_306 rule_307 = some r_406) : Con Try.prog 27 [(.slc (List.map encRow rows_305)), (.int .i64 attr_306), (.int .i64 rule_307)] (.tup [(encValue r_406.1), (.int .i64 r_406.2)]) := by
  refine ⟨Try.call27, ?_⟩
  refine pure_of_awp Try.func27 rfl Try.ntmps27 (by simp) fun X w => ?_
  show AWp _ _ _ ⟨[(0, .p (.slc (List.map encRow rows_305))), (1, .p (.int .i64 attr_306)), (2, .p (.int .i64 rule_307))], []⟩
  simp only [survivor_choose] at h
  refine awp_seq ?_
  refine awp_region ?_
  refine AL_upto (by exact rfl) (by simp only [go_sem, seval]; exact rfl) ?_
  refine AL_nil ?_
  refine thenA_n ?_
  refine awp_seq ?_
  refine awp_region ?_
  refine AL_upto (by exact rfl) (by simp only [go_sem, seval]; exact rfl) ?_
  refine AL_nil ?_
  refine thenA_n ?_
  refine awp_seq ?_
  refine awp_seq ?_
  refine awp_region ?_
  refine AL_upto (by exact rfl) (by simp only [go_sem, seval]; exact rfl) ?_
  refine AL_nil ?_
  refine thenA_n ?_
  refine awp_block ?_
  obtain ⟨o_347, hL_348, h⟩ := Option.bind_eq_some_iff.1 h
  refine awp_loop_L (fun (s : List Value × Int) => ⟨[(0, .p (.slc (List.map encRow rows_305))), (2, .p (.int .i64 rule_307)), (4, .loc 4 1 0 0), (6, .loc 6 1 0 0), (8, .own 33 1 0 s.1.length), (16, .p (.slc (List.map encRow rows_305))), (17, .p (.int .i64 (rows_305.length : Int))), (18, .p (.int .i64 s.2))], [(4, .arr 3 1 1 [.p (.int .i64 attr_306)]), (6, .arr 25 3 1 [.p (.agg [.int .i64 0, .int .i64 0, .str []])]), (33, .arr 25 3 1 (List.map AV.p (List.map encValue s.1)))]⟩) (fun (o_405 : List Value) (e : Exit) (s' : St) => e = (.exit 0) ∧ Le ⟨Try.prog, Try.f27.ntmps, 0, X, [], fun _ => none, w⟩ s' ⟨[(0, .p (.slc (List.map encRow rows_305))), (2, .p (.int .i64 rule_307)), (4, .loc 4 1 0 0), (6, .loc 6 1 0 0), (8, .own 33 1 0 o_405.length)], [(4, .arr 3 1 1 [.p (.int .i64 attr_306)]), (6, .arr 25 3 1 [.p (.agg [.int .i64 0, .int .i64 0, .str []])]), (33, .arr 25 3 1 (List.map AV.p (List.map encValue o_405)))]⟩) (by intro o s hT; have hh := hT.1; cases hh) hL_348 (by simp only [go_sem, seval]; all_goals ((repeat' refine And.intro ?_ ?_) <;> first | rfl | (simp; done) | (simp; rfl) | (simp [*]; done) | (simp [*]; rfl))) ?_ ?_
  · clear h
    intro s x h
    obtain ⟨l_320, t18_321⟩ := s
    simp only [survivor_choose_l1] at h
    show AWp _ _ _ ⟨[(0, .p (.slc (List.map encRow rows_305))), (2, .p (.int .i64 rule_307)), (4, .loc 4 1 0 0), (6, .loc 6 1 0 0), (8, .own 33 1 0 l_320.length), (16, .p (.slc (List.map encRow rows_305))), (17, .p (.int .i64 (rows_305.length : Int))), (18, .p (.int .i64 t18_321))], [(4, .arr 3 1 1 [.p (.int .i64 attr_306)]), (6, .arr 25 3 1 [.p (.agg [.int .i64 0, .int .i64 0, .str []])]), (33, .arr 25 3 1 (List.map AV.p (List.map encValue l_320)))]⟩
    refine awp_seq ?_
    refine awp_region ?_
    refine AL_upto (by exact rfl) (by simp only [go_sem, seval]; exact rfl) ?_
    refine AL_nil ?_
    refine thenA_n ?_
    refine awp_seq ?_
    by_cases hb_336 : t18_321 < (rows_305.length : Int)
    · rw [if_pos hb_336] at h
      have hb_336T := eq_true hb_336
      refine awp_ct (by simp only [go_sem, seval, hb_336T]) ?_
      refine awp_skip ?_
      refine thenA_n ?_
      refine awp_seq ?_
      refine awp_block ?_
      refine awp_seq ?_
      refine awp_region ?_
      obtain ⟨x_339, hx_340, h⟩ := Option.bind_eq_some_iff.1 h
      obtain ⟨hx_340a, hx_340, hx_340b⟩ := idx_some hx_340
      have hx_340A := eq_true hx_340a
      have hx_340B := eq_true hx_340b
      refine AL_upto (by exact rfl) (by simp only [go_sem, seval, hb_336T, hx_340, hx_340A, hx_340B]; exact rfl) ?_
      refine AL_nil ?_
      refine thenA_n ?_
      refine awp_seq ?_
      refine awp_region ?_
      obtain ⟨x_343, hx_344, h⟩ := Option.bind_eq_some_iff.1 h
      obtain ⟨hx_344a, hx_344, hx_344b⟩ := idx_some hx_344
      have hx_344A := eq_true hx_344a
      have hx_344B := eq_true hx_344b
      refine AL_upto (by exact rfl) (by simp only [go_sem, seval, hb_336T, hx_344, hx_344A, hx_344B]; exact rfl) ?_
      refine AL_nil ?_
      refine thenA_n ?_
      refine awp_seq ?_
      refine awp_region ?_
      refine AL_upto (by exact rfl) (by simp only [go_sem, seval, hb_336T]; exact rfl) ?_
      refine AL_nil ?_
      refine thenA_n ?_
      by_cases hb_345 : (x_343.Kind != 0) = true
      · rw [if_pos hb_345] at h
        refine awp_ct (by simp only [go_sem, seval, hb_336T, hb_345]) ?_
        refine awp_region ?_
        obtain ⟨hc_346, h⟩ := ite_some h
        refine AL_upto (by exact rfl) (by simp only [go_sem, seval, hb_336T, hb_345, hc_346]; exact rfl) ?_
        refine AL_nil ?_
        refine blockA_n ?_
        refine thenA_n ?_
        refine awp_region ?_
        refine AL_upto (by exact rfl) (by simp only [go_sem, seval, hb_336T, hb_345]; exact rfl) ?_
        refine AL_nil ?_
        cases h
        refine ⟨rfl, ?_⟩
        simp only [go_sem, seval, hb_336T, hb_345]
        all_goals ((repeat' refine And.intro ?_ ?_) <;> first | rfl | (simp; done) | (simp; rfl) | (simp [*]; done) | (simp [*]; rfl))
      · rw [if_neg hb_345] at h
        have hb_345F := Bool.eq_false_iff.2 hb_345
        refine awp_cf (by simp only [go_sem, seval, hb_336T, hb_345F]) ?_
        refine awp_skip ?_
        refine blockA_n ?_
        refine thenA_n ?_
        refine awp_region ?_
        refine AL_upto (by exact rfl) (by simp only [go_sem, seval, hb_336T, hb_345F]; exact rfl) ?_
        refine AL_nil ?_
        cases h
        refine ⟨rfl, ?_⟩
        simp only [go_sem, seval, hb_336T, hb_345F]
        all_goals ((repeat' refine And.intro ?_ ?_) <;> first | rfl | (simp; done) | (simp; rfl) | (simp [*]; done) | (simp [*]; rfl))
    · rw [if_neg hb_336] at h
      have hb_336T := eq_false hb_336
      refine awp_cf (by simp only [go_sem, seval, hb_336T]) ?_
      refine awp_exit ?_
      refine thenA_exit ?_
      cases h
      refine ⟨rfl, ?_⟩
      simp only [go_sem, seval, hb_336T]
      all_goals ((repeat' refine And.intro ?_ ?_) <;> first | rfl | (simp; done) | (simp; rfl) | (simp [*]; done) | (simp [*]; rfl))
  · intro e s' hT
    obtain ⟨l_334, rfl⟩ : ∃ z, z = o_347 := ⟨_, rfl⟩
    try simp only at h
    try simp only at hT
    obtain ⟨rfl, hle⟩ := hT
    refine Wk.to hle ?_
    clear hle
    refine blockA_here ?_
    refine thenA_n ?_
    refine awp_seq ?_
    refine awp_seq ?_
    refine awp_region ?_
    refine AL_upto (by exact rfl) (by simp only [go_sem, seval]; exact rfl) ?_
    refine AL_nil ?_
    refine thenA_n ?_
    by_cases hb_349 : (((l_334.length : Nat) : Int) == 0) = true
    · rw [if_pos hb_349] at h
      refine awp_ct (by simp only [go_sem, seval, hb_349]) ?_
      refine awp_seq ?_
      refine awp_drawn_walk mixed (by decide) ?_
      obtain ⟨x_350, hx_351, h⟩ := Option.bind_eq_some_iff.1 h
      have hx_351l := eq_true (lt_of_get hx_351)
      have hx_351L : ((0 : Int) < (rows_305.length : Int)) = True := eq_true (by have := lt_of_get hx_351; omega)
      refine DGo.upto (by exact rfl) (by simp only [go_sem, seval, hb_349, hx_351, hx_351l, hx_351L]; exact ⟨rfl, rfl⟩) ?_
      refine DGo.fin rfl ?_
      refine thenA_n ?_
      refine awp_ret ?_
      refine thenA_ret ?_
      cases h
      refine retQ_ret (by simp only [Try.results27]; simp only [go_sem, seval, hb_349]; exact rfl) ?_
      simp only [go_sem, seval, hb_349]
      all_goals ((repeat' refine And.intro ?_ ?_) <;> first | rfl | (simp; done) | (simp; rfl) | (simp [*]; done) | (simp [*]; rfl))
    · rw [if_neg hb_349] at h
      have hb_349F := Bool.eq_false_iff.2 hb_349
      refine awp_cf (by simp only [go_sem, seval, hb_349F]) ?_
      refine awp_skip ?_
      refine thenA_n ?_
      refine awp_seq ?_
      refine awp_region ?_
      obtain ⟨x_354, hx_355, h⟩ := Option.bind_eq_some_iff.1 h
      have hx_355l := eq_true (lt_of_get hx_355)
      have hx_355L : ((0 : Int) < (l_334.length : Int)) = True := eq_true (by have := lt_of_get hx_355; omega)
      refine AL_upto (by exact rfl) (by simp only [go_sem, seval, hb_349F, hx_355, hx_355l, hx_355L]; exact rfl) ?_
      refine AL_nil ?_
      refine thenA_n ?_
      refine awp_seq ?_
      refine awp_seq ?_
      refine awp_region ?_
      obtain ⟨hc_357, h⟩ := ite_some h
      have hc_357T := eq_true hc_357
      refine AL_upto (by exact rfl) (by simp only [go_sem, seval, hb_349F, hc_357T]; exact rfl) ?_
      refine AL_nil ?_
      refine thenA_n ?_
      refine awp_block ?_
      obtain ⟨o_394, hL_395, h⟩ := Option.bind_eq_some_iff.1 h
      refine awp_loop_L (fun (s : Value × Int) => ⟨[(0, .p (.slc (List.map encRow rows_305))), (2, .p (.int .i64 rule_307)), (4, .loc 4 1 0 0), (6, .loc 6 1 0 0), (8, .own 33 1 0 l_334.length), (12, .loc 12 1 0 0), (47, .own 33 1 1 (l_334.length - 1)), (48, .p (.int .i64 (((l_334.length - 1) : Nat) : Int))), (49, .p (.int .i64 s.2))], [(4, .arr 3 1 1 [.p (.int .i64 attr_306)]), (6, .arr 25 3 1 [.p (.agg [.int .i64 0, .int .i64 0, .str []])]), (12, .arr 25 3 1 [.p (encValue s.1)]), (33, .arr 25 3 1 (List.map AV.p (List.map encValue l_334)))]⟩) (fun (o_404 : Value) (e : Exit) (s' : St) => e = (.exit 2) ∧ Le ⟨Try.prog, Try.f27.ntmps, 0, X, [], fun _ => none, w⟩ s' ⟨[(0, .p (.slc (List.map encRow rows_305))), (4, .loc 4 1 0 0), (6, .loc 6 1 0 0), (12, .loc 12 1 0 0)], [(4, .arr 3 1 1 [.p (.int .i64 attr_306)]), (6, .arr 25 3 1 [.p (.agg [.int .i64 0, .int .i64 0, .str []])]), (12, .arr 25 3 1 [.p (encValue o_404)])]⟩) (by intro o s hT; have hh := hT.1; cases hh) hL_395 (by simp only [go_sem, seval, hb_349F]; all_goals ((repeat' refine And.intro ?_ ?_) <;> first | rfl | (simp; done) | (simp; rfl) | (simp [*]; done) | (simp [*]; rfl))) ?_ ?_
      · clear h
        intro s x h
        obtain ⟨best_369, t49_370⟩ := s
        simp only [survivor_choose_l2] at h
        show AWp _ _ _ ⟨[(0, .p (.slc (List.map encRow rows_305))), (2, .p (.int .i64 rule_307)), (4, .loc 4 1 0 0), (6, .loc 6 1 0 0), (8, .own 33 1 0 l_334.length), (12, .loc 12 1 0 0), (47, .own 33 1 1 (l_334.length - 1)), (48, .p (.int .i64 (((l_334.length - 1) : Nat) : Int))), (49, .p (.int .i64 t49_370))], [(4, .arr 3 1 1 [.p (.int .i64 attr_306)]), (6, .arr 25 3 1 [.p (.agg [.int .i64 0, .int .i64 0, .str []])]), (12, .arr 25 3 1 [.p (encValue best_369)]), (33, .arr 25 3 1 (List.map AV.p (List.map encValue l_334)))]⟩
        refine awp_seq ?_
        refine awp_region ?_
        refine AL_upto (by exact rfl) (by simp only [go_sem, seval]; exact rfl) ?_
        refine AL_nil ?_
        refine thenA_n ?_
        refine awp_seq ?_
        by_cases hb_384 : t49_370 < (((l_334.length - 1) : Nat) : Int)
        · rw [if_pos hb_384] at h
          have hb_384T := eq_true hb_384
          refine awp_ct (by simp only [go_sem, seval, hb_384T]) ?_
          refine awp_skip ?_
          refine thenA_n ?_
          refine awp_seq ?_
          refine awp_block ?_
          refine awp_seq ?_
          refine awp_region ?_
          obtain ⟨x_388, hx_389, h⟩ := Option.bind_eq_some_iff.1 h
          obtain ⟨hx_389a, hx_389, hx_389b⟩ := idx_some hx_389
          have hx_389A := eq_true hx_389a
          have hx_389B := eq_true hx_389b
          obtain ⟨hp_390, hp_390n⟩ := part_get hx_389
          have hp_390N := eq_true (part_lt hp_390n hx_389a)
          refine AL_upto (by exact rfl) (by simp only [go_sem, seval, hb_384T, hx_389, hx_389A, hx_389B, hp_390N, hp_390]; exact rfl) ?_
          refine AL_nil ?_
          refine thenA_n ?_
          refine awp_seq ?_
          refine awp_region ?_
          refine AL_upto (by exact rfl) (by simp only [go_sem, seval, hb_384T]; exact rfl) ?_
          obtain ⟨r_391, hr_392, h⟩ := Option.bind_eq_some_iff.1 h
          refine AL_con' rfl (guard_none rfl) rfl (by simp only [go_sem, seval, hb_384T]; exact rfl) (by simp only [go_sem, seval, hb_384T]; all_goals ((repeat' refine And.intro ?_ ?_) <;> first | rfl | (simp; done) | (simp; rfl) | (simp [*]; done) | (simp [*]; rfl))) (survivor_better_con l_334 x_388 best_369 rule_307 _ hr_392) (.inr rfl) rfl ?_
          refine AL_nil ?_
          refine thenA_n ?_
          by_cases hb_393 : r_391 = true
          · rw [if_pos hb_393] at h
            refine awp_ct (by simp only [go_sem, seval, hb_384T, hb_393]) ?_
            refine awp_region ?_
            refine AL_upto (by exact rfl) (by simp only [go_sem, seval, hb_384T, hb_393]; exact rfl) ?_
            refine AL_nil ?_
            refine blockA_n ?_
            refine thenA_n ?_
            refine awp_region ?_
            refine AL_upto (by exact rfl) (by simp only [go_sem, seval, hb_384T, hb_393]; exact rfl) ?_
            refine AL_nil ?_
            cases h
            refine ⟨rfl, ?_⟩
            simp only [go_sem, seval, hb_384T, hb_393]
            all_goals ((repeat' refine And.intro ?_ ?_) <;> first | rfl | (simp; done) | (simp; rfl) | (simp [*]; done) | (simp [*]; rfl))
          · rw [if_neg hb_393] at h
            have hb_393F := Bool.eq_false_iff.2 hb_393
            refine awp_cf (by simp only [go_sem, seval, hb_384T, hb_393F]) ?_
            refine awp_skip ?_
            refine blockA_n ?_
            refine thenA_n ?_
            refine awp_region ?_
            refine AL_upto (by exact rfl) (by simp only [go_sem, seval, hb_384T, hb_393F]; exact rfl) ?_
            refine AL_nil ?_
            cases h
            refine ⟨rfl, ?_⟩
            simp only [go_sem, seval, hb_384T, hb_393F]
            all_goals ((repeat' refine And.intro ?_ ?_) <;> first | rfl | (simp; done) | (simp; rfl) | (simp [*]; done) | (simp [*]; rfl))
        · rw [if_neg hb_384] at h
          have hb_384T := eq_false hb_384
          refine awp_cf (by simp only [go_sem, seval, hb_384T]) ?_
          refine awp_exit ?_
          refine thenA_exit ?_
          cases h
          refine ⟨rfl, ?_⟩
          simp only [go_sem, seval, hb_384T]
          all_goals ((repeat' refine And.intro ?_ ?_) <;> first | rfl | (simp; done) | (simp; rfl) | (simp [*]; done) | (simp [*]; rfl))
      · intro e s' hT
        obtain ⟨best_382, rfl⟩ : ∃ z, z = o_394 := ⟨_, rfl⟩
        try simp only at h
        try simp only at hT
        obtain ⟨rfl, hle⟩ := hT
        refine Wk.to hle ?_
        clear hle
        refine blockA_here ?_
        refine thenA_n ?_
        refine awp_seq ?_
        refine awp_region ?_
        refine AL_upto (by exact rfl) (by simp only [go_sem, seval, hb_349F]; exact rfl) ?_
        obtain ⟨r_400, hr_401, h⟩ := Option.bind_eq_some_iff.1 h
        refine AL_con' rfl (guard_none rfl) rfl (by simp only [go_sem, seval, hb_349F]; exact rfl) (by simp only [go_sem, seval, hb_349F]; all_goals ((repeat' refine And.intro ?_ ?_) <;> first | rfl | (simp; done) | (simp; rfl) | (simp [*]; done) | (simp [*]; rfl))) (slices_IndexFunc_Row_con rows_305 (fun (y_399 : Row) => survivor_choose_1 y_399 attr_306 best_382) 53 [.imm [.int .i64 attr_306], .imm [.int .i64 best_382.Kind, .int .i64 best_382.Num, .str best_382.Str]] (fun y_399 r h => survivor_choose_1_con y_399 attr_306 best_382 r h) _ hr_401) (.inr rfl) rfl ?_
        refine AL_upto (by exact rfl) (by simp only [go_sem, seval, hb_349F]; exact rfl) ?_
        refine AL_nil ?_
        refine thenA_n ?_
        refine awp_seq ?_
        refine awp_drawn_walk mixed (by decide) ?_
        obtain ⟨x_402, hx_403, h⟩ := Option.bind_eq_some_iff.1 h
        obtain ⟨hx_403a, hx_403, hx_403b⟩ := idx_some hx_403
        have hx_403A := eq_true hx_403a
        have hx_403B := eq_true hx_403b
        refine DGo.upto (by exact rfl) (by simp only [go_sem, seval, hb_349F, hx_403, hx_403A, hx_403B]; exact ⟨rfl, rfl⟩) ?_
        refine DGo.fin rfl ?_
        refine thenA_n ?_
        refine awp_ret ?_
        cases h
        refine retQ_ret (by simp only [Try.results27]; simp only [go_sem, seval, hb_349F]; exact rfl) ?_
        simp only [go_sem, seval, hb_349F]
        all_goals ((repeat' refine And.intro ?_ ?_) <;> first | rfl | (simp; done) | (simp; rfl) | (simp [*]; done) | (simp [*]; rfl))
end Go.Proofs.Ytdmddoljldjjeaa
set_option linter.unusedVariables false
set_option linter.unusedSimpArgs false
namespace Go.Proofs.Ytdmddoljldjjeaa
open Go Go.Ab
set_option maxHeartbeats 4000000 in
theorem survivor_Choose_con (rows_407 : List Row) (attr_408 : Int) (rule_409 : Int) (r_433 : Value × Int × Int) (h : survivor_Choose rows_407 attr_408 rule_409 = some r_433) : Con Try.prog 8 [(.slc (List.map encRow rows_407)), (.int .i64 attr_408), (.int .i64 rule_409)] (.tup [(encValue r_433.1), (.int .i64 r_433.2.1), (.int .i64 r_433.2.2)]) := by
  refine ⟨Try.call8, ?_⟩
  refine pure_of_awp Try.func8 rfl Try.ntmps8 (by simp) fun X w => ?_
  show AWp _ _ _ ⟨[(0, .p (.slc (List.map encRow rows_407))), (1, .p (.int .i64 attr_408)), (2, .p (.int .i64 rule_409))], []⟩
  simp only [survivor_Choose] at h
  refine awp_seq ?_
  refine awp_region ?_
  refine AL_upto (by exact rfl) (by simp only [go_sem, seval]; exact rfl) ?_
  refine AL_nil ?_
  refine thenA_n ?_
  refine awp_seq ?_
  refine awp_seq ?_
  refine awp_region ?_
  refine AL_upto (by exact rfl) (by simp only [go_sem, seval]; exact rfl) ?_
  obtain ⟨r_412, hr_413, h⟩ := Option.bind_eq_some_iff.1 h
  refine AL_con' rfl (guard_none rfl) rfl (by simp only [go_sem, seval]; exact rfl) (by simp only [go_sem, seval]; all_goals ((repeat' refine And.intro ?_ ?_) <;> first | rfl | (simp; done) | (simp; rfl) | (simp [*]; done) | (simp [*]; rfl))) (survivor_checkRows_con rows_407 _ hr_413) (.inr rfl) rfl ?_
  refine AL_upto (by exact rfl) (by simp only [go_sem, seval]; exact rfl) ?_
  refine AL_nil ?_
  refine thenA_n ?_
  refine awp_seq ?_
  refine awp_region ?_
  refine AL_upto (by exact rfl) (by simp only [go_sem, seval]; exact rfl) ?_
  refine AL_nil ?_
  refine thenA_n ?_
  by_cases hb_414 : (r_412 != 0) = true
  · rw [if_pos hb_414] at h
    refine awp_ct (by simp only [go_sem, seval, hb_414]) ?_
    refine awp_seq ?_
    refine awp_region ?_
    refine AL_upto (by exact rfl) (by simp only [go_sem, seval, hb_414]; exact rfl) ?_
    refine AL_nil ?_
    refine thenA_n ?_
    refine awp_ret ?_
    refine thenA_ret ?_
    cases h
    refine retQ_ret (by simp only [Try.results8]; simp only [go_sem, seval, hb_414]; exact rfl) ?_
    simp only [go_sem, seval, hb_414]
    all_goals ((repeat' refine And.intro ?_ ?_) <;> first | rfl | (simp; done) | (simp; rfl) | (simp [*]; done) | (simp [*]; rfl))
  · rw [if_neg hb_414] at h
    have hb_414F := Bool.eq_false_iff.2 hb_414
    refine awp_cf (by simp only [go_sem, seval, hb_414F]) ?_
    refine awp_skip ?_
    refine thenA_n ?_
    refine awp_seq ?_
    refine awp_seq ?_
    refine awp_region ?_
    refine AL_upto (by exact rfl) (by simp only [go_sem, seval, hb_414F]; exact rfl) ?_
    by_cases hb_415 : attr_408 < 0
    · rw [if_pos hb_415] at h
      have hb_415T := eq_true hb_415
      refine AL_known (d := 21) (v := .p (.bool true)) (by simp only [go_sem, seval, hb_414F, hb_415T]) ?_
      refine AL_skips (by exact rfl) ?_
      refine AL_upto (by exact rfl) (by simp only [go_sem, seval, hb_414F, hb_415T]; exact rfl) ?_
      refine AL_nil ?_
      refine thenA_n ?_
      refine awp_ct (by simp only [go_sem, seval, hb_414F, hb_415T]) ?_
      refine awp_seq ?_
      refine awp_region ?_
      refine AL_upto (by exact rfl) (by simp only [go_sem, seval, hb_414F, hb_415T]; exact rfl) ?_
      refine AL_nil ?_
      refine thenA_n ?_
      refine awp_ret ?_
      refine thenA_ret ?_
      cases h
      refine retQ_ret (by simp only [Try.results8]; simp only [go_sem, seval, hb_414F, hb_415T]; exact rfl) ?_
      simp only [go_sem, seval, hb_414F, hb_415T]
      all_goals ((repeat' refine And.intro ?_ ?_) <;> first | rfl | (simp; done) | (simp; rfl) | (simp [*]; done) | (simp [*]; rfl))
    · rw [if_neg hb_415] at h
      have hb_415T := eq_false hb_415
      refine AL_known (d := 21) (v := .p (.bool false)) (by simp only [go_sem, seval, hb_414F, hb_415T]) ?_
      refine AL_gt' (guard_true' rfl rfl (by exact rfl) (by exact rfl)) rfl (by simp only [go_sem, seval, hb_414F, hb_415T]; exact rfl) ?_
      refine AL_gt' (guard_true' rfl rfl (by exact rfl) (by exact rfl)) rfl (by simp only [go_sem, seval, hb_414F, hb_415T]; exact rfl) ?_
      obtain ⟨x_418, hx_419, h⟩ := Option.bind_eq_some_iff.1 h
      have hx_419l := eq_true (lt_of_get hx_419)
      have hx_419L : ((0 : Int) < (rows_407.length : Int)) = True := eq_true (by have := lt_of_get hx_419; omega)
      refine AL_gt' (guard_true' rfl rfl (by exact rfl) (by exact rfl)) rfl (by simp only [go_sem, seval, hb_414F, hb_415T, hx_419, hx_419l, hx_419L]; exact rfl) ?_
      refine AL_gt' (guard_true' rfl rfl (by exact rfl) (by exact rfl)) rfl (by simp only [go_sem, seval, hb_414F, hb_415T]; exact rfl) ?_
      refine AL_gt' (guard_true' rfl rfl (by exact rfl) (by exact rfl)) rfl (by simp only [go_sem, seval, hb_414F, hb_415T]; exact rfl) ?_
      refine AL_gt' (guard_true' rfl rfl (by exact rfl) (by exact rfl)) rfl (by simp only [go_sem, seval, hb_414F, hb_415T]; exact rfl) ?_
      refine AL_gt' (guard_true' rfl rfl (by exact rfl) (by exact rfl)) rfl (by simp only [go_sem, seval, hb_414F, hb_415T]; exact rfl) ?_
      refine AL_upto (by exact rfl) (by simp only [go_sem, seval, hb_414F, hb_415T]; exact rfl) ?_
      refine AL_nil ?_
      refine thenA_n ?_
      by_cases hb_420 : attr_408 ≥ (x_418.Values.length : Int)
      · rw [if_pos hb_420] at h
        have hb_420T := eq_true hb_420
        refine awp_ct (by simp only [go_sem, seval, hb_414F, hb_415T, hb_420T]) ?_
        refine awp_seq ?_
        refine awp_region ?_
        refine AL_upto (by exact rfl) (by simp only [go_sem, seval, hb_414F, hb_415T, hb_420T]; exact rfl) ?_
        refine AL_nil ?_
        refine thenA_n ?_
        refine awp_ret ?_
        refine thenA_ret ?_
        cases h
        refine retQ_ret (by simp only [Try.results8]; simp only [go_sem, seval, hb_414F, hb_415T, hb_420T]; exact rfl) ?_
        simp only [go_sem, seval, hb_414F, hb_415T, hb_420T]
        all_goals ((repeat' refine And.intro ?_ ?_) <;> first | rfl | (simp; done) | (simp; rfl) | (simp [*]; done) | (simp [*]; rfl))
      · rw [if_neg hb_420] at h
        have hb_420T := eq_false hb_420
        refine awp_cf (by simp only [go_sem, seval, hb_414F, hb_415T, hb_420T]) ?_
        refine awp_skip ?_
        refine thenA_n ?_
        refine awp_seq ?_
        refine awp_seq ?_
        refine awp_region ?_
        refine AL_upto (by exact rfl) (by simp only [go_sem, seval, hb_414F, hb_415T, hb_420T]; exact rfl) ?_
        obtain ⟨r_423, hr_424, h⟩ := Option.bind_eq_some_iff.1 h
        refine AL_con' rfl (guard_none rfl) rfl (by simp only [go_sem, seval, hb_414F, hb_415T, hb_420T]; exact rfl) (by simp only [go_sem, seval, hb_414F, hb_415T, hb_420T]; all_goals ((repeat' refine And.intro ?_ ?_) <;> first | rfl | (simp; done) | (simp; rfl) | (simp [*]; done) | (simp [*]; rfl))) (survivor_checkValues_con rows_407 _ hr_424) (.inr rfl) rfl ?_
        refine AL_upto (by exact rfl) (by simp only [go_sem, seval, hb_414F, hb_415T, hb_420T]; exact rfl) ?_
        refine AL_nil ?_
        refine thenA_n ?_
        refine awp_seq ?_
        refine awp_region ?_
        refine AL_upto (by exact rfl) (by simp only [go_sem, seval, hb_414F, hb_415T, hb_420T]; exact rfl) ?_
        refine AL_nil ?_
        refine thenA_n ?_
        by_cases hb_425 : (r_423 != 0) = true
        · rw [if_pos hb_425] at h
          refine awp_ct (by simp only [go_sem, seval, hb_414F, hb_415T, hb_420T, hb_425]) ?_
          refine awp_seq ?_
          refine awp_region ?_
          refine AL_upto (by exact rfl) (by simp only [go_sem, seval, hb_414F, hb_415T, hb_420T, hb_425]; exact rfl) ?_
          refine AL_nil ?_
          refine thenA_n ?_
          refine awp_ret ?_
          refine thenA_ret ?_
          cases h
          refine retQ_ret (by simp only [Try.results8]; simp only [go_sem, seval, hb_414F, hb_415T, hb_420T, hb_425]; exact rfl) ?_
          simp only [go_sem, seval, hb_414F, hb_415T, hb_420T, hb_425]
          all_goals ((repeat' refine And.intro ?_ ?_) <;> first | rfl | (simp; done) | (simp; rfl) | (simp [*]; done) | (simp [*]; rfl))
        · rw [if_neg hb_425] at h
          have hb_425F := Bool.eq_false_iff.2 hb_425
          refine awp_cf (by simp only [go_sem, seval, hb_414F, hb_415T, hb_420T, hb_425F]) ?_
          refine awp_skip ?_
          refine thenA_n ?_
          refine awp_seq ?_
          refine awp_seq ?_
          refine awp_region ?_
          refine AL_upto (by exact rfl) (by simp only [go_sem, seval, hb_414F, hb_415T, hb_420T, hb_425F]; exact rfl) ?_
          obtain ⟨r_426, hr_427, h⟩ := Option.bind_eq_some_iff.1 h
          refine AL_con' rfl (guard_none rfl) rfl (by simp only [go_sem, seval, hb_414F, hb_415T, hb_420T, hb_425F]; exact rfl) (by simp only [go_sem, seval, hb_414F, hb_415T, hb_420T, hb_425F]; all_goals ((repeat' refine And.intro ?_ ?_) <;> first | rfl | (simp; done) | (simp; rfl) | (simp [*]; done) | (simp [*]; rfl))) (survivor_validRule_con rule_409 _ hr_427) (.inr rfl) rfl ?_
          refine AL_upto (by exact rfl) (by simp only [go_sem, seval, hb_414F, hb_415T, hb_420T, hb_425F]; exact rfl) ?_
          refine AL_nil ?_
          refine thenA_n ?_
          by_cases hb_428 : r_426 = true
          · rw [if_pos hb_428] at h
            refine awp_cf (by simp only [go_sem, seval, hb_414F, hb_415T, hb_420T, hb_425F, hb_428]) ?_
            refine awp_skip ?_
            refine thenA_n ?_
            refine awp_seq ?_
            refine awp_region ?_
            refine AL_upto (by exact rfl) (by simp only [go_sem, seval, hb_414F, hb_415T, hb_420T, hb_425F, hb_428]; exact rfl) ?_
            obtain ⟨r_431, hr_432, h⟩ := Option.bind_eq_some_iff.1 h
            refine AL_con' rfl (guard_none rfl) rfl (by simp only [go_sem, seval, hb_414F, hb_415T, hb_420T, hb_425F, hb_428]; exact rfl) (by simp only [go_sem, seval, hb_414F, hb_415T, hb_420T, hb_425F, hb_428]; all_goals ((repeat' refine And.intro ?_ ?_) <;> first | rfl | (simp; done) | (simp; rfl) | (simp [*]; done) | (simp [*]; rfl))) (survivor_choose_con rows_407 attr_408 rule_409 _ hr_432) (.inr rfl) rfl ?_
            refine AL_upto (by exact rfl) (by simp only [go_sem, seval, hb_414F, hb_415T, hb_420T, hb_425F, hb_428]; exact rfl) ?_
            refine AL_nil ?_
            refine thenA_n ?_
            refine awp_seq ?_
            refine awp_region ?_
            refine AL_upto (by exact rfl) (by simp only [go_sem, seval, hb_414F, hb_415T, hb_420T, hb_425F, hb_428]; exact rfl) ?_
            refine AL_nil ?_
            refine thenA_n ?_
            refine awp_ret ?_
            cases h
            refine retQ_ret (by simp only [Try.results8]; simp only [go_sem, seval, hb_414F, hb_415T, hb_420T, hb_425F, hb_428]; exact rfl) ?_
            simp only [go_sem, seval, hb_414F, hb_415T, hb_420T, hb_425F, hb_428]
            all_goals ((repeat' refine And.intro ?_ ?_) <;> first | rfl | (simp; done) | (simp; rfl) | (simp [*]; done) | (simp [*]; rfl))
          · rw [if_neg hb_428] at h
            have hb_428F := Bool.eq_false_iff.2 hb_428
            refine awp_ct (by simp only [go_sem, seval, hb_414F, hb_415T, hb_420T, hb_425F, hb_428F]) ?_
            refine awp_seq ?_
            refine awp_region ?_
            refine AL_upto (by exact rfl) (by simp only [go_sem, seval, hb_414F, hb_415T, hb_420T, hb_425F, hb_428F]; exact rfl) ?_
            refine AL_nil ?_
            refine thenA_n ?_
            refine awp_ret ?_
            refine thenA_ret ?_
            cases h
            refine retQ_ret (by simp only [Try.results8]; simp only [go_sem, seval, hb_414F, hb_415T, hb_420T, hb_425F, hb_428F]; exact rfl) ?_
            simp only [go_sem, seval, hb_414F, hb_415T, hb_420T, hb_425F, hb_428F]
            all_goals ((repeat' refine And.intro ?_ ?_) <;> first | rfl | (simp; done) | (simp; rfl) | (simp [*]; done) | (simp [*]; rfl))
end Go.Proofs.Ytdmddoljldjjeaa
set_option linter.unusedVariables false
set_option linter.unusedSimpArgs false
namespace Go.Proofs.Ytdmddoljldjjeaa
open Go Go.Ab
set_option maxHeartbeats 4000000 in
theorem slices_IndexFunc_int_con (s_434 : List Int) (f_435 : Int → Option (Bool)) (f_435_k : FuncId) (f_435_cs : List PV) (f_435_h : ∀ (y_436 : Int) (r_437 : Bool), f_435 y_436 = some r_437 → Con Try.prog f_435_k ((.int .i64 y_436) :: f_435_cs) (.bool r_437)) (r_465 : Int) (h : slices_IndexFunc_int s_434 f_435 = some r_465) : Con Try.prog 56 [(.slc (List.map (PV.int .i64) s_434)), .func (.func f_435_k) f_435_cs] (.int .i64 r_465) := by
  refine ⟨Try.call56, ?_⟩
  refine pure_of_awp Try.func56 rfl Try.ntmps56 (by simp) fun X w => ?_
  show AWp _ _ _ ⟨[(0, .p (.slc (List.map (PV.int .i64) s_434))), (1, .p (.func (.func f_435_k) f_435_cs))], []⟩
  simp only [slices_IndexFunc_int] at h
  refine awp_seq ?_
  refine awp_region ?_
  refine AL_upto (by exact rfl) (by simp only [go_sem, seval]; exact rfl) ?_
  refine AL_nil ?_
  refine thenA_n ?_
  refine awp_seq ?_
  refine awp_seq ?_
  refine awp_region ?_
  refine AL_upto (by exact rfl) (by simp only [go_sem, seval]; exact rfl) ?_
  refine AL_nil ?_
  refine thenA_n ?_
  refine awp_block ?_
  obtain ⟨o_460, hL_461, h⟩ := Option.bind_eq_some_iff.1 h
  refine awp_loop_L (fun (s : Int) => ⟨[(0, .p (.slc (List.map (PV.int .i64) s_434))), (1, .p (.func (.func f_435_k) f_435_cs)), (7, .p (.int .i64 (s_434.length : Int))), (8, .p (.int .i64 s))], []⟩) (fun (o : (Unit) ⊕ (Int)) (e : Exit) (s' : St) => match o with | .inl o_463 => e = (.exit 0) ∧ Le ⟨Try.prog, Try.f56.ntmps, 0, X, [], fun _ => none, w⟩ s' ⟨[], []⟩ | .inr o_464 => e = .ret ∧ retQ Try.prog Try.f56 (.int .i64 o_464) .ret s') (by intro o s hT; rcases o with _ | _ <;> (have hh := hT.1; cases hh)) hL_461 (by simp only [go_sem, seval]; all_goals ((repeat' refine And.intro ?_ ?_) <;> first | rfl | (simp; done) | (simp; rfl) | (simp [*]; done) | (simp [*]; rfl))) ?_ ?_
  · clear h
    intro t8_445 x h
    simp only [slices_IndexFunc_int_l1] at h
    show AWp _ _ _ ⟨[(0, .p (.slc (List.map (PV.int .i64) s_434))), (1, .p (.func (.func f_435_k) f_435_cs)), (7, .p (.int .i64 (s_434.length : Int))), (8, .p (.int .i64 t8_445))], []⟩
    refine awp_seq ?_
    refine awp_region ?_
    refine AL_upto (by exact rfl) (by simp only [go_sem, seval]; exact rfl) ?_
    refine AL_nil ?_
    refine thenA_n ?_
    refine awp_seq ?_
    by_cases hb_454 : t8_445 < (s_434.length : Int)
    · rw [if_pos hb_454] at h
      have hb_454T := eq_true hb_454
      refine awp_ct (by simp only [go_sem, seval, hb_454T]) ?_
      refine awp_skip ?_
      refine thenA_n ?_
      refine awp_seq ?_
      refine awp_block ?_
      refine awp_seq ?_
      refine awp_region ?_
      refine AL_upto (by exact rfl) (by simp only [go_sem, seval, hb_454T]; exact rfl) ?_
      refine AL_nil ?_
      refine thenA_n ?_
      refine awp_seq ?_
      refine awp_region ?_
      obtain ⟨x_455, hx_456, h⟩ := Option.bind_eq_some_iff.1 h
      obtain ⟨hx_456a, hx_456, hx_456b⟩ := idx_some hx_456
      have hx_456A := eq_true hx_456a
      have hx_456B := eq_true hx_456b
      refine AL_upto (by exact rfl) (by simp only [go_sem, seval, hb_454T, hx_456, hx_456A, hx_456B]; exact rfl) ?_
      obtain ⟨r_457, hr_458, h⟩ := Option.bind_eq_some_iff.1 h
      refine AL_con' rfl (guard_none rfl) rfl (by simp only [go_sem, seval, hb_454T]; exact rfl) (by simp only [go_sem, seval, hb_454T]; all_goals ((repeat' refine And.intro ?_ ?_) <;> first | rfl | (simp; done) | (simp; rfl) | (simp [*]; done) | (simp [*]; rfl))) (f_435_h x_455 _ hr_458) (.inr rfl) rfl ?_
      refine AL_nil ?_
      refine thenA_n ?_
      by_cases hb_459 : r_457 = true
      · rw [if_pos hb_459] at h
        refine awp_ct (by simp only [go_sem, seval, hb_454T, hb_459]) ?_
        refine awp_seq ?_
        refine awp_region ?_
        refine AL_upto (by exact rfl) (by simp only [go_sem, seval, hb_454T, hb_459]; exact rfl) ?_
        refine AL_nil ?_
        refine thenA_n ?_
        refine awp_ret ?_
        refine blockA_ret ?_
        refine thenA_ret ?_
        cases h
        refine ⟨rfl, ?_⟩
        refine retQ_ret (by simp only [Try.results56]; simp only [go_sem, seval, hb_454T, hb_459]; exact rfl) ?_
        simp only [go_sem, seval, hb_454T, hb_459]
        all_goals ((repeat' refine And.intro ?_ ?_) <;> first | rfl | (simp; done) | (simp; rfl) | (simp [*]; done) | (simp [*]; rfl))
      · rw [if_neg hb_459] at h
        have hb_459F := Bool.eq_false_iff.2 hb_459
        refine awp_cf (by simp only [go_sem, seval, hb_454T, hb_459F]) ?_
        refine awp_skip ?_
        refine blockA_n ?_
        refine thenA_n ?_
        refine awp_region ?_
        refine AL_upto (by exact rfl) (by simp only [go_sem, seval, hb_454T, hb_459F]; exact rfl) ?_
        refine AL_nil ?_
        cases h
        refine ⟨rfl, ?_⟩
        simp only [go_sem, seval, hb_454T, hb_459F]
        all_goals ((repeat' refine And.intro ?_ ?_) <;> first | rfl | (simp; done) | (simp; rfl) | (simp [*]; done) | (simp [*]; rfl))
    · rw [if_neg hb_454] at h
      have hb_454T := eq_false hb_454
      refine awp_cf (by simp only [go_sem, seval, hb_454T]) ?_
      refine awp_exit ?_
      refine thenA_exit ?_
      cases h
      refine ⟨rfl, ?_⟩
      simp only [go_sem, seval, hb_454T]
      all_goals ((repeat' refine And.intro ?_ ?_) <;> first | rfl | (simp; done) | (simp; rfl) | (simp [*]; done) | (simp [*]; rfl))
  · intro e s' hT
    rcases o_460 with ⟨⟩ | r_462
    · try simp only at h
      try simp only at hT
      obtain ⟨rfl, hle⟩ := hT
      refine Wk.to hle ?_
      clear hle
      refine blockA_here ?_
      refine thenA_n ?_
      refine awp_seq ?_
      refine awp_region ?_
      refine AL_upto (by exact rfl) (by simp only [go_sem, seval]; exact rfl) ?_
      refine AL_nil ?_
      refine thenA_n ?_
      refine awp_ret ?_
      cases h
      refine retQ_ret (by simp only [Try.results56]; simp only [go_sem, seval]; exact rfl) ?_
      simp only [go_sem, seval]
      all_goals ((repeat' refine And.intro ?_ ?_) <;> first | rfl | (simp; done) | (simp; rfl) | (simp [*]; done) | (simp [*]; rfl))
    · try simp only at h
      try simp only at hT
      obtain ⟨rfl, hq⟩ := hT
      refine Wk.now ?_
      refine blockA_ret ?_
      refine thenA_ret ?_
      cases h
      exact hq
end Go.Proofs.Ytdmddoljldjjeaa
set_option linter.unusedVariables false
set_option linter.unusedSimpArgs false
namespace Go.Proofs.Ytdmddoljldjjeaa
open Go Go.Ab
set_option maxHeartbeats 4000000 in
theorem slices_ContainsFunc_int_con (s_466 : List Int) (f_467 : Int → Option (Bool)) (f_467_k : FuncId) (f_467_cs : List PV) (f_467_h : ∀ (y_468 : Int) (r_469 : Bool), f_467 y_468 = some r_469 → Con Try.prog f_467_k ((.int .i64 y_468) :: f_467_cs) (.bool r_469)) (r_472 : Bool) (h : slices_ContainsFunc_int s_466 f_467 = some r_472) : Con Try.prog 31 [(.slc (List.map (PV.int .i64) s_466)), .func (.func f_467_k) f_467_cs] (.bool r_472) := by
  refine ⟨Try.call31, ?_⟩
  refine pure_of_awp Try.func31 rfl Try.ntmps31 (by simp) fun X w => ?_
  show AWp _ _ _ ⟨[(0, .p (.slc (List.map (PV.int .i64) s_466))), (1, .p (.func (.func f_467_k) f_467_cs))], []⟩
  simp only [slices_ContainsFunc_int] at h
  refine awp_seq ?_
  refine awp_region ?_
  refine AL_upto (by exact rfl) (by simp only [go_sem, seval]; exact rfl) ?_
  refine AL_nil ?_
  refine thenA_n ?_
  refine awp_seq ?_
  refine awp_region ?_
  refine AL_upto (by exact rfl) (by simp only [go_sem, seval]; exact rfl) ?_
  obtain ⟨r_470, hr_471, h⟩ := Option.bind_eq_some_iff.1 h
  refine AL_con' rfl (guard_none rfl) rfl (by simp only [go_sem, seval]; exact rfl) (by simp only [go_sem, seval]; all_goals ((repeat' refine And.intro ?_ ?_) <;> first | rfl | (simp; done) | (simp; rfl) | (simp [*]; done) | (simp [*]; rfl))) (slices_IndexFunc_int_con s_466 f_467 f_467_k f_467_cs f_467_h _ hr_471) (.inr rfl) rfl ?_
  refine AL_upto (by exact rfl) (by simp only [go_sem, seval]; exact rfl) ?_
  refine AL_nil ?_
  refine thenA_n ?_
  refine awp_ret ?_
  cases h
  refine retQ_ret (by simp only [Try.results31]; simp only [go_sem, seval]; exact rfl) ?_
  simp only [go_sem, seval]
  all_goals ((repeat' refine And.intro ?_ ?_) <;> first | rfl | (simp; done) | (simp; rfl) | (simp [*]; done) | (simp [*]; rfl))
end Go.Proofs.Ytdmddoljldjjeaa
set_option linter.unusedVariables false
set_option linter.unusedSimpArgs false
namespace Go.Proofs.Ytdmddoljldjjeaa
open Go Go.Ab
set_option maxHeartbeats 4000000 in
theorem survivor_Merge_1_con (r_473 : Int) (r_476 : Bool) (h : survivor_Merge_1 r_473 = some r_476) : Con Try.prog 32 [(.int .i64 r_473)] (.bool r_476) := by
  refine ⟨Try.call32, ?_⟩
  refine pure_of_awp Try.func32 rfl Try.ntmps32 (by simp) fun X w => ?_
  show AWp _ _ _ ⟨[(0, .p (.int .i64 r_473))], []⟩
  simp only [survivor_Merge_1] at h
  refine awp_seq ?_
  refine awp_region ?_
  refine AL_upto (by exact rfl) (by simp only [go_sem, seval]; exact rfl) ?_
  refine AL_nil ?_
  refine thenA_n ?_
  refine awp_seq ?_
  refine awp_region ?_
  refine AL_upto (by exact rfl) (by simp only [go_sem, seval]; exact rfl) ?_
  obtain ⟨r_474, hr_475, h⟩ := Option.bind_eq_some_iff.1 h
  refine AL_con' rfl (guard_none rfl) rfl (by simp only [go_sem, seval]; exact rfl) (by simp only [go_sem, seval]; all_goals ((repeat' refine And.intro ?_ ?_) <;> first | rfl | (simp; done) | (simp; rfl) | (simp [*]; done) | (simp [*]; rfl))) (survivor_validRule_con r_473 _ hr_475) (.inr rfl) rfl ?_
  refine AL_upto (by exact rfl) (by simp only [go_sem, seval]; exact rfl) ?_
  refine AL_nil ?_
  refine thenA_n ?_
  refine awp_ret ?_
  cases h
  refine retQ_ret (by simp only [Try.results32]; simp only [go_sem, seval]; exact rfl) ?_
  simp only [go_sem, seval]
  all_goals ((repeat' refine And.intro ?_ ?_) <;> first | rfl | (simp; done) | (simp; rfl) | (simp [*]; done) | (simp [*]; rfl))
end Go.Proofs.Ytdmddoljldjjeaa
set_option linter.unusedVariables false
set_option linter.unusedSimpArgs false
namespace Go.Proofs.Ytdmddoljldjjeaa
open Go Go.Ab
set_option maxHeartbeats 4000000 in
theorem survivor_Merge_con (rows_477 : List Row) (rules_478 : List Int) (r_543 : Row × List Int × Int) (h : survivor_Merge rows_477 rules_478 = some r_543) : Con Try.prog 11 [(.slc (List.map encRow rows_477)), (.slc (List.map (PV.int .i64) rules_478))] (.tup [(encRow r_543.1), (.slc (List.map (PV.int .i64) r_543.2.1)), (.int .i64 r_543.2.2)]) := by
  refine ⟨Try.call11, ?_⟩
  refine pure_of_awp Try.func11 rfl Try.ntmps11 (by simp) fun X w => ?_
  show AWp _ _ _ ⟨[(0, .p (.slc (List.map encRow rows_477))), (1, .p (.slc (List.map (PV.int .i64) rules_478)))], []⟩
  simp only [survivor_Merge] at h
  refine awp_seq ?_
  refine awp_region ?_
  refine AL_upto (by exact rfl) (by simp only [go_sem, seval]; exact rfl) ?_
  refine AL_nil ?_
  refine thenA_n ?_
  refine awp_seq ?_
  refine awp_seq ?_
  refine awp_region ?_
  refine AL_upto (by exact rfl) (by simp only [go_sem, seval]; exact rfl) ?_
  obtain ⟨r_481, hr_482, h⟩ := Option.bind_eq_some_iff.1 h
  refine AL_con' rfl (guard_none rfl) rfl (by simp only [go_sem, seval]; exact rfl) (by simp only [go_sem, seval]; all_goals ((repeat' refine And.intro ?_ ?_) <;> first | rfl | (simp; done) | (simp; rfl) | (simp [*]; done) | (simp [*]; rfl))) (survivor_checkRows_con rows_477 _ hr_482) (.inr rfl) rfl ?_
  refine AL_upto (by exact rfl) (by simp only [go_sem, seval]; exact rfl) ?_
  refine AL_nil ?_
  refine thenA_n ?_
  refine awp_seq ?_
  refine awp_region ?_
  refine AL_upto (by exact rfl) (by simp only [go_sem, seval]; exact rfl) ?_
  refine AL_nil ?_
  refine thenA_n ?_
  by_cases hb_483 : (r_481 != 0) = true
  · rw [if_pos hb_483] at h
    refine awp_ct (by simp only [go_sem, seval, hb_483]) ?_
    refine awp_seq ?_
    refine awp_region ?_
    refine AL_upto (by exact rfl) (by simp only [go_sem, seval, hb_483]; exact rfl) ?_
    refine AL_nil ?_
    refine thenA_n ?_
    refine awp_ret ?_
    refine thenA_ret ?_
    cases h
    refine retQ_ret (by simp only [Try.results11]; simp only [go_sem, seval, hb_483]; exact rfl) ?_
    simp only [go_sem, seval, hb_483]
    all_goals ((repeat' refine And.intro ?_ ?_) <;> first | rfl | (simp; done) | (simp; rfl) | (simp [*]; done) | (simp [*]; rfl))
  · rw [if_neg hb_483] at h
    have hb_483F := Bool.eq_false_iff.2 hb_483
    refine awp_cf (by simp only [go_sem, seval, hb_483F]) ?_
    refine awp_skip ?_
    refine thenA_n ?_
    refine awp_seq ?_
    refine awp_seq ?_
    refine awp_region ?_
    obtain ⟨x_484, hx_485, h⟩ := Option.bind_eq_some_iff.1 h
    have hx_485l := eq_true (lt_of_get hx_485)
    have hx_485L : ((0 : Int) < (rows_477.length : Int)) = True := eq_true (by have := lt_of_get hx_485; omega)
    refine AL_upto (by exact rfl) (by simp only [go_sem, seval, hb_483F, hx_485, hx_485l, hx_485L]; exact rfl) ?_
    refine AL_nil ?_
    refine thenA_n ?_
    by_cases hb_486 : ((rules_478.length : Int) != (x_484.Values.length : Int)) = true
    · rw [if_pos hb_486] at h
      refine awp_ct (by simp only [go_sem, seval, hb_483F, hb_486]) ?_
      refine awp_seq ?_
      refine awp_region ?_
      refine AL_upto (by exact rfl) (by simp only [go_sem, seval, hb_483F, hb_486]; exact rfl) ?_
      refine AL_nil ?_
      refine thenA_n ?_
      refine awp_ret ?_
      refine thenA_ret ?_
      cases h
      refine retQ_ret (by simp only [Try.results11]; simp only [go_sem, seval, hb_483F, hb_486]; exact rfl) ?_
      simp only [go_sem, seval, hb_483F, hb_486]
      all_goals ((repeat' refine And.intro ?_ ?_) <;> first | rfl | (simp; done) | (simp; rfl) | (simp [*]; done) | (simp [*]; rfl))
    · rw [if_neg hb_486] at h
      have hb_486F := Bool.eq_false_iff.2 hb_486
      refine awp_cf (by simp only [go_sem, seval, hb_483F, hb_486F]) ?_
      refine awp_skip ?_
      refine thenA_n ?_
      refine awp_seq ?_
      refine awp_seq ?_
      refine awp_region ?_
      refine AL_upto (by exact rfl) (by simp only [go_sem, seval, hb_483F, hb_486F]; exact rfl) ?_
      obtain ⟨r_489, hr_490, h⟩ := Option.bind_eq_some_iff.1 h
      refine AL_con' rfl (guard_none rfl) rfl (by simp only [go_sem, seval, hb_483F, hb_486F]; exact rfl) (by simp only [go_sem, seval, hb_483F, hb_486F]; all_goals ((repeat' refine And.intro ?_ ?_) <;> first | rfl | (simp; done) | (simp; rfl) | (simp [*]; done) | (simp [*]; rfl))) (survivor_checkValues_con rows_477 _ hr_490) (.inr rfl) rfl ?_
      refine AL_upto (by exact rfl) (by simp only [go_sem, seval, hb_483F, hb_486F]; exact rfl) ?_
      refine AL_nil ?_
      refine thenA_n ?_
      refine awp_seq ?_
      refine awp_region ?_
      refine AL_upto (by exact rfl) (by simp only [go_sem, seval, hb_483F, hb_486F]; exact rfl) ?_
      refine AL_nil ?_
      refine thenA_n ?_
      by_cases hb_491 : (r_489 != 0) = true
      · rw [if_pos hb_491] at h
        refine awp_ct (by simp only [go_sem, seval, hb_483F, hb_486F, hb_491]) ?_
        refine awp_seq ?_
        refine awp_region ?_
        refine AL_upto (by exact rfl) (by simp only [go_sem, seval, hb_483F, hb_486F, hb_491]; exact rfl) ?_
        refine AL_nil ?_
        refine thenA_n ?_
        refine awp_ret ?_
        refine thenA_ret ?_
        cases h
        refine retQ_ret (by simp only [Try.results11]; simp only [go_sem, seval, hb_483F, hb_486F, hb_491]; exact rfl) ?_
        simp only [go_sem, seval, hb_483F, hb_486F, hb_491]
        all_goals ((repeat' refine And.intro ?_ ?_) <;> first | rfl | (simp; done) | (simp; rfl) | (simp [*]; done) | (simp [*]; rfl))
      · rw [if_neg hb_491] at h
        have hb_491F := Bool.eq_false_iff.2 hb_491
        refine awp_cf (by simp only [go_sem, seval, hb_483F, hb_486F, hb_491F]) ?_
        refine awp_skip ?_
        refine thenA_n ?_
        refine awp_seq ?_
        refine awp_seq ?_
        refine awp_region ?_
        refine AL_upto (by exact rfl) (by simp only [go_sem, seval, hb_483F, hb_486F, hb_491F]; exact rfl) ?_
        obtain ⟨r_493, hr_494, h⟩ := Option.bind_eq_some_iff.1 h
        refine AL_con' rfl (guard_none rfl) rfl (by simp only [go_sem, seval, hb_483F, hb_486F, hb_491F]; exact rfl) (by simp only [go_sem, seval, hb_483F, hb_486F, hb_491F]; all_goals ((repeat' refine And.intro ?_ ?_) <;> first | rfl | (simp; done) | (simp; rfl) | (simp [*]; done) | (simp [*]; rfl))) (slices_ContainsFunc_int_con rules_478 (fun (y_492 : Int) => survivor_Merge_1 y_492) 32 [] (fun y_492 r h => survivor_Merge_1_con y_492 r h) _ hr_494) (.inr rfl) rfl ?_
        refine AL_nil ?_
        refine thenA_n ?_
        by_cases hb_495 : r_493 = true
        · rw [if_pos hb_495] at h
          refine awp_ct (by simp only [go_sem, seval, hb_483F, hb_486F, hb_491F, hb_495]) ?_
          refine awp_seq ?_
          refine awp_region ?_
          refine AL_upto (by exact rfl) (by simp only [go_sem, seval, hb_483F, hb_486F, hb_491F, hb_495]; exact rfl) ?_
          refine AL_nil ?_
          refine thenA_n ?_
          refine awp_ret ?_
          refine thenA_ret ?_
          cases h
          refine retQ_ret (by simp only [Try.results11]; simp only [go_sem, seval, hb_483F, hb_486F, hb_491F, hb_495]; exact rfl) ?_
          simp only [go_sem, seval, hb_483F, hb_486F, hb_491F, hb_495]
          all_goals ((repeat' refine And.intro ?_ ?_) <;> first | rfl | (simp; done) | (simp; rfl) | (simp [*]; done) | (simp [*]; rfl))
        · rw [if_neg hb_495] at h
          have hb_495F := Bool.eq_false_iff.2 hb_495
          refine awp_cf (by simp only [go_sem, seval, hb_483F, hb_486F, hb_491F, hb_495F]) ?_
          refine awp_skip ?_
          refine thenA_n ?_
          refine awp_seq ?_
          refine awp_region ?_
          refine AL_upto (by exact rfl) (by simp only [go_sem, seval, hb_483F, hb_486F, hb_491F, hb_495F, hx_485, hx_485l, hx_485L]; exact rfl) ?_
          refine AL_nil ?_
          refine thenA_n ?_
          refine awp_seq ?_
          refine awp_region ?_
          refine AL_upto (by exact rfl) (by simp only [go_sem, seval, hb_483F, hb_486F, hb_491F, hb_495F]; exact rfl) ?_
          refine AL_nil ?_
          refine thenA_n ?_
          refine awp_seq ?_
          refine awp_seq ?_
          refine awp_region ?_
          refine AL_upto (by exact rfl) (by simp only [go_sem, seval, hb_483F, hb_486F, hb_491F, hb_495F]; exact rfl) ?_
          refine AL_nil ?_
          refine thenA_n ?_
          refine awp_block ?_
          obtain ⟨o_540, hL_541, h⟩ := Option.bind_eq_some_iff.1 h
          refine awp_loop_L (fun (s : List Value × List Int × Int) => ⟨[(0, .p (.slc (List.map encRow rows_477))), (4, .loc 4 1 0 0), (9, .loc 9 1 0 0), (10, .own 67 1 0 s.2.1.length), (44, .p (.slc (List.map (PV.int .i64) rules_478))), (45, .p (.int .i64 (rules_478.length : Int))), (46, .p (.int .i64 s.2.2))], [(4, .arr 32 2 1 [.agg [.p (.int .i64 0), .nils]]), (9, .arr 32 2 1 [.agg [.p (.int .i64 x_484.ID), .own 62 1 0 s.1.length]]), (62, .arr 25 3 1 (List.map AV.p (List.map encValue s.1))), (67, .arr 2 1 1 (List.map AV.p (List.map (PV.int .i64) s.2.1)))]⟩) (fun (o_542 : List Value × List Int) (e : Exit) (s' : St) => e = (.exit 0) ∧ Le ⟨Try.prog, Try.f11.ntmps, 0, X, [], fun _ => none, w⟩ s' ⟨[(4, .loc 4 1 0 0), (9, .loc 9 1 0 0), (10, .own 67 1 0 o_542.2.length)], [(4, .arr 32 2 1 [.agg [.p (.int .i64 0), .nils]]), (9, .arr 32 2 1 [.agg [.p (.int .i64 x_484.ID), .own 62 1 0 o_542.1.length]]), (62, .arr 25 3 1 (List.map AV.p (List.map encValue o_542.1))), (67, .arr 2 1 1 (List.map AV.p (List.map (PV.int .i64) o_542.2)))]⟩) (by intro o s hT; have hh := hT.1; cases hh) hL_541 (by simp only [go_sem, seval, hb_483F, hb_486F, hb_491F, hb_495F]; all_goals ((repeat' refine And.intro ?_ ?_) <;> first | rfl | (simp; done) | (simp; rfl) | (simp [*]; done) | (simp [*]; rfl))) ?_ ?_
          · clear h
            intro s x h
            obtain ⟨out_509, origins_510, t46_511⟩ := s
            simp only [survivor_Merge_l1] at h
            show AWp _ _ _ ⟨[(0, .p (.slc (List.map encRow rows_477))), (4, .loc 4 1 0 0), (9, .loc 9 1 0 0), (10, .own 67 1 0 origins_510.length), (44, .p (.slc (List.map (PV.int .i64) rules_478))), (45, .p (.int .i64 (rules_478.length : Int))), (46, .p (.int .i64 t46_511))], [(4, .arr 32 2 1 [.agg [.p (.int .i64 0), .nils]]), (9, .arr 32 2 1 [.agg [.p (.int .i64 x_484.ID), .own 62 1 0 out_509.length]]), (62, .arr 25 3 1 (List.map AV.p (List.map encValue out_509))), (67, .arr 2 1 1 (List.map AV.p (List.map (PV.int .i64) origins_510)))]⟩
            refine awp_seq ?_
            refine awp_region ?_
            refine AL_upto (by exact rfl) (by simp only [go_sem, seval]; exact rfl) ?_
            refine AL_nil ?_
            refine thenA_n ?_
            refine awp_seq ?_
            by_cases hb_528 : t46_511 < (rules_478.length : Int)
            · rw [if_pos hb_528] at h
              have hb_528T := eq_true hb_528
              refine awp_ct (by simp only [go_sem, seval, hb_528T]) ?_
              refine awp_skip ?_
              refine thenA_n ?_
              refine awp_seq ?_
              refine awp_block ?_
              refine awp_seq ?_
              refine awp_region ?_
              obtain ⟨x_531, hx_532, h⟩ := Option.bind_eq_some_iff.1 h
              obtain ⟨hx_532a, hx_532, hx_532b⟩ := idx_some hx_532
              have hx_532A := eq_true hx_532a
              have hx_532B := eq_true hx_532b
              refine AL_upto (by exact rfl) (by simp only [go_sem, seval, hb_528T, hx_532, hx_532A, hx_532B]; exact rfl) ?_
              refine AL_nil ?_
              refine thenA_n ?_
              refine awp_seq ?_
              refine awp_region ?_
              refine AL_upto (by exact rfl) (by simp only [go_sem, seval, hb_528T]; exact rfl) ?_
              obtain ⟨r_535, hr_536, h⟩ := Option.bind_eq_some_iff.1 h
              refine AL_con' rfl (guard_none rfl) rfl (by simp only [go_sem, seval, hb_528T]; exact rfl) (by simp only [go_sem, seval, hb_528T]; all_goals ((repeat' refine And.intro ?_ ?_) <;> first | rfl | (simp; done) | (simp; rfl) | (simp [*]; done) | (simp [*]; rfl))) (survivor_choose_con rows_477 t46_511 x_531 _ hr_536) (.inr rfl) rfl ?_
              refine AL_upto (by exact rfl) (by simp only [go_sem, seval, hb_528T]; exact rfl) ?_
              refine AL_nil ?_
              refine thenA_n ?_
              refine awp_seq ?_
              refine awp_region ?_
              obtain ⟨hc_538, h⟩ := ite_some h
              refine AL_upto (by exact rfl) (by simp only [go_sem, seval, hb_528T, hc_538]; exact rfl) ?_
              refine AL_nil ?_
              refine thenA_n ?_
              refine awp_region ?_
              obtain ⟨hc_539, h⟩ := ite_some h
              refine AL_upto (by exact rfl) (by simp only [go_sem, seval, hb_528T, hc_539]; exact rfl) ?_
              refine AL_nil ?_
              refine blockA_n ?_
              refine thenA_n ?_
              refine awp_region ?_
              refine AL_upto (by exact rfl) (by simp only [go_sem, seval, hb_528T]; exact rfl) ?_
              refine AL_nil ?_
              cases h
              refine ⟨rfl, ?_⟩
              simp only [go_sem, seval, hb_528T]
              all_goals ((repeat' refine And.intro ?_ ?_) <;> first | rfl | (simp; done) | (simp; rfl) | (simp [*]; done) | (simp [*]; rfl))
            · rw [if_neg hb_528] at h
              have hb_528T := eq_false hb_528
              refine awp_cf (by simp only [go_sem, seval, hb_528T]) ?_
              refine awp_exit ?_
              refine thenA_exit ?_
              cases h
              refine ⟨rfl, ?_⟩
              simp only [go_sem, seval, hb_528T]
              all_goals ((repeat' refine And.intro ?_ ?_) <;> first | rfl | (simp; done) | (simp; rfl) | (simp [*]; done) | (simp [*]; rfl))
          · intro e s' hT
            obtain ⟨out_525, origins_526⟩ := o_540
            try simp only at h
            try simp only at hT
            obtain ⟨rfl, hle⟩ := hT
            refine Wk.to hle ?_
            clear hle
            refine blockA_here ?_
            refine thenA_n ?_
            refine awp_seq ?_
            refine awp_region ?_
            refine AL_upto (by exact rfl) (by simp only [go_sem, seval, hb_483F, hb_486F, hb_491F, hb_495F]; exact rfl) ?_
            refine AL_nil ?_
            refine thenA_n ?_
            refine awp_ret ?_
            cases h
            refine retQ_ret (by simp only [Try.results11]; simp only [go_sem, seval, hb_483F, hb_486F, hb_491F, hb_495F]; exact rfl) ?_
            simp only [go_sem, seval, hb_483F, hb_486F, hb_491F, hb_495F]
            all_goals ((repeat' refine And.intro ?_ ?_) <;> first | rfl | (simp; done) | (simp; rfl) | (simp [*]; done) | (simp [*]; rfl))
end Go.Proofs.Ytdmddoljldjjeaa
set_option linter.unusedVariables false
set_option linter.unusedSimpArgs false
namespace Go.Proofs.Ytdmddoljldjjeaa
open Go Go.Ab
set_option maxHeartbeats 4000000 in
theorem drossref03_IDs_con (a_544 : List Int) (b_545 : List Int) (r_571 : Bool) (h : drossref03_IDs a_544 b_545 = some r_571) : Con Try.prog 15 [(.slc (List.map (PV.int .i64) a_544)), (.slc (List.map (PV.int .i64) b_545))] (.bool r_571) := by
  refine ⟨Try.call15, ?_⟩
  refine pure_of_awp Try.func15 rfl Try.ntmps15 (by simp) fun X w => ?_
  show AWp _ _ _ ⟨[(0, .p (.slc (List.map (PV.int .i64) a_544))), (1, .p (.slc (List.map (PV.int .i64) b_545)))], []⟩
  simp only [drossref03_IDs] at h
  refine awp_seq ?_
  refine awp_region ?_
  refine AL_upto (by exact rfl) (by simp only [go_sem, seval]; exact rfl) ?_
  refine AL_nil ?_
  refine thenA_n ?_
  refine awp_seq ?_
  refine awp_seq ?_
  refine awp_region ?_
  refine AL_upto (by exact rfl) (by simp only [go_sem, seval]; exact rfl) ?_
  refine AL_nil ?_
  refine thenA_n ?_
  by_cases hb_546 : ((a_544.length : Int) != (b_545.length : Int)) = true
  · rw [if_pos hb_546] at h
    refine awp_ct (by simp only [go_sem, seval, hb_546]) ?_
    refine awp_seq ?_
    refine awp_region ?_
    refine AL_upto (by exact rfl) (by simp only [go_sem, seval, hb_546]; exact rfl) ?_
    refine AL_nil ?_
    refine thenA_n ?_
    refine awp_ret ?_
    refine thenA_ret ?_
    cases h
    refine retQ_ret (by simp only [Try.results15]; simp only [go_sem, seval, hb_546]; exact rfl) ?_
    simp only [go_sem, seval, hb_546]
    all_goals ((repeat' refine And.intro ?_ ?_) <;> first | rfl | (simp; done) | (simp; rfl) | (simp [*]; done) | (simp [*]; rfl))
  · rw [if_neg hb_546] at h
    have hb_546F := Bool.eq_false_iff.2 hb_546
    refine awp_cf (by simp only [go_sem, seval, hb_546F]) ?_
    refine awp_skip ?_
    refine thenA_n ?_
    refine awp_seq ?_
    refine awp_seq ?_
    refine awp_region ?_
    refine AL_upto (by exact rfl) (by simp only [go_sem, seval, hb_546F]; exact rfl) ?_
    refine AL_nil ?_
    refine thenA_n ?_
    refine awp_block ?_
    obtain ⟨o_566, hL_567, h⟩ := Option.bind_eq_some_iff.1 h
    refine awp_loop_L (fun (s : Int) => ⟨[(0, .p (.slc (List.map (PV.int .i64) a_544))), (1, .p (.slc (List.map (PV.int .i64) b_545))), (5, .p (.int .i64 s))], []⟩) (fun (o : (Unit) ⊕ (Bool)) (e : Exit) (s' : St) => match o with | .inl o_569 => e = (.exit 0) ∧ Le ⟨Try.prog, Try.f15.ntmps, 0, X, [], fun _ => none, w⟩ s' ⟨[], []⟩ | .inr o_570 => e = .ret ∧ retQ Try.prog Try.f15 (.bool o_570) .ret s') (by intro o s hT; rcases o with _ | _ <;> (have hh := hT.1; cases hh)) hL_567 (by simp only [go_sem, seval, hb_546F]; all_goals ((repeat' refine And.intro ?_ ?_) <;> first | rfl | (simp; done) | (simp; rfl) | (simp [*]; done) | (simp [*]; rfl))) ?_ ?_
    · clear h
      intro i_553 x h
      simp only [drossref03_IDs_l1] at h
      show AWp _ _ _ ⟨[(0, .p (.slc (List.map (PV.int .i64) a_544))), (1, .p (.slc (List.map (PV.int .i64) b_545))), (5, .p (.int .i64 i_553))], []⟩
      refine awp_seq ?_
      refine awp_seq ?_
      refine awp_region ?_
      refine AL_upto (by exact rfl) (by simp only [go_sem, seval]; exact rfl) ?_
      refine AL_nil ?_
      refine thenA_n ?_
      by_cases hb_560 : i_553 < (a_544.length : Int)
      · rw [if_pos hb_560] at h
        have hb_560T := eq_true hb_560
        refine awp_ct (by simp only [go_sem, seval, hb_560T]) ?_
        refine awp_skip ?_
        refine thenA_n ?_
        refine awp_seq ?_
        refine awp_block ?_
        refine awp_seq ?_
        refine awp_drawn_walk mixed (by decide) ?_
        obtain ⟨x_561, hx_562, h⟩ := Option.bind_eq_some_iff.1 h
        obtain ⟨hx_562a, hx_562, hx_562b⟩ := idx_some hx_562
        have hx_562A := eq_true hx_562a
        have hx_562B := eq_true hx_562b
        obtain ⟨x_563, hx_564, h⟩ := Option.bind_eq_some_iff.1 h
        obtain ⟨hx_564a, hx_564, hx_564b⟩ := idx_some hx_564
        have hx_564A := eq_true hx_564a
        have hx_564B := eq_true hx_564b
        refine DGo.upto (by exact rfl) (by simp only [go_sem, seval, hb_560T, hx_562, hx_562A, hx_562B, hx_564, hx_564A, hx_564B]; exact ⟨rfl, rfl⟩) ?_
        refine DGo.fin rfl ?_
        refine thenA_n ?_
        by_cases hb_565 : (x_561 != x_563) = true
        · rw [if_pos hb_565] at h
          refine awp_ct (by simp only [go_sem, seval, hb_560T, hb_565]) ?_
          refine awp_seq ?_
          refine awp_region ?_
          refine AL_upto (by exact rfl) (by simp only [go_sem, seval, hb_560T, hb_565]; exact rfl) ?_
          refine AL_nil ?_
          refine thenA_n ?_
          refine awp_ret ?_
          refine blockA_ret ?_
          refine thenA_ret ?_
          cases h
          refine ⟨rfl, ?_⟩
          refine retQ_ret (by simp only [Try.results15]; simp only [go_sem, seval, hb_560T, hb_565]; exact rfl) ?_
          simp only [go_sem, seval, hb_560T, hb_565]
          all_goals ((repeat' refine And.intro ?_ ?_) <;> first | rfl | (simp; done) | (simp; rfl) | (simp [*]; done) | (simp [*]; rfl))
        · rw [if_neg hb_565] at h
          have hb_565F := Bool.eq_false_iff.2 hb_565
          refine awp_cf (by simp only [go_sem, seval, hb_560T, hb_565F]) ?_
          refine awp_skip ?_
          refine blockA_n ?_
          refine thenA_n ?_
          refine awp_region ?_
          refine AL_upto (by exact rfl) (by simp only [go_sem, seval, hb_560T, hb_565F]; exact rfl) ?_
          refine AL_nil ?_
          cases h
          refine ⟨rfl, ?_⟩
          simp only [go_sem, seval, hb_560T, hb_565F]
          all_goals ((repeat' refine And.intro ?_ ?_) <;> first | rfl | (simp; done) | (simp; rfl) | (simp [*]; done) | (simp [*]; rfl))
      · rw [if_neg hb_560] at h
        have hb_560T := eq_false hb_560
        refine awp_cf (by simp only [go_sem, seval, hb_560T]) ?_
        refine awp_exit ?_
        refine thenA_exit ?_
        cases h
        refine ⟨rfl, ?_⟩
        simp only [go_sem, seval, hb_560T]
        all_goals ((repeat' refine And.intro ?_ ?_) <;> first | rfl | (simp; done) | (simp; rfl) | (simp [*]; done) | (simp [*]; rfl))
    · intro e s' hT
      rcases o_566 with ⟨⟩ | r_568
      · try simp only at h
        try simp only at hT
        obtain ⟨rfl, hle⟩ := hT
        refine Wk.to hle ?_
        clear hle
        refine blockA_here ?_
        refine thenA_n ?_
        refine awp_seq ?_
        refine awp_region ?_
        refine AL_upto (by exact rfl) (by simp only [go_sem, seval, hb_546F]; exact rfl) ?_
        refine AL_nil ?_
        refine thenA_n ?_
        refine awp_ret ?_
        cases h
        refine retQ_ret (by simp only [Try.results15]; simp only [go_sem, seval, hb_546F]; exact rfl) ?_
        simp only [go_sem, seval, hb_546F]
        all_goals ((repeat' refine And.intro ?_ ?_) <;> first | rfl | (simp; done) | (simp; rfl) | (simp [*]; done) | (simp [*]; rfl))
      · try simp only at h
        try simp only at hT
        obtain ⟨rfl, hq⟩ := hT
        refine Wk.now ?_
        refine blockA_ret ?_
        refine thenA_ret ?_
        cases h
        exact hq
end Go.Proofs.Ytdmddoljldjjeaa
set_option linter.unusedVariables false
set_option linter.unusedSimpArgs false
namespace Go.Proofs.Ytdmddoljldjjeaa
open Go Go.Ab
set_option maxHeartbeats 4000000 in
theorem drosslaw55_example_1_con (s_572 : List UInt8) (r_573 : Value) (h : drosslaw55_example_1 s_572 = some r_573) : Con Try.prog 46 [(.str s_572)] (encValue r_573) := by
  refine ⟨Try.call46, ?_⟩
  refine pure_of_awp Try.func46 rfl Try.ntmps46 (by simp) fun X w => ?_
  show AWp _ _ _ ⟨[(0, .p (.str s_572))], []⟩
  simp only [drosslaw55_example_1] at h
  refine awp_seq ?_
  refine awp_region ?_
  refine AL_upto (by exact rfl) (by simp only [go_sem, seval]; exact rfl) ?_
  refine AL_nil ?_
  refine thenA_n ?_
  refine awp_seq ?_
  refine awp_region ?_
  refine AL_upto (by exact rfl) (by simp only [go_sem, seval]; exact rfl) ?_
  refine AL_nil ?_
  refine thenA_n ?_
  refine awp_ret ?_
  cases h
  refine retQ_ret (by simp only [Try.results46]; simp only [go_sem, seval]; exact rfl) ?_
  simp only [go_sem, seval]
  all_goals ((repeat' refine And.intro ?_ ?_) <;> first | rfl | (simp; done) | (simp; rfl) | (simp [*]; done) | (simp [*]; rfl))
end Go.Proofs.Ytdmddoljldjjeaa
set_option linter.unusedVariables false
set_option linter.unusedSimpArgs false
namespace Go.Proofs.Ytdmddoljldjjeaa
open Go Go.Ab
set_option maxHeartbeats 4000000 in
theorem drosslaw55_example_2_con (n_574 : Int) (r_575 : Value) (h : drosslaw55_example_2 n_574 = some r_575) : Con Try.prog 47 [(.int .i64 n_574)] (encValue r_575) := by
  refine ⟨Try.call47, ?_⟩
  refine pure_of_awp Try.func47 rfl Try.ntmps47 (by simp) fun X w => ?_
  show AWp _ _ _ ⟨[(0, .p (.int .i64 n_574))], []⟩
  simp only [drosslaw55_example_2] at h
  refine awp_seq ?_
  refine awp_region ?_
  refine AL_upto (by exact rfl) (by simp only [go_sem, seval]; exact rfl) ?_
  refine AL_nil ?_
  refine thenA_n ?_
  refine awp_seq ?_
  refine awp_region ?_
  refine AL_upto (by exact rfl) (by simp only [go_sem, seval]; exact rfl) ?_
  refine AL_nil ?_
  refine thenA_n ?_
  refine awp_ret ?_
  cases h
  refine retQ_ret (by simp only [Try.results47]; simp only [go_sem, seval]; exact rfl) ?_
  simp only [go_sem, seval]
  all_goals ((repeat' refine And.intro ?_ ?_) <;> first | rfl | (simp; done) | (simp; rfl) | (simp [*]; done) | (simp [*]; rfl))
end Go.Proofs.Ytdmddoljldjjeaa
set_option linter.unusedVariables false
set_option linter.unusedSimpArgs false
namespace Go.Proofs.Ytdmddoljldjjeaa
open Go Go.Ab
set_option maxHeartbeats 4000000 in
theorem drosslaw55_example_con  (r_586 : List Row) (h : drosslaw55_example = some r_586) : Con Try.prog 23 [] (.slc (List.map encRow r_586)) := by
  refine ⟨Try.call23, ?_⟩
  refine pure_of_awp Try.func23 rfl Try.ntmps23 (by simp) fun X w => ?_
  show AWp _ _ _ ⟨[], []⟩
  simp only [drosslaw55_example] at h
  refine awp_seq ?_
  refine awp_region ?_
  refine AL_upto (by exact rfl) (by simp only [go_sem, seval]; exact rfl) ?_
  refine AL_nil ?_
  refine thenA_n ?_
  refine awp_seq ?_
  refine awp_region ?_
  refine AL_upto (by exact rfl) (by simp only [go_sem, seval]; exact rfl) ?_
  refine AL_nil ?_
  refine thenA_n ?_
  refine awp_seq ?_
  refine awp_region ?_
  refine AL_upto (by exact rfl) (by simp only [go_sem, seval]; exact rfl) ?_
  refine AL_nil ?_
  refine thenA_n ?_
  refine awp_seq ?_
  refine awp_region ?_
  refine AL_upto (by exact rfl) (by simp only [go_sem, seval]; exact rfl) ?_
  obtain ⟨r_576, hr_577, h⟩ := Option.bind_eq_some_iff.1 h
  refine AL_con' rfl (guard_none rfl) rfl (by simp only [go_sem, seval]; exact rfl) (by simp only [go_sem, seval]; all_goals ((repeat' refine And.intro ?_ ?_) <;> first | rfl | (simp; done) | (simp; rfl) | (simp [*]; done) | (simp [*]; rfl))) (drosslaw55_example_1_con [74, 111] _ hr_577) (.inr rfl) rfl ?_
  refine AL_upto (by exact rfl) (by simp only [go_sem, seval]; exact rfl) ?_
  obtain ⟨r_578, hr_579, h⟩ := Option.bind_eq_some_iff.1 h
  refine AL_con' rfl (guard_none rfl) rfl (by simp only [go_sem, seval]; exact rfl) (by simp only [go_sem, seval]; all_goals ((repeat' refine And.intro ?_ ?_) <;> first | rfl | (simp; done) | (simp; rfl) | (simp [*]; done) | (simp [*]; rfl))) (drosslaw55_example_1_con [74, 111, 101] _ hr_579) (.inr rfl) rfl ?_
  refine AL_upto (by exact rfl) (by simp only [go_sem, seval]; exact rfl) ?_
  obtain ⟨r_580, hr_581, h⟩ := Option.bind_eq_some_iff.1 h
  refine AL_con' rfl (guard_none rfl) rfl (by simp only [go_sem, seval]; exact rfl) (by simp only [go_sem, seval]; all_goals ((repeat' refine And.intro ?_ ?_) <;> first | rfl | (simp; done) | (simp; rfl) | (simp [*]; done) | (simp [*]; rfl))) (drosslaw55_example_2_con 7 _ hr_581) (.inr rfl) rfl ?_
  refine AL_upto (by exact rfl) (by simp only [go_sem, seval]; exact rfl) ?_
  obtain ⟨r_582, hr_583, h⟩ := Option.bind_eq_some_iff.1 h
  refine AL_con' rfl (guard_none rfl) rfl (by simp only [go_sem, seval]; exact rfl) (by simp only [go_sem, seval]; all_goals ((repeat' refine And.intro ?_ ?_) <;> first | rfl | (simp; done) | (simp; rfl) | (simp [*]; done) | (simp [*]; rfl))) (drosslaw55_example_1_con [74, 111] _ hr_583) (.inr rfl) rfl ?_
  refine AL_upto (by exact rfl) (by simp only [go_sem, seval]; exact rfl) ?_
  obtain ⟨r_584, hr_585, h⟩ := Option.bind_eq_some_iff.1 h
  refine AL_con' rfl (guard_none rfl) rfl (by simp only [go_sem, seval]; exact rfl) (by simp only [go_sem, seval]; all_goals ((repeat' refine And.intro ?_ ?_) <;> first | rfl | (simp; done) | (simp; rfl) | (simp [*]; done) | (simp [*]; rfl))) (drosslaw55_example_2_con 8 _ hr_585) (.inr rfl) rfl ?_
  refine AL_upto (by exact rfl) (by simp only [go_sem, seval]; exact rfl) ?_
  refine AL_nil ?_
  refine thenA_n ?_
  refine awp_ret ?_
  cases h
  refine retQ_ret (by simp only [Try.results23]; simp only [go_sem, seval]; exact rfl) ?_
  simp only [go_sem, seval]
  all_goals ((repeat' refine And.intro ?_ ?_) <;> first | rfl | (simp; done) | (simp; rfl) | (simp [*]; done) | (simp [*]; rfl))
end Go.Proofs.Ytdmddoljldjjeaa
set_option linter.unusedVariables false
set_option linter.unusedSimpArgs false
namespace Go.Proofs.Ytdmddoljldjjeaa
open Go Go.Ab
set_option maxHeartbeats 4000000 in
theorem drosslaw55_awake_con  (r_620 : Bool) (h : drosslaw55_awake = some r_620) : Con Try.prog 7 [] (.bool r_620) := by
  refine ⟨Try.call7, ?_⟩
  refine pure_of_awp Try.func7 rfl Try.ntmps7 (by simp) fun X w => ?_
  show AWp _ _ _ ⟨[], []⟩
  simp only [drosslaw55_awake] at h
  refine awp_seq ?_
  refine awp_region ?_
  refine AL_upto (by exact rfl) (by simp only [go_sem, seval]; exact rfl) ?_
  refine AL_nil ?_
  refine thenA_n ?_
  refine awp_seq ?_
  refine awp_region ?_
  obtain ⟨r_591, hr_592, h⟩ := Option.bind_eq_some_iff.1 h
  refine AL_con' rfl (guard_none rfl) rfl (by simp only [go_sem, seval]; exact rfl) (by simp only [go_sem, seval]; all_goals ((repeat' refine And.intro ?_ ?_) <;> first | rfl | (simp; done) | (simp; rfl) | (simp [*]; done) | (simp [*]; rfl))) (drosslaw55_example_con  _ hr_592) (by first | exact .inl rfl | exact .inl (by simp only [go_sem])) rfl ?_
  obtain ⟨r_593, hr_594, h⟩ := Option.bind_eq_some_iff.1 h
  refine AL_con' rfl (guard_none rfl) rfl (by simp only [go_sem, seval]; exact rfl) (by simp only [go_sem, seval]; all_goals ((repeat' refine And.intro ?_ ?_) <;> first | rfl | (simp; done) | (simp; rfl) | (simp [*]; done) | (simp [*]; rfl))) (survivor_Choose_con r_591 0 3 _ hr_594) (.inr rfl) rfl ?_
  refine AL_upto (by exact rfl) (by simp only [go_sem, seval]; exact rfl) ?_
  refine AL_nil ?_
  refine thenA_n ?_
  refine awp_seq ?_
  refine awp_region ?_
  obtain ⟨r_599, hr_600, h⟩ := Option.bind_eq_some_iff.1 h
  refine AL_con' rfl (guard_none rfl) rfl (by simp only [go_sem, seval]; exact rfl) (by simp only [go_sem, seval]; all_goals ((repeat' refine And.intro ?_ ?_) <;> first | rfl | (simp; done) | (simp; rfl) | (simp [*]; done) | (simp [*]; rfl))) (drosslaw55_example_con  _ hr_600) (by first | exact .inl rfl | exact .inl (by simp only [go_sem])) rfl ?_
  refine AL_upto (by exact rfl) (by simp only [go_sem, seval]; exact rfl) ?_
  refine AL_le (st' := ⟨[(1, .loc 1 1 0 0), (2, .p (.int .i64 r_593.2.1)), (3, .p (.int .i64 r_593.2.2)), (14, .p (.slc (List.map encRow r_599))), (15, .p (.slc (List.map (PV.int .i64) [2, 1])))], [(1, .arr 25 3 1 [.p (encValue r_593.1)])]⟩) (by simp only [go_sem, seval]; all_goals ((repeat' refine And.intro ?_ ?_) <;> first | rfl | (simp; done) | (simp; rfl) | (simp [*]; done) | (simp [*]; rfl))) ?_
  obtain ⟨r_601, hr_602, h⟩ := Option.bind_eq_some_iff.1 h
  refine AL_con' rfl (guard_none rfl) rfl (by simp only [go_sem, seval]; exact rfl) (by simp only [go_sem, seval]; all_goals ((repeat' refine And.intro ?_ ?_) <;> first | rfl | (simp; done) | (simp; rfl) | (simp [*]; done) | (simp [*]; rfl))) (survivor_Merge_con r_599 [2, 1] _ hr_602) (by first | exact .inl rfl | exact .inl (by simp only [go_sem])) rfl ?_
  refine AL_upto (by exact rfl) (by simp only [go_sem, seval]; exact rfl) ?_
  refine AL_nil ?_
  refine thenA_n ?_
  refine awp_seq ?_
  refine awp_region ?_
  refine AL_upto (by exact rfl) (by simp only [go_sem, seval]; exact rfl) ?_
  by_cases hb_603 : (r_593.2.2 == 0) = true
  · rw [if_pos hb_603] at h
    refine AL_known (d := 22) (v := .p (.bool true)) (by simp only [go_sem, seval, hb_603]) ?_
    refine AL_gt' (guard_true' rfl rfl (by exact rfl) (by exact rfl)) rfl (by simp only [go_sem, seval, hb_603]; exact rfl) ?_
    refine AL_gt' (guard_true' rfl rfl (by exact rfl) (by exact rfl)) rfl (by simp only [go_sem, seval, hb_603]; exact rfl) ?_
    refine AL_upto (by exact rfl) (by simp only [go_sem, seval, hb_603]; exact rfl) ?_
    by_cases hb_604 : (r_601.2.2 == 0) = true
    · rw [if_pos hb_604] at h
      refine AL_known (d := 26) (v := .p (.bool true)) (by simp only [go_sem, seval, hb_603, hb_604]) ?_
      refine AL_gt' (guard_true' rfl rfl (by exact rfl) (by exact rfl)) rfl (by simp only [go_sem, seval, hb_603, hb_604]; exact rfl) ?_
      refine AL_gt' (guard_true' rfl rfl (by exact rfl) (by exact rfl)) rfl (by simp only [go_sem, seval, hb_603, hb_604]; exact rfl) ?_
      refine AL_gt' (guard_true' rfl rfl (by exact rfl) (by exact rfl)) rfl (by simp only [go_sem, seval, hb_603, hb_604]; exact rfl) ?_
      refine AL_upto (by exact rfl) (by simp only [go_sem, seval, hb_603, hb_604]; exact rfl) ?_
      by_cases hb_605 : (r_593.1.Str == [74, 111, 101]) = true
      · rw [if_pos hb_605] at h
        refine AL_known (d := 31) (v := .p (.bool true)) (by simp only [go_sem, seval, hb_603, hb_604, hb_605]) ?_
        refine AL_gt' (guard_true' rfl rfl (by exact rfl) (by exact rfl)) rfl (by simp only [go_sem, seval, hb_603, hb_604, hb_605]; exact rfl) ?_
        refine AL_gt' (guard_true' rfl rfl (by exact rfl) (by exact rfl)) rfl (by simp only [go_sem, seval, hb_603, hb_604, hb_605]; exact rfl) ?_
        refine AL_upto (by exact rfl) (by simp only [go_sem, seval, hb_603, hb_604, hb_605]; exact rfl) ?_
        by_cases hb_606 : (r_593.2.1 == 4) = true
        · rw [if_pos hb_606] at h
          refine AL_known (d := 35) (v := .p (.bool true)) (by simp only [go_sem, seval, hb_603, hb_604, hb_605, hb_606]) ?_
          refine AL_gt' (guard_true' rfl rfl (by exact rfl) (by exact rfl)) rfl (by simp only [go_sem, seval, hb_603, hb_604, hb_605, hb_606]; exact rfl) ?_
          refine AL_gt' (guard_true' rfl rfl (by exact rfl) (by exact rfl)) rfl (by simp only [go_sem, seval, hb_603, hb_604, hb_605, hb_606]; exact rfl) ?_
          refine AL_gt' (guard_true' rfl rfl (by exact rfl) (by exact rfl)) rfl (by simp only [go_sem, seval, hb_603, hb_604, hb_605, hb_606]; exact rfl) ?_
          refine AL_upto (by exact rfl) (by simp only [go_sem, seval, hb_603, hb_604, hb_605, hb_606]; exact rfl) ?_
          by_cases hb_607 : (r_601.1.ID == 3) = true
          · rw [if_pos hb_607] at h
            refine AL_known (d := 40) (v := .p (.bool true)) (by simp only [go_sem, seval, hb_603, hb_604, hb_605, hb_606, hb_607]) ?_
            refine AL_gt' (guard_true' rfl rfl (by exact rfl) (by exact rfl)) rfl (by simp only [go_sem, seval, hb_603, hb_604, hb_605, hb_606, hb_607]; exact rfl) ?_
            refine AL_gt' (guard_true' rfl rfl (by exact rfl) (by exact rfl)) rfl (by simp only [go_sem, seval, hb_603, hb_604, hb_605, hb_606, hb_607]; exact rfl) ?_
            obtain ⟨x_610, hx_611, h⟩ := Option.bind_eq_some_iff.1 h
            have hx_611l := eq_true (lt_of_get hx_611)
            have hx_611L : ((0 : Int) < (r_601.1.Values.length : Int)) = True := eq_true (by have := lt_of_get hx_611; omega)
            refine AL_gt' (guard_true' rfl rfl (by exact rfl) (by exact rfl)) rfl (by simp only [go_sem, seval, hb_603, hb_604, hb_605, hb_606, hb_607, hx_611, hx_611l, hx_611L]; exact rfl) ?_
            refine AL_gt' (guard_true' rfl rfl (by exact rfl) (by exact rfl)) rfl (by simp only [go_sem, seval, hb_603, hb_604, hb_605, hb_606, hb_607]; exact rfl) ?_
            refine AL_gt' (guard_true' rfl rfl (by exact rfl) (by exact rfl)) rfl (by simp only [go_sem, seval, hb_603, hb_604, hb_605, hb_606, hb_607]; exact rfl) ?_
            refine AL_gt' (guard_true' rfl rfl (by exact rfl) (by exact rfl)) rfl (by simp only [go_sem, seval, hb_603, hb_604, hb_605, hb_606, hb_607]; exact rfl) ?_
            refine AL_upto (by exact rfl) (by simp only [go_sem, seval, hb_603, hb_604, hb_605, hb_606, hb_607]; exact rfl) ?_
            by_cases hb_612 : (x_610.Str == [74, 111]) = true
            · rw [if_pos hb_612] at h
              refine AL_known (d := 48) (v := .p (.bool true)) (by simp only [go_sem, seval, hb_603, hb_604, hb_605, hb_606, hb_607, hb_612]) ?_
              refine AL_gt' (guard_true' rfl rfl (by exact rfl) (by exact rfl)) rfl (by simp only [go_sem, seval, hb_603, hb_604, hb_605, hb_606, hb_607, hb_612]; exact rfl) ?_
              refine AL_gt' (guard_true' rfl rfl (by exact rfl) (by exact rfl)) rfl (by simp only [go_sem, seval, hb_603, hb_604, hb_605, hb_606, hb_607, hb_612]; exact rfl) ?_
              obtain ⟨x_615, hx_616, h⟩ := Option.bind_eq_some_iff.1 h
              have hx_616l := eq_true (lt_of_get hx_616)
              have hx_616L : ((1 : Int) < (r_601.1.Values.length : Int)) = True := eq_true (by have := lt_of_get hx_616; omega)
              refine AL_gt' (guard_true' rfl rfl (by exact rfl) (by exact rfl)) rfl (by simp only [go_sem, seval, hb_603, hb_604, hb_605, hb_606, hb_607, hb_612, hx_616, hx_616l, hx_616L]; exact rfl) ?_
              refine AL_gt' (guard_true' rfl rfl (by exact rfl) (by exact rfl)) rfl (by simp only [go_sem, seval, hb_603, hb_604, hb_605, hb_606, hb_607, hb_612]; exact rfl) ?_
              refine AL_gt' (guard_true' rfl rfl (by exact rfl) (by exact rfl)) rfl (by simp only [go_sem, seval, hb_603, hb_604, hb_605, hb_606, hb_607, hb_612]; exact rfl) ?_
              refine AL_gt' (guard_true' rfl rfl (by exact rfl) (by exact rfl)) rfl (by simp only [go_sem, seval, hb_603, hb_604, hb_605, hb_606, hb_607, hb_612]; exact rfl) ?_
              refine AL_upto (by exact rfl) (by simp only [go_sem, seval, hb_603, hb_604, hb_605, hb_606, hb_607, hb_612]; exact rfl) ?_
              by_cases hb_617 : (x_615.Num == 7) = true
              · rw [if_pos hb_617] at h
                refine AL_known (d := 56) (v := .p (.bool true)) (by simp only [go_sem, seval, hb_603, hb_604, hb_605, hb_606, hb_607, hb_612, hb_617]) ?_
                refine AL_gt' (guard_true' rfl rfl (by exact rfl) (by exact rfl)) rfl (by simp only [go_sem, seval, hb_603, hb_604, hb_605, hb_606, hb_607, hb_612, hb_617]; exact rfl) ?_
                refine AL_gt' (guard_true' rfl rfl (by exact rfl) (by exact rfl)) rfl (by simp only [go_sem, seval, hb_603, hb_604, hb_605, hb_606, hb_607, hb_612, hb_617]; exact rfl) ?_
                obtain ⟨r_618, hr_619, h⟩ := Option.bind_eq_some_iff.1 h
                refine AL_con' rfl (guard_true' rfl rfl (by exact rfl) (by exact rfl)) rfl (by simp only [go_sem, seval, hb_603, hb_604, hb_605, hb_606, hb_607, hb_612, hb_617]; exact rfl) (by simp only [go_sem, seval, hb_603, hb_604, hb_605, hb_606, hb_607, hb_612, hb_617]; all_goals ((repeat' refine And.intro ?_ ?_) <;> first | rfl | (simp; done) | (simp; rfl) | (simp [*]; done) | (simp [*]; rfl))) (drossref03_IDs_con r_601.2.1 [3, 4] _ hr_619) (.inr rfl) rfl ?_
                refine AL_upto (by exact rfl) (by simp only [go_sem, seval, hb_603, hb_604, hb_605, hb_606, hb_607, hb_612, hb_617]; exact rfl) ?_
                refine AL_nil ?_
                refine thenA_n ?_
                refine awp_ret ?_
                cases h
                refine retQ_ret (by simp only [Try.results7]; simp only [go_sem, seval, hb_603, hb_604, hb_605, hb_606, hb_607, hb_612, hb_617]; exact rfl) ?_
                simp only [go_sem, seval, hb_603, hb_604, hb_605, hb_606, hb_607, hb_612, hb_617]
                all_goals ((repeat' refine And.intro ?_ ?_) <;> first | rfl | (simp; done) | (simp; rfl) | (simp [*]; done) | (simp [*]; rfl))
              · rw [if_neg hb_617] at h
                have hb_617F := Bool.eq_false_iff.2 hb_617
                refine AL_known (d := 56) (v := .p (.bool false)) (by simp only [go_sem, seval, hb_603, hb_604, hb_605, hb_606, hb_607, hb_612, hb_617F]) ?_
                refine AL_skips (by exact rfl) ?_
                refine AL_upto (by exact rfl) (by simp only [go_sem, seval, hb_603, hb_604, hb_605, hb_606, hb_607, hb_612, hb_617F]; exact rfl) ?_
                refine AL_nil ?_
                refine thenA_n ?_
                refine awp_ret ?_
                cases h
                refine retQ_ret (by simp only [Try.results7]; simp only [go_sem, seval, hb_603, hb_604, hb_605, hb_606, hb_607, hb_612, hb_617F]; exact rfl) ?_
                simp only [go_sem, seval, hb_603, hb_604, hb_605, hb_606, hb_607, hb_612, hb_617F]
                all_goals ((repeat' refine And.intro ?_ ?_) <;> first | rfl | (simp; done) | (simp; rfl) | (simp [*]; done) | (simp [*]; rfl))
            · rw [if_neg hb_612] at h
              have hb_612F := Bool.eq_false_iff.2 hb_612
              refine AL_known (d := 48) (v := .p (.bool false)) (by simp only [go_sem, seval, hb_603, hb_604, hb_605, hb_606, hb_607, hb_612F]) ?_
              refine AL_skips (by exact rfl) ?_
              refine AL_upto (by exact rfl) (by simp only [go_sem, seval, hb_603, hb_604, hb_605, hb_606, hb_607, hb_612F]; exact rfl) ?_
              refine AL_skips (by exact rfl) ?_
              refine AL_upto (by exact rfl) (by simp only [go_sem, seval, hb_603, hb_604, hb_605, hb_606, hb_607, hb_612F]; exact rfl) ?_
              refine AL_nil ?_
              refine thenA_n ?_
              refine awp_ret ?_
              cases h
              refine retQ_ret (by simp only [Try.results7]; simp only [go_sem, seval, hb_603, hb_604, hb_605, hb_606, hb_607, hb_612F]; exact rfl) ?_
              simp only [go_sem, seval, hb_603, hb_604, hb_605, hb_606, hb_607, hb_612F]
              all_goals ((repeat' refine And.intro ?_ ?_) <;> first | rfl | (simp; done) | (simp; rfl) | (simp [*]; done) | (simp [*]; rfl))
          · rw [if_neg hb_607] at h
            have hb_607F := Bool.eq_false_iff.2 hb_607
            refine AL_known (d := 40) (v := .p (.bool false)) (by simp only [go_sem, seval, hb_603, hb_604, hb_605, hb_606, hb_607F]) ?_
            refine AL_skips (by exact rfl) ?_
            refine AL_upto (by exact rfl) (by simp only [go_sem, seval, hb_603, hb_604, hb_605, hb_606, hb_607F]; exact rfl) ?_
            refine AL_skips (by exact rfl) ?_
            refine AL_upto (by exact rfl) (by simp only [go_sem, seval, hb_603, hb_604, hb_605, hb_606, hb_607F]; exact rfl) ?_
            refine AL_skips (by exact rfl) ?_
            refine AL_upto (by exact rfl) (by simp only [go_sem, seval, hb_603, hb_604, hb_605, hb_606, hb_607F]; exact rfl) ?_
            refine AL_nil ?_
            refine thenA_n ?_
            refine awp_ret ?_
            cases h
            refine retQ_ret (by simp only [Try.results7]; simp only [go_sem, seval, hb_603, hb_604, hb_605, hb_606, hb_607F]; exact rfl) ?_
            simp only [go_sem, seval, hb_603, hb_604, hb_605, hb_606, hb_607F]
            all_goals ((repeat' refine And.intro ?_ ?_) <;> first | rfl | (simp; done) | (simp; rfl) | (simp [*]; done) | (simp [*]; rfl))
        · rw [if_neg hb_606] at h
          have hb_606F := Bool.eq_false_iff.2 hb_606
          refine AL_known (d := 35) (v := .p (.bool false)) (by simp only [go_sem, seval, hb_603, hb_604, hb_605, hb_606F]) ?_
          refine AL_skips (by exact rfl) ?_
          refine AL_upto (by exact rfl) (by simp only [go_sem, seval, hb_603, hb_604, hb_605, hb_606F]; exact rfl) ?_
          refine AL_skips (by exact rfl) ?_
          refine AL_upto (by exact rfl) (by simp only [go_sem, seval, hb_603, hb_604, hb_605, hb_606F]; exact rfl) ?_
          refine AL_skips (by exact rfl) ?_
          refine AL_upto (by exact rfl) (by simp only [go_sem, seval, hb_603, hb_604, hb_605, hb_606F]; exact rfl) ?_
          refine AL_skips (by exact rfl) ?_
          refine AL_upto (by exact rfl) (by simp only [go_sem, seval, hb_603, hb_604, hb_605, hb_606F]; exact rfl) ?_
          refine AL_nil ?_
          refine thenA_n ?_
          refine awp_ret ?_
          cases h
          refine retQ_ret (by simp only [Try.results7]; simp only [go_sem, seval, hb_603, hb_604, hb_605, hb_606F]; exact rfl) ?_
          simp only [go_sem, seval, hb_603, hb_604, hb_605, hb_606F]
          all_goals ((repeat' refine And.intro ?_ ?_) <;> first | rfl | (simp; done) | (simp; rfl) | (simp [*]; done) | (simp [*]; rfl))
      · rw [if_neg hb_605] at h
        have hb_605F := Bool.eq_false_iff.2 hb_605
        refine AL_known (d := 31) (v := .p (.bool false)) (by simp only [go_sem, seval, hb_603, hb_604, hb_605F]) ?_
        refine AL_skips (by exact rfl) ?_
        refine AL_upto (by exact rfl) (by simp only [go_sem, seval, hb_603, hb_604, hb_605F]; exact rfl) ?_
        refine AL_skips (by exact rfl) ?_
        refine AL_upto (by exact rfl) (by simp only [go_sem, seval, hb_603, hb_604, hb_605F]; exact rfl) ?_
        refine AL_skips (by exact rfl) ?_
        refine AL_upto (by exact rfl) (by simp only [go_sem, seval, hb_603, hb_604, hb_605F]; exact rfl) ?_
        refine AL_skips (by exact rfl) ?_
        refine AL_upto (by exact rfl) (by simp only [go_sem, seval, hb_603, hb_604, hb_605F]; exact rfl) ?_
        refine AL_skips (by exact rfl) ?_
        refine AL_upto (by exact rfl) (by simp only [go_sem, seval, hb_603, hb_604, hb_605F]; exact rfl) ?_
        refine AL_nil ?_
        refine thenA_n ?_
        refine awp_ret ?_
        cases h
        refine retQ_ret (by simp only [Try.results7]; simp only [go_sem, seval, hb_603, hb_604, hb_605F]; exact rfl) ?_
        simp only [go_sem, seval, hb_603, hb_604, hb_605F]
        all_goals ((repeat' refine And.intro ?_ ?_) <;> first | rfl | (simp; done) | (simp; rfl) | (simp [*]; done) | (simp [*]; rfl))
    · rw [if_neg hb_604] at h
      have hb_604F := Bool.eq_false_iff.2 hb_604
      refine AL_known (d := 26) (v := .p (.bool false)) (by simp only [go_sem, seval, hb_603, hb_604F]) ?_
      refine AL_skips (by exact rfl) ?_
      refine AL_upto (by exact rfl) (by simp only [go_sem, seval, hb_603, hb_604F]; exact rfl) ?_
      refine AL_skips (by exact rfl) ?_
      refine AL_upto (by exact rfl) (by simp only [go_sem, seval, hb_603, hb_604F]; exact rfl) ?_
      refine AL_skips (by exact rfl) ?_
      refine AL_upto (by exact rfl) (by simp only [go_sem, seval, hb_603, hb_604F]; exact rfl) ?_
      refine AL_skips (by exact rfl) ?_
      refine AL_upto (by exact rfl) (by simp only [go_sem, seval, hb_603, hb_604F]; exact rfl) ?_
      refine AL_skips (by exact rfl) ?_
      refine AL_upto (by exact rfl) (by simp only [go_sem, seval, hb_603, hb_604F]; exact rfl) ?_
      refine AL_skips (by exact rfl) ?_
      refine AL_upto (by exact rfl) (by simp only [go_sem, seval, hb_603, hb_604F]; exact rfl) ?_
      refine AL_nil ?_
      refine thenA_n ?_
      refine awp_ret ?_
      cases h
      refine retQ_ret (by simp only [Try.results7]; simp only [go_sem, seval, hb_603, hb_604F]; exact rfl) ?_
      simp only [go_sem, seval, hb_603, hb_604F]
      all_goals ((repeat' refine And.intro ?_ ?_) <;> first | rfl | (simp; done) | (simp; rfl) | (simp [*]; done) | (simp [*]; rfl))
  · rw [if_neg hb_603] at h
    have hb_603F := Bool.eq_false_iff.2 hb_603
    refine AL_known (d := 22) (v := .p (.bool false)) (by simp only [go_sem, seval, hb_603F]) ?_
    refine AL_skips (by exact rfl) ?_
    refine AL_upto (by exact rfl) (by simp only [go_sem, seval, hb_603F]; exact rfl) ?_
    refine AL_skips (by exact rfl) ?_
    refine AL_upto (by exact rfl) (by simp only [go_sem, seval, hb_603F]; exact rfl) ?_
    refine AL_skips (by exact rfl) ?_
    refine AL_upto (by exact rfl) (by simp only [go_sem, seval, hb_603F]; exact rfl) ?_
    refine AL_skips (by exact rfl) ?_
    refine AL_upto (by exact rfl) (by simp only [go_sem, seval, hb_603F]; exact rfl) ?_
    refine AL_skips (by exact rfl) ?_
    refine AL_upto (by exact rfl) (by simp only [go_sem, seval, hb_603F]; exact rfl) ?_
    refine AL_skips (by exact rfl) ?_
    refine AL_upto (by exact rfl) (by simp only [go_sem, seval, hb_603F]; exact rfl) ?_
    refine AL_skips (by exact rfl) ?_
    refine AL_upto (by exact rfl) (by simp only [go_sem, seval, hb_603F]; exact rfl) ?_
    refine AL_nil ?_
    refine thenA_n ?_
    refine awp_ret ?_
    cases h
    refine retQ_ret (by simp only [Try.results7]; simp only [go_sem, seval, hb_603F]; exact rfl) ?_
    simp only [go_sem, seval, hb_603F]
    all_goals ((repeat' refine And.intro ?_ ?_) <;> first | rfl | (simp; done) | (simp; rfl) | (simp [*]; done) | (simp [*]; rfl))
end Go.Proofs.Ytdmddoljldjjeaa
set_option linter.unusedVariables false
set_option linter.unusedSimpArgs false
namespace Go.Proofs.Ytdmddoljldjjeaa
open Go Go.Ab
set_option maxHeartbeats 4000000 in
theorem drosslaw55_few_con (t_1141 : Table) (r_1143 : Bool) (h : drosslaw55_few t_1141 = some r_1143) : Con Try.prog 19 [(encTable t_1141)] (.bool r_1143) := by
  refine ⟨Try.call19, ?_⟩
  refine pure_of_awp Try.func19 rfl Try.ntmps19 (by simp) fun X w => ?_
  show AWp _ _ _ ⟨[(0, .p (encTable t_1141))], []⟩
  simp only [drosslaw55_few] at h
  refine awp_seq ?_
  refine awp_region ?_
  refine AL_upto (by exact rfl) (by simp only [go_sem, seval]; exact rfl) ?_
  refine AL_nil ?_
  refine thenA_n ?_
  refine awp_seq ?_
  refine awp_region ?_
  refine AL_upto (by exact rfl) (by simp only [go_sem, seval]; exact rfl) ?_
  by_cases hb_1142 : (t_1141.Rows.length : Int) ≤ 8
  · rw [if_pos hb_1142] at h
    have hb_1142T := eq_true hb_1142
    refine AL_known (d := 7) (v := .p (.bool true)) (by simp only [go_sem, seval, hb_1142T]) ?_
    refine AL_gt' (guard_true' rfl rfl (by exact rfl) (by exact rfl)) rfl (by simp only [go_sem, seval, hb_1142T]; exact rfl) ?_
    refine AL_gt' (guard_true' rfl rfl (by exact rfl) (by exact rfl)) rfl (by simp only [go_sem, seval, hb_1142T]; exact rfl) ?_
    refine AL_gt' (guard_true' rfl rfl (by exact rfl) (by exact rfl)) rfl (by simp only [go_sem, seval, hb_1142T]; exact rfl) ?_
    refine AL_gt' (guard_true' rfl rfl (by exact rfl) (by exact rfl)) rfl (by simp only [go_sem, seval, hb_1142T]; exact rfl) ?_
    refine AL_upto (by exact rfl) (by simp only [go_sem, seval, hb_1142T]; exact rfl) ?_
    refine AL_nil ?_
    refine thenA_n ?_
    refine awp_ret ?_
    cases h
    refine retQ_ret (by simp only [Try.results19]; simp only [go_sem, seval, hb_1142T]; exact rfl) ?_
    simp only [go_sem, seval, hb_1142T]
    all_goals ((repeat' refine And.intro ?_ ?_) <;> first | rfl | (simp; done) | (simp; rfl) | (simp [*]; done) | (simp [*]; rfl))
  · rw [if_neg hb_1142] at h
    have hb_1142T := eq_false hb_1142
    refine AL_known (d := 7) (v := .p (.bool false)) (by simp only [go_sem, seval, hb_1142T]) ?_
    refine AL_skips (by exact rfl) ?_
    refine AL_upto (by exact rfl) (by simp only [go_sem, seval, hb_1142T]; exact rfl) ?_
    refine AL_nil ?_
    refine thenA_n ?_
    refine awp_ret ?_
    cases h
    refine retQ_ret (by simp only [Try.results19]; simp only [go_sem, seval, hb_1142T]; exact rfl) ?_
    simp only [go_sem, seval, hb_1142T]
    all_goals ((repeat' refine And.intro ?_ ?_) <;> first | rfl | (simp; done) | (simp; rfl) | (simp [*]; done) | (simp [*]; rfl))
end Go.Proofs.Ytdmddoljldjjeaa
set_option linter.unusedVariables false
set_option linter.unusedSimpArgs false
namespace Go.Proofs.Ytdmddoljldjjeaa
open Go Go.Ab
set_option maxHeartbeats 4000000 in
theorem drosslaw55_brief_con (m_1144 : Merged) (r_1149 : Bool) (h : drosslaw55_brief m_1144 = some r_1149) : Con Try.prog 16 [(encMerged m_1144)] (.bool r_1149) := by
  refine ⟨Try.call16, ?_⟩
  refine pure_of_awp Try.func16 rfl Try.ntmps16 (by simp) fun X w => ?_
  show AWp _ _ _ ⟨[(0, .p (encMerged m_1144))], []⟩
  simp only [drosslaw55_brief] at h
  refine awp_seq ?_
  refine awp_region ?_
  refine AL_upto (by exact rfl) (by simp only [go_sem, seval]; exact rfl) ?_
  refine AL_nil ?_
  refine thenA_n ?_
  refine awp_seq ?_
  refine awp_region ?_
  refine AL_upto (by exact rfl) (by simp only [go_sem, seval]; exact rfl) ?_
  obtain ⟨r_1145, hr_1146, h⟩ := Option.bind_eq_some_iff.1 h
  refine AL_con' rfl (guard_none rfl) rfl (by simp only [go_sem, seval]; exact rfl) (by simp only [go_sem, seval]; all_goals ((repeat' refine And.intro ?_ ?_) <;> first | rfl | (simp; done) | (simp; rfl) | (simp [*]; done) | (simp [*]; rfl))) (drosslaw55_few_con m_1144.Table _ hr_1146) (.inr rfl) rfl ?_
  refine AL_upto (by exact rfl) (by simp only [go_sem, seval]; exact rfl) ?_
  by_cases hb_1147 : r_1145 = true
  · rw [if_pos hb_1147] at h
    refine AL_known (d := 6) (v := .p (.bool true)) (by simp only [go_sem, seval, hb_1147]) ?_
    refine AL_gt' (guard_true' rfl rfl (by exact rfl) (by exact rfl)) rfl (by simp only [go_sem, seval, hb_1147]; exact rfl) ?_
    refine AL_gt' (guard_true' rfl rfl (by exact rfl) (by exact rfl)) rfl (by simp only [go_sem, seval, hb_1147]; exact rfl) ?_
    refine AL_gt' (guard_true' rfl rfl (by exact rfl) (by exact rfl)) rfl (by simp only [go_sem, seval, hb_1147]; exact rfl) ?_
    refine AL_gt' (guard_true' rfl rfl (by exact rfl) (by exact rfl)) rfl (by simp only [go_sem, seval, hb_1147]; exact rfl) ?_
    refine AL_upto (by exact rfl) (by simp only [go_sem, seval, hb_1147]; exact rfl) ?_
    by_cases hb_1148 : (m_1144.Clusters.length : Int) ≤ 10
    · rw [if_pos hb_1148] at h
      have hb_1148T := eq_true hb_1148
      refine AL_known (d := 12) (v := .p (.bool true)) (by simp only [go_sem, seval, hb_1147, hb_1148T]) ?_
      refine AL_gt' (guard_true' rfl rfl (by exact rfl) (by exact rfl)) rfl (by simp only [go_sem, seval, hb_1147, hb_1148T]; exact rfl) ?_
      refine AL_gt' (guard_true' rfl rfl (by exact rfl) (by exact rfl)) rfl (by simp only [go_sem, seval, hb_1147, hb_1148T]; exact rfl) ?_
      refine AL_gt' (guard_true' rfl rfl (by exact rfl) (by exact rfl)) rfl (by simp only [go_sem, seval, hb_1147, hb_1148T]; exact rfl) ?_
      refine AL_gt' (guard_true' rfl rfl (by exact rfl) (by exact rfl)) rfl (by simp only [go_sem, seval, hb_1147, hb_1148T]; exact rfl) ?_
      refine AL_upto (by exact rfl) (by simp only [go_sem, seval, hb_1147, hb_1148T]; exact rfl) ?_
      refine AL_nil ?_
      refine thenA_n ?_
      refine awp_ret ?_
      cases h
      refine retQ_ret (by simp only [Try.results16]; simp only [go_sem, seval, hb_1147, hb_1148T]; exact rfl) ?_
      simp only [go_sem, seval, hb_1147, hb_1148T]
      all_goals ((repeat' refine And.intro ?_ ?_) <;> first | rfl | (simp; done) | (simp; rfl) | (simp [*]; done) | (simp [*]; rfl))
    · rw [if_neg hb_1148] at h
      have hb_1148T := eq_false hb_1148
      refine AL_known (d := 12) (v := .p (.bool false)) (by simp only [go_sem, seval, hb_1147, hb_1148T]) ?_
      refine AL_skips (by exact rfl) ?_
      refine AL_upto (by exact rfl) (by simp only [go_sem, seval, hb_1147, hb_1148T]; exact rfl) ?_
      refine AL_nil ?_
      refine thenA_n ?_
      refine awp_ret ?_
      cases h
      refine retQ_ret (by simp only [Try.results16]; simp only [go_sem, seval, hb_1147, hb_1148T]; exact rfl) ?_
      simp only [go_sem, seval, hb_1147, hb_1148T]
      all_goals ((repeat' refine And.intro ?_ ?_) <;> first | rfl | (simp; done) | (simp; rfl) | (simp [*]; done) | (simp [*]; rfl))
  · rw [if_neg hb_1147] at h
    have hb_1147F := Bool.eq_false_iff.2 hb_1147
    refine AL_known (d := 6) (v := .p (.bool false)) (by simp only [go_sem, seval, hb_1147F]) ?_
    refine AL_skips (by exact rfl) ?_
    refine AL_upto (by exact rfl) (by simp only [go_sem, seval, hb_1147F]; exact rfl) ?_
    refine AL_skips (by exact rfl) ?_
    refine AL_upto (by exact rfl) (by simp only [go_sem, seval, hb_1147F]; exact rfl) ?_
    refine AL_nil ?_
    refine thenA_n ?_
    refine awp_ret ?_
    cases h
    refine retQ_ret (by simp only [Try.results16]; simp only [go_sem, seval, hb_1147F]; exact rfl) ?_
    simp only [go_sem, seval, hb_1147F]
    all_goals ((repeat' refine And.intro ?_ ?_) <;> first | rfl | (simp; done) | (simp; rfl) | (simp [*]; done) | (simp [*]; rfl))
end Go.Proofs.Ytdmddoljldjjeaa
set_option linter.unusedVariables false
set_option linter.unusedSimpArgs false
namespace Go.Proofs.Ytdmddoljldjjeaa
open Go Go.Ab
set_option maxHeartbeats 4000000 in
theorem table_isName_con (s_1150 : List UInt8) (r_1235 : Bool) (h : table_isName s_1150 = some r_1235) : Con Try.prog 64 [(.str s_1150)] (.bool r_1235) := by
  refine ⟨Try.call64, ?_⟩
  refine pure_of_awp Try.func64 rfl Try.ntmps64 (by simp) fun X w => ?_
  show AWp _ _ _ ⟨[(0, .p (.str s_1150))], []⟩
  simp only [table_isName] at h
  refine awp_seq ?_
  refine awp_region ?_
  refine AL_upto (by exact rfl) (by simp only [go_sem, seval]; exact rfl) ?_
  refine AL_nil ?_
  refine thenA_n ?_
  refine awp_seq ?_
  refine awp_seq ?_
  refine awp_region ?_
  refine AL_upto (by exact rfl) (by simp only [go_sem, seval]; exact rfl) ?_
  by_cases hb_1151 : (s_1150 == []) = true
  · rw [if_pos hb_1151] at h
    refine AL_known (d := 8) (v := .p (.bool true)) (by simp only [go_sem, seval, hb_1151]) ?_
    refine AL_skips (by exact rfl) ?_
    refine AL_upto (by exact rfl) (by simp only [go_sem, seval, hb_1151]; exact rfl) ?_
    refine AL_skips (by exact rfl) ?_
    refine AL_upto (by exact rfl) (by simp only [go_sem, seval, hb_1151]; exact rfl) ?_
    refine AL_nil ?_
    refine thenA_n ?_
    refine awp_ct (by simp only [go_sem, seval, hb_1151]) ?_
    refine awp_seq ?_
    refine awp_region ?_
    refine AL_upto (by exact rfl) (by simp only [go_sem, seval, hb_1151]; exact rfl) ?_
    refine AL_nil ?_
    refine thenA_n ?_
    refine awp_ret ?_
    refine thenA_ret ?_
    cases h
    refine retQ_ret (by simp only [Try.results64]; simp only [go_sem, seval, hb_1151]; exact rfl) ?_
    simp only [go_sem, seval, hb_1151]
    all_goals ((repeat' refine And.intro ?_ ?_) <;> first | rfl | (simp; done) | (simp; rfl) | (simp [*]; done) | (simp [*]; rfl))
  · rw [if_neg hb_1151] at h
    have hb_1151F := Bool.eq_false_iff.2 hb_1151
    refine AL_known (d := 8) (v := .p (.bool false)) (by simp only [go_sem, seval, hb_1151F]) ?_
    refine AL_gt' (guard_true' rfl rfl (by exact rfl) (by exact rfl)) rfl (by simp only [go_sem, seval, hb_1151F]; exact rfl) ?_
    refine AL_gt' (guard_true' rfl rfl (by exact rfl) (by exact rfl)) rfl (by simp only [go_sem, seval, hb_1151F]; exact rfl) ?_
    refine AL_gt' (guard_true' rfl rfl (by exact rfl) (by exact rfl)) rfl (by simp only [go_sem, seval, hb_1151F]; exact rfl) ?_
    refine AL_upto (by exact rfl) (by simp only [go_sem, seval, hb_1151F]; exact rfl) ?_
    by_cases hb_1152 : (s_1150.length : Int) > 24
    · rw [if_pos hb_1152] at h
      have hb_1152T := eq_true hb_1152
      refine AL_known (d := 13) (v := .p (.bool true)) (by simp only [go_sem, seval, hb_1151F, hb_1152T]) ?_
      refine AL_skips (by exact rfl) ?_
      refine AL_upto (by exact rfl) (by simp only [go_sem, seval, hb_1151F, hb_1152T]; exact rfl) ?_
      refine AL_nil ?_
      refine thenA_n ?_
      refine awp_ct (by simp only [go_sem, seval, hb_1151F, hb_1152T]) ?_
      refine awp_seq ?_
      refine awp_region ?_
      refine AL_upto (by exact rfl) (by simp only [go_sem, seval, hb_1151F, hb_1152T]; exact rfl) ?_
      refine AL_nil ?_
      refine thenA_n ?_
      refine awp_ret ?_
      refine thenA_ret ?_
      cases h
      refine retQ_ret (by simp only [Try.results64]; simp only [go_sem, seval, hb_1151F, hb_1152T]; exact rfl) ?_
      simp only [go_sem, seval, hb_1151F, hb_1152T]
      all_goals ((repeat' refine And.intro ?_ ?_) <;> first | rfl | (simp; done) | (simp; rfl) | (simp [*]; done) | (simp [*]; rfl))
    · rw [if_neg hb_1152] at h
      have hb_1152T := eq_false hb_1152
      refine AL_known (d := 13) (v := .p (.bool false)) (by simp only [go_sem, seval, hb_1151F, hb_1152T]) ?_
      refine AL_gt' (guard_true' rfl rfl (by exact rfl) (by exact rfl)) rfl (by simp only [go_sem, seval, hb_1151F, hb_1152T]; exact rfl) ?_
      refine AL_gt' (guard_true' rfl rfl (by exact rfl) (by exact rfl)) rfl (by simp only [go_sem, seval, hb_1151F, hb_1152T]; exact rfl) ?_
      refine AL_upto (by exact rfl) (by simp only [go_sem, seval, hb_1151F, hb_1152T]; exact rfl) ?_
      refine AL_nil ?_
      refine thenA_n ?_
      by_cases hb_1153 : (s_1150 == [110, 117, 108, 108]) = true
      · rw [if_pos hb_1153] at h
        refine awp_ct (by simp only [go_sem, seval, hb_1151F, hb_1152T, hb_1153]) ?_
        refine awp_seq ?_
        refine awp_region ?_
        refine AL_upto (by exact rfl) (by simp only [go_sem, seval, hb_1151F, hb_1152T, hb_1153]; exact rfl) ?_
        refine AL_nil ?_
        refine thenA_n ?_
        refine awp_ret ?_
        refine thenA_ret ?_
        cases h
        refine retQ_ret (by simp only [Try.results64]; simp only [go_sem, seval, hb_1151F, hb_1152T, hb_1153]; exact rfl) ?_
        simp only [go_sem, seval, hb_1151F, hb_1152T, hb_1153]
        all_goals ((repeat' refine And.intro ?_ ?_) <;> first | rfl | (simp; done) | (simp; rfl) | (simp [*]; done) | (simp [*]; rfl))
      · rw [if_neg hb_1153] at h
        have hb_1153F := Bool.eq_false_iff.2 hb_1153
        refine awp_cf (by simp only [go_sem, seval, hb_1151F, hb_1152T, hb_1153F]) ?_
        refine awp_skip ?_
        refine thenA_n ?_
        refine awp_seq ?_
        refine awp_seq ?_
        refine awp_region ?_
        refine AL_upto (by exact rfl) (by simp only [go_sem, seval, hb_1151F, hb_1152T, hb_1153F]; exact rfl) ?_
        refine AL_nil ?_
        refine thenA_n ?_
        refine awp_block ?_
        obtain ⟨o_1230, hL_1231, h⟩ := Option.bind_eq_some_iff.1 h
        refine awp_loop_L (fun (s : Int) => ⟨[(0, .p (.str s_1150)), (18, .p (.int .i64 (s_1150.length : Int))), (19, .p (.int .i64 s))], []⟩) (fun (o : (Unit) ⊕ (Bool)) (e : Exit) (s' : St) => match o with | .inl o_1233 => e = (.exit 0) ∧ Le ⟨Try.prog, Try.f64.ntmps, 0, X, [], fun _ => none, w⟩ s' ⟨[], []⟩ | .inr o_1234 => e = .ret ∧ retQ Try.prog Try.f64 (.bool o_1234) .ret s') (by intro o s hT; rcases o with _ | _ <;> (have hh := hT.1; cases hh)) hL_1231 (by simp only [go_sem, seval, hb_1151F, hb_1152T, hb_1153F]; all_goals ((repeat' refine And.intro ?_ ?_) <;> first | rfl | (simp; done) | (simp; rfl) | (simp [*]; done) | (simp [*]; rfl))) ?_ ?_
        · clear h
          intro t19_1177 x h
          simp only [table_isName_l1] at h
          show AWp _ _ _ ⟨[(0, .p (.str s_1150)), (18, .p (.int .i64 (s_1150.length : Int))), (19, .p (.int .i64 t19_1177))], []⟩
          refine awp_seq ?_
          refine awp_region ?_
          refine AL_upto (by exact rfl) (by simp only [go_sem, seval]; exact rfl) ?_
          refine AL_nil ?_
          refine thenA_n ?_
          refine awp_seq ?_
          by_cases hb_1205 : t19_1177 < (s_1150.length : Int)
          · rw [if_pos hb_1205] at h
            have hb_1205T := eq_true hb_1205
            refine awp_ct (by simp only [go_sem, seval, hb_1205T]) ?_
            refine awp_skip ?_
            refine thenA_n ?_
            refine awp_seq ?_
            refine awp_block ?_
            refine awp_seq ?_
            refine awp_region ?_
            refine AL_upto (by exact rfl) (by simp only [go_sem, seval, hb_1205T]; exact rfl) ?_
            refine AL_nil ?_
            refine thenA_n ?_
            refine awp_seq ?_
            refine awp_region ?_
            obtain ⟨c_1208, hx_1209, h⟩ := Option.bind_eq_some_iff.1 h
            obtain ⟨hx_1209a, hx_1209, hx_1209b⟩ := idx_some hx_1209
            have hx_1209A := eq_true hx_1209a
            have hx_1209B := eq_true hx_1209b
            refine AL_upto (by exact rfl) (by simp only [go_sem, seval, hb_1205T, hx_1209, hx_1209A, hx_1209B]; exact rfl) ?_
            refine AL_nil ?_
            refine thenA_n ?_
            obtain ⟨o_1217, hA_1218, h⟩ := Option.bind_eq_some_iff.1 h
            refine awp_join (T := (fun (o_1229 : Bool) (e : Exit) (s' : St) => e = .normal ∧ Le ⟨Try.prog, Try.f64.ntmps, 0, X, [], fun _ => none, w⟩ s' ⟨[(0, .p (.str s_1150)), (3, .p (.int .i64 t19_1177)), (4, .p (.int .u8 ((c_1208.toNat : Nat) : Int))), (5, .p (.bool o_1229)), (18, .p (.int .i64 (s_1150.length : Int))), (19, .p (.int .i64 t19_1177))], []⟩) o_1217) ?_ ?_
            · replace h := hA_1218
              clear hA_1218
              refine awp_region ?_
              refine AL_upto (by exact rfl) (by simp only [go_sem, seval, hb_1205T]; exact rfl) ?_
              by_cases hb_1219 : ((c_1208.toNat : Nat) : Int) ≥ 97
              · rw [if_pos hb_1219] at h
                have hb_1219T := eq_true hb_1219
                refine AL_known (d := 27) (v := .p (.bool true)) (by simp only [go_sem, seval, hb_1205T, hb_1219T]) ?_
                refine AL_gt' (guard_true' rfl rfl (by exact rfl) (by exact rfl)) rfl (by simp only [go_sem, seval, hb_1205T, hb_1219T]; exact rfl) ?_
                refine AL_gt' (guard_true' rfl rfl (by exact rfl) (by exact rfl)) rfl (by simp only [go_sem, seval, hb_1205T, hb_1219T]; exact rfl) ?_
                refine AL_upto (by exact rfl) (by simp only [go_sem, seval, hb_1205T, hb_1219T]; exact rfl) ?_
                by_cases hb_1220 : ((c_1208.toNat : Nat) : Int) ≤ 122
                · rw [if_pos hb_1220] at h
                  have hb_1220T := eq_true hb_1220
                  refine AL_known (d := 31) (v := .p (.bool true)) (by simp only [go_sem, seval, hb_1205T, hb_1219T, hb_1220T]) ?_
                  refine AL_skips (by exact rfl) ?_
                  refine AL_upto (by exact rfl) (by simp only [go_sem, seval, hb_1205T, hb_1219T, hb_1220T]; exact rfl) ?_
                  refine AL_skips (by exact rfl) ?_
                  refine AL_upto (by exact rfl) (by simp only [go_sem, seval, hb_1205T, hb_1219T, hb_1220T]; exact rfl) ?_
                  refine AL_nil ?_
                  cases h
                  refine ⟨rfl, ?_⟩
                  simp only [go_sem, seval, hb_1205T, hb_1219T, hb_1220T]
                  all_goals ((repeat' refine And.intro ?_ ?_) <;> first | rfl | (simp; done) | (simp; rfl) | (simp [*]; done) | (simp [*]; rfl))
                · rw [if_neg hb_1220] at h
                  have hb_1220T := eq_false hb_1220
                  refine AL_known (d := 31) (v := .p (.bool false)) (by simp only [go_sem, seval, hb_1205T, hb_1219T, hb_1220T]) ?_
                  refine AL_gt' (guard_true' rfl rfl (by exact rfl) (by exact rfl)) rfl (by simp only [go_sem, seval, hb_1205T, hb_1219T, hb_1220T]; exact rfl) ?_
                  refine AL_gt' (guard_true' rfl rfl (by exact rfl) (by exact rfl)) rfl (by simp only [go_sem, seval, hb_1205T, hb_1219T, hb_1220T]; exact rfl) ?_
                  refine AL_gt' (guard_true' rfl rfl (by exact rfl) (by exact rfl)) rfl (by simp only [go_sem, seval, hb_1205T, hb_1219T, hb_1220T]; exact rfl) ?_
                  by_cases hb_1221 : ((c_1208.toNat : Nat) : Int) ≥ 65
                  · rw [if_pos hb_1221] at h
                    have hb_1221T := eq_true hb_1221
                    refine AL_known (d := 34) (v := .p (.bool true)) (by simp only [go_sem, seval, hb_1205T, hb_1219T, hb_1220T, hb_1221T]) ?_
                    refine AL_gt' (guard_true' rfl rfl (by exact rfl) (by exact rfl)) rfl (by simp only [go_sem, seval, hb_1205T, hb_1219T, hb_1220T, hb_1221T]; exact rfl) ?_
                    refine AL_gt' (guard_true' rfl rfl (by exact rfl) (by exact rfl)) rfl (by simp only [go_sem, seval, hb_1205T, hb_1219T, hb_1220T, hb_1221T]; exact rfl) ?_
                    refine AL_gt' (guard_true' rfl rfl (by exact rfl) (by exact rfl)) rfl (by simp only [go_sem, seval, hb_1205T, hb_1219T, hb_1220T, hb_1221T]; exact rfl) ?_
                    refine AL_upto (by exact rfl) (by simp only [go_sem, seval, hb_1205T, hb_1219T, hb_1220T, hb_1221T]; exact rfl) ?_
                    by_cases hb_1222 : ((c_1208.toNat : Nat) : Int) ≤ 90
                    · rw [if_pos hb_1222] at h
                      have hb_1222T := eq_true hb_1222
                      refine AL_known (d := 39) (v := .p (.bool true)) (by simp only [go_sem, seval, hb_1205T, hb_1219T, hb_1220T, hb_1221T, hb_1222T]) ?_
                      refine AL_skips (by exact rfl) ?_
                      refine AL_upto (by exact rfl) (by simp only [go_sem, seval, hb_1205T, hb_1219T, hb_1220T, hb_1221T, hb_1222T]; exact rfl) ?_
                      refine AL_nil ?_
                      cases h
                      refine ⟨rfl, ?_⟩
                      simp only [go_sem, seval, hb_1205T, hb_1219T, hb_1220T, hb_1221T, hb_1222T]
                      all_goals ((repeat' refine And.intro ?_ ?_) <;> first | rfl | (simp; done) | (simp; rfl) | (simp [*]; done) | (simp [*]; rfl))
                    · rw [if_neg hb_1222] at h
                      have hb_1222T := eq_false hb_1222
                      refine AL_known (d := 39) (v := .p (.bool false)) (by simp only [go_sem, seval, hb_1205T, hb_1219T, hb_1220T, hb_1221T, hb_1222T]) ?_
                      refine AL_gt' (guard_true' rfl rfl (by exact rfl) (by exact rfl)) rfl (by simp only [go_sem, seval, hb_1205T, hb_1219T, hb_1220T, hb_1221T, hb_1222T]; exact rfl) ?_
                      refine AL_gt' (guard_true' rfl rfl (by exact rfl) (by exact rfl)) rfl (by simp only [go_sem, seval, hb_1205T, hb_1219T, hb_1220T, hb_1221T, hb_1222T]; exact rfl) ?_
                      refine AL_upto (by exact rfl) (by simp only [go_sem, seval, hb_1205T, hb_1219T, hb_1220T, hb_1221T, hb_1222T]; exact rfl) ?_
                      refine AL_nil ?_
                      cases h
                      refine ⟨rfl, ?_⟩
                      simp only [go_sem, seval, hb_1205T, hb_1219T, hb_1220T, hb_1221T, hb_1222T]
                      all_goals ((repeat' refine And.intro ?_ ?_) <;> first | rfl | (simp; done) | (simp; rfl) | (simp [*]; done) | (simp [*]; rfl))
                  · rw [if_neg hb_1221] at h
                    have hb_1221T := eq_false hb_1221
                    refine AL_known (d := 34) (v := .p (.bool false)) (by simp only [go_sem, seval, hb_1205T, hb_1219T, hb_1220T, hb_1221T]) ?_
                    refine AL_skips (by exact rfl) ?_
                    refine AL_gt' (guard_true' rfl rfl (by exact rfl) (by exact rfl)) rfl (by simp only [go_sem, seval, hb_1205T, hb_1219T, hb_1220T, hb_1221T]; exact rfl) ?_
                    refine AL_upto (by exact rfl) (by simp only [go_sem, seval, hb_1205T, hb_1219T, hb_1220T, hb_1221T]; exact rfl) ?_
                    refine AL_gt' (guard_true' rfl rfl (by exact rfl) (by exact rfl)) rfl (by simp only [go_sem, seval, hb_1205T, hb_1219T, hb_1220T, hb_1221T]; exact rfl) ?_
                    refine AL_gt' (guard_true' rfl rfl (by exact rfl) (by exact rfl)) rfl (by simp only [go_sem, seval, hb_1205T, hb_1219T, hb_1220T, hb_1221T]; exact rfl) ?_
                    refine AL_upto (by exact rfl) (by simp only [go_sem, seval, hb_1205T, hb_1219T, hb_1220T, hb_1221T]; exact rfl) ?_
                    refine AL_nil ?_
                    cases h
                    refine ⟨rfl, ?_⟩
                    simp only [go_sem, seval, hb_1205T, hb_1219T, hb_1220T, hb_1221T]
                    all_goals ((repeat' refine And.intro ?_ ?_) <;> first | rfl | (simp; done) | (simp; rfl) | (simp [*]; done) | (simp [*]; rfl))
              · rw [if_neg hb_1219] at h
                have hb_1219T := eq_false hb_1219
                refine AL_known (d := 27) (v := .p (.bool false)) (by simp only [go_sem, seval, hb_1205T, hb_1219T]) ?_
                refine AL_skips (by exact rfl) ?_
                refine AL_upto (by exact rfl) (by simp only [go_sem, seval, hb_1205T, hb_1219T]; exact rfl) ?_
                refine AL_gt' (guard_true' rfl rfl (by exact rfl) (by exact rfl)) rfl (by simp only [go_sem, seval, hb_1205T, hb_1219T]; exact rfl) ?_
                refine AL_gt' (guard_true' rfl rfl (by exact rfl) (by exact rfl)) rfl (by simp only [go_sem, seval, hb_1205T, hb_1219T]; exact rfl) ?_
                refine AL_gt' (guard_true' rfl rfl (by exact rfl) (by exact rfl)) rfl (by simp only [go_sem, seval, hb_1205T, hb_1219T]; exact rfl) ?_
                by_cases hb_1223 : ((c_1208.toNat : Nat) : Int) ≥ 65
                · rw [if_pos hb_1223] at h
                  have hb_1223T := eq_true hb_1223
                  refine AL_known (d := 34) (v := .p (.bool true)) (by simp only [go_sem, seval, hb_1205T, hb_1219T, hb_1223T]) ?_
                  refine AL_gt' (guard_true' rfl rfl (by exact rfl) (by exact rfl)) rfl (by simp only [go_sem, seval, hb_1205T, hb_1219T, hb_1223T]; exact rfl) ?_
                  refine AL_gt' (guard_true' rfl rfl (by exact rfl) (by exact rfl)) rfl (by simp only [go_sem, seval, hb_1205T, hb_1219T, hb_1223T]; exact rfl) ?_
                  refine AL_gt' (guard_true' rfl rfl (by exact rfl) (by exact rfl)) rfl (by simp only [go_sem, seval, hb_1205T, hb_1219T, hb_1223T]; exact rfl) ?_
                  refine AL_upto (by exact rfl) (by simp only [go_sem, seval, hb_1205T, hb_1219T, hb_1223T]; exact rfl) ?_
                  by_cases hb_1224 : ((c_1208.toNat : Nat) : Int) ≤ 90
                  · rw [if_pos hb_1224] at h
                    have hb_1224T := eq_true hb_1224
                    refine AL_known (d := 39) (v := .p (.bool true)) (by simp only [go_sem, seval, hb_1205T, hb_1219T, hb_1223T, hb_1224T]) ?_
                    refine AL_skips (by exact rfl) ?_
                    refine AL_upto (by exact rfl) (by simp only [go_sem, seval, hb_1205T, hb_1219T, hb_1223T, hb_1224T]; exact rfl) ?_
                    refine AL_nil ?_
                    cases h
                    refine ⟨rfl, ?_⟩
                    simp only [go_sem, seval, hb_1205T, hb_1219T, hb_1223T, hb_1224T]
                    all_goals ((repeat' refine And.intro ?_ ?_) <;> first | rfl | (simp; done) | (simp; rfl) | (simp [*]; done) | (simp [*]; rfl))
                  · rw [if_neg hb_1224] at h
                    have hb_1224T := eq_false hb_1224
                    refine AL_known (d := 39) (v := .p (.bool false)) (by simp only [go_sem, seval, hb_1205T, hb_1219T, hb_1223T, hb_1224T]) ?_
                    refine AL_gt' (guard_true' rfl rfl (by exact rfl) (by exact rfl)) rfl (by simp only [go_sem, seval, hb_1205T, hb_1219T, hb_1223T, hb_1224T]; exact rfl) ?_
                    refine AL_gt' (guard_true' rfl rfl (by exact rfl) (by exact rfl)) rfl (by simp only [go_sem, seval, hb_1205T, hb_1219T, hb_1223T, hb_1224T]; exact rfl) ?_
                    refine AL_upto (by exact rfl) (by simp only [go_sem, seval, hb_1205T, hb_1219T, hb_1223T, hb_1224T]; exact rfl) ?_
                    refine AL_nil ?_
                    cases h
                    refine ⟨rfl, ?_⟩
                    simp only [go_sem, seval, hb_1205T, hb_1219T, hb_1223T, hb_1224T]
                    all_goals ((repeat' refine And.intro ?_ ?_) <;> first | rfl | (simp; done) | (simp; rfl) | (simp [*]; done) | (simp [*]; rfl))
                · rw [if_neg hb_1223] at h
                  have hb_1223T := eq_false hb_1223
                  refine AL_known (d := 34) (v := .p (.bool false)) (by simp only [go_sem, seval, hb_1205T, hb_1219T, hb_1223T]) ?_
                  refine AL_skips (by exact rfl) ?_
                  refine AL_gt' (guard_true' rfl rfl (by exact rfl) (by exact rfl)) rfl (by simp only [go_sem, seval, hb_1205T, hb_1219T, hb_1223T]; exact rfl) ?_
                  refine AL_upto (by exact rfl) (by simp only [go_sem, seval, hb_1205T, hb_1219T, hb_1223T]; exact rfl) ?_
                  refine AL_gt' (guard_true' rfl rfl (by exact rfl) (by exact rfl)) rfl (by simp only [go_sem, seval, hb_1205T, hb_1219T, hb_1223T]; exact rfl) ?_
                  refine AL_gt' (guard_true' rfl rfl (by exact rfl) (by exact rfl)) rfl (by simp only [go_sem, seval, hb_1205T, hb_1219T, hb_1223T]; exact rfl) ?_
                  refine AL_upto (by exact rfl) (by simp only [go_sem, seval, hb_1205T, hb_1219T, hb_1223T]; exact rfl) ?_
                  refine AL_nil ?_
                  cases h
                  refine ⟨rfl, ?_⟩
                  simp only [go_sem, seval, hb_1205T, hb_1219T, hb_1223T]
                  all_goals ((repeat' refine And.intro ?_ ?_) <;> first | rfl | (simp; done) | (simp; rfl) | (simp [*]; done) | (simp [*]; rfl))
            · intro e s' hT
              obtain ⟨letter_1216, rfl⟩ : ∃ z, z = o_1217 := ⟨_, rfl⟩
              try simp only at h
              try simp only at hT
              obtain ⟨rfl, hle⟩ := hT
              refine Wk.to hle ?_
              clear hle
              refine thenA_n ?_
              refine awp_seq ?_
              refine awp_region ?_
              refine AL_upto (by exact rfl) (by simp only [go_sem, seval, hb_1205T]; exact rfl) ?_
              by_cases hb_1225 : letter_1216 = true
              · rw [if_pos hb_1225] at h
                refine AL_known (d := 45) (v := .p (.bool false)) (by simp only [go_sem, seval, hb_1205T, hb_1225]) ?_
                refine AL_skips (by exact rfl) ?_
                refine AL_upto (by exact rfl) (by simp only [go_sem, seval, hb_1205T, hb_1225]; exact rfl) ?_
                refine AL_nil ?_
                refine thenA_n ?_
                refine awp_cf (by simp only [go_sem, seval, hb_1205T, hb_1225]) ?_
                refine awp_skip ?_
                refine blockA_n ?_
                refine thenA_n ?_
                refine awp_region ?_
                refine AL_upto (by exact rfl) (by simp only [go_sem, seval, hb_1205T, hb_1225]; exact rfl) ?_
                refine AL_nil ?_
                cases h
                refine ⟨rfl, ?_⟩
                simp only [go_sem, seval, hb_1205T, hb_1225]
                all_goals ((repeat' refine And.intro ?_ ?_) <;> first | rfl | (simp; done) | (simp; rfl) | (simp [*]; done) | (simp [*]; rfl))
              · rw [if_neg hb_1225] at h
                have hb_1225F := Bool.eq_false_iff.2 hb_1225
                refine AL_known (d := 45) (v := .p (.bool true)) (by simp only [go_sem, seval, hb_1205T, hb_1225F]) ?_
                refine AL_gt' (guard_true' rfl rfl (by exact rfl) (by exact rfl)) rfl (by simp only [go_sem, seval, hb_1205T, hb_1225F]; exact rfl) ?_
                refine AL_gt' (guard_true' rfl rfl (by exact rfl) (by exact rfl)) rfl (by simp only [go_sem, seval, hb_1205T, hb_1225F]; exact rfl) ?_
                refine AL_gt' (guard_true' rfl rfl (by exact rfl) (by exact rfl)) rfl (by simp only [go_sem, seval, hb_1205T, hb_1225F]; exact rfl) ?_
                by_cases hb_1226 : (t19_1177 == 0) = true
                · rw [if_pos hb_1226] at h
                  refine AL_known (d := 48) (v := .p (.bool true)) (by simp only [go_sem, seval, hb_1205T, hb_1225F, hb_1226]) ?_
                  refine AL_skips (by exact rfl) ?_
                  refine AL_gt' (guard_true' rfl rfl (by exact rfl) (by exact rfl)) rfl (by simp only [go_sem, seval, hb_1205T, hb_1225F, hb_1226]; exact rfl) ?_
                  refine AL_gt' (guard_true' rfl rfl (by exact rfl) (by exact rfl)) rfl (by simp only [go_sem, seval, hb_1205T, hb_1225F, hb_1226]; exact rfl) ?_
                  refine AL_skips (by exact rfl) ?_
                  refine AL_gt' (guard_true' rfl rfl (by exact rfl) (by exact rfl)) rfl (by simp only [go_sem, seval, hb_1205T, hb_1225F, hb_1226]; exact rfl) ?_
                  refine AL_upto (by exact rfl) (by simp only [go_sem, seval, hb_1205T, hb_1225F, hb_1226]; exact rfl) ?_
                  refine AL_nil ?_
                  refine thenA_n ?_
                  refine awp_ct (by simp only [go_sem, seval, hb_1205T, hb_1225F, hb_1226]) ?_
                  refine awp_seq ?_
                  refine awp_region ?_
                  refine AL_upto (by exact rfl) (by simp only [go_sem, seval, hb_1205T, hb_1225F, hb_1226]; exact rfl) ?_
                  refine AL_nil ?_
                  refine thenA_n ?_
                  refine awp_ret ?_
                  refine blockA_ret ?_
                  refine thenA_ret ?_
                  cases h
                  refine ⟨rfl, ?_⟩
                  refine retQ_ret (by simp only [Try.results64]; simp only [go_sem, seval, hb_1205T, hb_1225F, hb_1226]; exact rfl) ?_
                  simp only [go_sem, seval, hb_1205T, hb_1225F, hb_1226]
                  all_goals ((repeat' refine And.intro ?_ ?_) <;> first | rfl | (simp; done) | (simp; rfl) | (simp [*]; done) | (simp [*]; rfl))
                · rw [if_neg hb_1226] at h
                  have hb_1226F := Bool.eq_false_iff.2 hb_1226
                  refine AL_known (d := 48) (v := .p (.bool false)) (by simp only [go_sem, seval, hb_1205T, hb_1225F, hb_1226F]) ?_
                  refine AL_gt' (guard_true' rfl rfl (by exact rfl) (by exact rfl)) rfl (by simp only [go_sem, seval, hb_1205T, hb_1225F, hb_1226F]; exact rfl) ?_
                  refine AL_gt' (guard_true' rfl rfl (by exact rfl) (by exact rfl)) rfl (by simp only [go_sem, seval, hb_1205T, hb_1225F, hb_1226F]; exact rfl) ?_
                  refine AL_gt' (guard_true' rfl rfl (by exact rfl) (by exact rfl)) rfl (by simp only [go_sem, seval, hb_1205T, hb_1225F, hb_1226F]; exact rfl) ?_
                  refine AL_gt' (guard_true' rfl rfl (by exact rfl) (by exact rfl)) rfl (by simp only [go_sem, seval, hb_1205T, hb_1225F, hb_1226F]; exact rfl) ?_
                  by_cases hb_1227 : ((c_1208.toNat : Nat) : Int) < 48
                  · rw [if_pos hb_1227] at h
                    have hb_1227T := eq_true hb_1227
                    refine AL_known (d := 52) (v := .p (.bool true)) (by simp only [go_sem, seval, hb_1205T, hb_1225F, hb_1226F, hb_1227T]) ?_
                    refine AL_skips (by exact rfl) ?_
                    refine AL_gt' (guard_true' rfl rfl (by exact rfl) (by exact rfl)) rfl (by simp only [go_sem, seval, hb_1205T, hb_1225F, hb_1226F, hb_1227T]; exact rfl) ?_
                    refine AL_upto (by exact rfl) (by simp only [go_sem, seval, hb_1205T, hb_1225F, hb_1226F, hb_1227T]; exact rfl) ?_
                    refine AL_nil ?_
                    refine thenA_n ?_
                    refine awp_ct (by simp only [go_sem, seval, hb_1205T, hb_1225F, hb_1226F, hb_1227T]) ?_
                    refine awp_seq ?_
                    refine awp_region ?_
                    refine AL_upto (by exact rfl) (by simp only [go_sem, seval, hb_1205T, hb_1225F, hb_1226F, hb_1227T]; exact rfl) ?_
                    refine AL_nil ?_
                    refine thenA_n ?_
                    refine awp_ret ?_
                    refine blockA_ret ?_
                    refine thenA_ret ?_
                    cases h
                    refine ⟨rfl, ?_⟩
                    refine retQ_ret (by simp only [Try.results64]; simp only [go_sem, seval, hb_1205T, hb_1225F, hb_1226F, hb_1227T]; exact rfl) ?_
                    simp only [go_sem, seval, hb_1205T, hb_1225F, hb_1226F, hb_1227T]
                    all_goals ((repeat' refine And.intro ?_ ?_) <;> first | rfl | (simp; done) | (simp; rfl) | (simp [*]; done) | (simp [*]; rfl))
                  · rw [if_neg hb_1227] at h
                    have hb_1227T := eq_false hb_1227
                    refine AL_known (d := 52) (v := .p (.bool false)) (by simp only [go_sem, seval, hb_1205T, hb_1225F, hb_1226F, hb_1227T]) ?_
                    refine AL_gt' (guard_true' rfl rfl (by exact rfl) (by exact rfl)) rfl (by simp only [go_sem, seval, hb_1205T, hb_1225F, hb_1226F, hb_1227T]; exact rfl) ?_
                    refine AL_gt' (guard_true' rfl rfl (by exact rfl) (by exact rfl)) rfl (by simp only [go_sem, seval, hb_1205T, hb_1225F, hb_1226F, hb_1227T]; exact rfl) ?_
                    refine AL_gt' (guard_true' rfl rfl (by exact rfl) (by exact rfl)) rfl (by simp only [go_sem, seval, hb_1205T, hb_1225F, hb_1226F, hb_1227T]; exact rfl) ?_
                    refine AL_upto (by exact rfl) (by simp only [go_sem, seval, hb_1205T, hb_1225F, hb_1226F, hb_1227T]; exact rfl) ?_
                    refine AL_nil ?_
                    refine thenA_n ?_
                    by_cases hb_1228 : ((c_1208.toNat : Nat) : Int) > 57
                    · rw [if_pos hb_1228] at h
                      have hb_1228T := eq_true hb_1228
                      refine awp_ct (by simp only [go_sem, seval, hb_1205T, hb_1225F, hb_1226F, hb_1227T, hb_1228T]) ?_
                      refine awp_seq ?_
                      refine awp_region ?_
                      refine AL_upto (by exact rfl) (by simp only [go_sem, seval, hb_1205T, hb_1225F, hb_1226F, hb_1227T, hb_1228T]; exact rfl) ?_
                      refine AL_nil ?_
                      refine thenA_n ?_
                      refine awp_ret ?_
                      refine blockA_ret ?_
                      refine thenA_ret ?_
                      cases h
                      refine ⟨rfl, ?_⟩
                      refine retQ_ret (by simp only [Try.results64]; simp only [go_sem, seval, hb_1205T, hb_1225F, hb_1226F, hb_1227T, hb_1228T]; exact rfl) ?_
                      simp only [go_sem, seval, hb_1205T, hb_1225F, hb_1226F, hb_1227T, hb_1228T]
                      all_goals ((repeat' refine And.intro ?_ ?_) <;> first | rfl | (simp; done) | (simp; rfl) | (simp [*]; done) | (simp [*]; rfl))
                    · rw [if_neg hb_1228] at h
                      have hb_1228T := eq_false hb_1228
                      refine awp_cf (by simp only [go_sem, seval, hb_1205T, hb_1225F, hb_1226F, hb_1227T, hb_1228T]) ?_
                      refine awp_skip ?_
                      refine blockA_n ?_
                      refine thenA_n ?_
                      refine awp_region ?_
                      refine AL_upto (by exact rfl) (by simp only [go_sem, seval, hb_1205T, hb_1225F, hb_1226F, hb_1227T, hb_1228T]; exact rfl) ?_
                      refine AL_nil ?_
                      cases h
                      refine ⟨rfl, ?_⟩
                      simp only [go_sem, seval, hb_1205T, hb_1225F, hb_1226F, hb_1227T, hb_1228T]
                      all_goals ((repeat' refine And.intro ?_ ?_) <;> first | rfl | (simp; done) | (simp; rfl) | (simp [*]; done) | (simp [*]; rfl))
          · rw [if_neg hb_1205] at h
            have hb_1205T := eq_false hb_1205
            refine awp_cf (by simp only [go_sem, seval, hb_1205T]) ?_
            refine awp_exit ?_
            refine thenA_exit ?_
            cases h
            refine ⟨rfl, ?_⟩
            simp only [go_sem, seval, hb_1205T]
            all_goals ((repeat' refine And.intro ?_ ?_) <;> first | rfl | (simp; done) | (simp; rfl) | (simp [*]; done) | (simp [*]; rfl))
        · intro e s' hT
          rcases o_1230 with ⟨⟩ | r_1232
          · try simp only at h
            try simp only at hT
            obtain ⟨rfl, hle⟩ := hT
            refine Wk.to hle ?_
            clear hle
            refine blockA_here ?_
            refine thenA_n ?_
            refine awp_seq ?_
            refine awp_region ?_
            refine AL_upto (by exact rfl) (by simp only [go_sem, seval, hb_1151F, hb_1152T, hb_1153F]; exact rfl) ?_
            refine AL_nil ?_
            refine thenA_n ?_
            refine awp_ret ?_
            cases h
            refine retQ_ret (by simp only [Try.results64]; simp only [go_sem, seval, hb_1151F, hb_1152T, hb_1153F]; exact rfl) ?_
            simp only [go_sem, seval, hb_1151F, hb_1152T, hb_1153F]
            all_goals ((repeat' refine And.intro ?_ ?_) <;> first | rfl | (simp; done) | (simp; rfl) | (simp [*]; done) | (simp [*]; rfl))
          · try simp only at h
            try simp only at hT
            obtain ⟨rfl, hq⟩ := hT
            refine Wk.now ?_
            refine blockA_ret ?_
            refine thenA_ret ?_
            cases h
            exact hq
end Go.Proofs.Ytdmddoljldjjeaa
set_option linter.unusedVariables false
set_option linter.unusedSimpArgs false
namespace Go.Proofs.Ytdmddoljldjjeaa
open Go Go.Ab
set_option maxHeartbeats 4000000 in
theorem slices_Index_string_con (s_1236 : List (List UInt8)) (v_1237 : List UInt8) (r_1259 : Int) (h : slices_Index_string s_1236 v_1237 = some r_1259) : Con Try.prog 84 [(.slc (List.map PV.str s_1236)), (.str v_1237)] (.int .i64 r_1259) := by
  refine ⟨Try.call84, ?_⟩
  refine pure_of_awp Try.func84 rfl Try.ntmps84 (by simp) fun X w => ?_
  show AWp _ _ _ ⟨[(0, .p (.slc (List.map PV.str s_1236))), (1, .p (.str v_1237))], []⟩
  simp only [slices_Index_string] at h
  refine awp_seq ?_
  refine awp_region ?_
  refine AL_upto (by exact rfl) (by simp only [go_sem, seval]; exact rfl) ?_
  refine AL_nil ?_
  refine thenA_n ?_
  refine awp_seq ?_
  refine awp_seq ?_
  refine awp_region ?_
  refine AL_upto (by exact rfl) (by simp only [go_sem, seval]; exact rfl) ?_
  refine AL_nil ?_
  refine thenA_n ?_
  refine awp_block ?_
  obtain ⟨o_1254, hL_1255, h⟩ := Option.bind_eq_some_iff.1 h
  refine awp_loop_L (fun (s : Int) => ⟨[(0, .p (.slc (List.map PV.str s_1236))), (1, .p (.str v_1237)), (7, .p (.int .i64 (s_1236.length : Int))), (8, .p (.int .i64 s))], []⟩) (fun (o : (Unit) ⊕ (Int)) (e : Exit) (s' : St) => match o with | .inl o_1257 => e = (.exit 0) ∧ Le ⟨Try.prog, Try.f84.ntmps, 0, X, [], fun _ => none, w⟩ s' ⟨[], []⟩ | .inr o_1258 => e = .ret ∧ retQ Try.prog Try.f84 (.int .i64 o_1258) .ret s') (by intro o s hT; rcases o with _ | _ <;> (have hh := hT.1; cases hh)) hL_1255 (by simp only [go_sem, seval]; all_goals ((repeat' refine And.intro ?_ ?_) <;> first | rfl | (simp; done) | (simp; rfl) | (simp [*]; done) | (simp [*]; rfl))) ?_ ?_
  · clear h
    intro t8_1243 x h
    simp only [slices_Index_string_l1] at h
    show AWp _ _ _ ⟨[(0, .p (.slc (List.map PV.str s_1236))), (1, .p (.str v_1237)), (7, .p (.int .i64 (s_1236.length : Int))), (8, .p (.int .i64 t8_1243))], []⟩
    refine awp_seq ?_
    refine awp_region ?_
    refine AL_upto (by exact rfl) (by simp only [go_sem, seval]; exact rfl) ?_
    refine AL_nil ?_
    refine thenA_n ?_
    refine awp_seq ?_
    by_cases hb_1250 : t8_1243 < (s_1236.length : Int)
    · rw [if_pos hb_1250] at h
      have hb_1250T := eq_true hb_1250
      refine awp_ct (by simp only [go_sem, seval, hb_1250T]) ?_
      refine awp_skip ?_
      refine thenA_n ?_
      refine awp_seq ?_
      refine awp_block ?_
      refine awp_seq ?_
      refine awp_region ?_
      refine AL_upto (by exact rfl) (by simp only [go_sem, seval, hb_1250T]; exact rfl) ?_
      refine AL_nil ?_
      refine thenA_n ?_
      refine awp_seq ?_
      refine awp_region ?_
      obtain ⟨x_1251, hx_1252, h⟩ := Option.bind_eq_some_iff.1 h
      obtain ⟨hx_1252a, hx_1252, hx_1252b⟩ := idx_some hx_1252
      have hx_1252A := eq_true hx_1252a
      have hx_1252B := eq_true hx_1252b
      refine AL_upto (by exact rfl) (by simp only [go_sem, seval, hb_1250T, hx_1252, hx_1252A, hx_1252B]; exact rfl) ?_
      refine AL_nil ?_
      refine thenA_n ?_
      by_cases hb_1253 : (v_1237 == x_1251) = true
      · rw [if_pos hb_1253] at h
        refine awp_ct (by simp only [go_sem, seval, hb_1250T, hb_1253]) ?_
        refine awp_seq ?_
        refine awp_region ?_
        refine AL_upto (by exact rfl) (by simp only [go_sem, seval, hb_1250T, hb_1253]; exact rfl) ?_
        refine AL_nil ?_
        refine thenA_n ?_
        refine awp_ret ?_
        refine blockA_ret ?_
        refine thenA_ret ?_
        cases h
        refine ⟨rfl, ?_⟩
        refine retQ_ret (by simp only [Try.results84]; simp only [go_sem, seval, hb_1250T, hb_1253]; exact rfl) ?_
        simp only [go_sem, seval, hb_1250T, hb_1253]
        all_goals ((repeat' refine And.intro ?_ ?_) <;> first | rfl | (simp; done) | (simp; rfl) | (simp [*]; done) | (simp [*]; rfl))
      · rw [if_neg hb_1253] at h
        have hb_1253F := Bool.eq_false_iff.2 hb_1253
        refine awp_cf (by simp only [go_sem, seval, hb_1250T, hb_1253F]) ?_
        refine awp_skip ?_
        refine blockA_n ?_
        refine thenA_n ?_
        refine awp_region ?_
        refine AL_upto (by exact rfl) (by simp only [go_sem, seval, hb_1250T, hb_1253F]; exact rfl) ?_
        refine AL_nil ?_
        cases h
        refine ⟨rfl, ?_⟩
        simp only [go_sem, seval, hb_1250T, hb_1253F]
        all_goals ((repeat' refine And.intro ?_ ?_) <;> first | rfl | (simp; done) | (simp; rfl) | (simp [*]; done) | (simp [*]; rfl))
    · rw [if_neg hb_1250] at h
      have hb_1250T := eq_false hb_1250
      refine awp_cf (by simp only [go_sem, seval, hb_1250T]) ?_
      refine awp_exit ?_
      refine thenA_exit ?_
      cases h
      refine ⟨rfl, ?_⟩
      simp only [go_sem, seval, hb_1250T]
      all_goals ((repeat' refine And.intro ?_ ?_) <;> first | rfl | (simp; done) | (simp; rfl) | (simp [*]; done) | (simp [*]; rfl))
  · intro e s' hT
    rcases o_1254 with ⟨⟩ | r_1256
    · try simp only at h
      try simp only at hT
      obtain ⟨rfl, hle⟩ := hT
      refine Wk.to hle ?_
      clear hle
      refine blockA_here ?_
      refine thenA_n ?_
      refine awp_seq ?_
      refine awp_region ?_
      refine AL_upto (by exact rfl) (by simp only [go_sem, seval]; exact rfl) ?_
      refine AL_nil ?_
      refine thenA_n ?_
      refine awp_ret ?_
      cases h
      refine retQ_ret (by simp only [Try.results84]; simp only [go_sem, seval]; exact rfl) ?_
      simp only [go_sem, seval]
      all_goals ((repeat' refine And.intro ?_ ?_) <;> first | rfl | (simp; done) | (simp; rfl) | (simp [*]; done) | (simp [*]; rfl))
    · try simp only at h
      try simp only at hT
      obtain ⟨rfl, hq⟩ := hT
      refine Wk.now ?_
      refine blockA_ret ?_
      refine thenA_ret ?_
      cases h
      exact hq
end Go.Proofs.Ytdmddoljldjjeaa
set_option linter.unusedVariables false
set_option linter.unusedSimpArgs false
namespace Go.Proofs.Ytdmddoljldjjeaa
open Go Go.Ab
set_option maxHeartbeats 4000000 in
theorem slices_Contains_string_con (s_1260 : List (List UInt8)) (v_1261 : List UInt8) (r_1264 : Bool) (h : slices_Contains_string s_1260 v_1261 = some r_1264) : Con Try.prog 65 [(.slc (List.map PV.str s_1260)), (.str v_1261)] (.bool r_1264) := by
  refine ⟨Try.call65, ?_⟩
  refine pure_of_awp Try.func65 rfl Try.ntmps65 (by simp) fun X w => ?_
  show AWp _ _ _ ⟨[(0, .p (.slc (List.map PV.str s_1260))), (1, .p (.str v_1261))], []⟩
  simp only [slices_Contains_string] at h
  refine awp_seq ?_
  refine awp_region ?_
  refine AL_upto (by exact rfl) (by simp only [go_sem, seval]; exact rfl) ?_
  refine AL_nil ?_
  refine thenA_n ?_
  refine awp_seq ?_
  refine awp_region ?_
  refine AL_upto (by exact rfl) (by simp only [go_sem, seval]; exact rfl) ?_
  obtain ⟨r_1262, hr_1263, h⟩ := Option.bind_eq_some_iff.1 h
  refine AL_con' rfl (guard_none rfl) rfl (by simp only [go_sem, seval]; exact rfl) (by simp only [go_sem, seval]; all_goals ((repeat' refine And.intro ?_ ?_) <;> first | rfl | (simp; done) | (simp; rfl) | (simp [*]; done) | (simp [*]; rfl))) (slices_Index_string_con s_1260 v_1261 _ hr_1263) (.inr rfl) rfl ?_
  refine AL_upto (by exact rfl) (by simp only [go_sem, seval]; exact rfl) ?_
  refine AL_nil ?_
  refine thenA_n ?_
  refine awp_ret ?_
  cases h
  refine retQ_ret (by simp only [Try.results65]; simp only [go_sem, seval]; exact rfl) ?_
  simp only [go_sem, seval]
  all_goals ((repeat' refine And.intro ?_ ?_) <;> first | rfl | (simp; done) | (simp; rfl) | (simp [*]; done) | (simp [*]; rfl))
end Go.Proofs.Ytdmddoljldjjeaa
set_option linter.unusedVariables false
set_option linter.unusedSimpArgs false
namespace Go.Proofs.Ytdmddoljldjjeaa
open Go Go.Ab
set_option maxHeartbeats 4000000 in
theorem table_validValues_1_con (v_1265 : Value) (r_1268 : Bool) (h : table_validValues_1 v_1265 = some r_1268) : Con Try.prog 85 [(encValue v_1265)] (.bool r_1268) := by
  refine ⟨Try.call85, ?_⟩
  refine pure_of_awp Try.func85 rfl Try.ntmps85 (by simp) fun X w => ?_
  show AWp _ _ _ ⟨[(0, .p (encValue v_1265))], []⟩
  simp only [table_validValues_1] at h
  refine awp_seq ?_
  refine awp_region ?_
  refine AL_upto (by exact rfl) (by simp only [go_sem, seval]; exact rfl) ?_
  refine AL_nil ?_
  refine thenA_n ?_
  refine awp_seq ?_
  refine awp_region ?_
  refine AL_upto (by exact rfl) (by simp only [go_sem, seval]; exact rfl) ?_
  obtain ⟨r_1266, hr_1267, h⟩ := Option.bind_eq_some_iff.1 h
  refine AL_con' rfl (guard_none rfl) rfl (by simp only [go_sem, seval]; exact rfl) (by simp only [go_sem, seval]; all_goals ((repeat' refine And.intro ?_ ?_) <;> first | rfl | (simp; done) | (simp; rfl) | (simp [*]; done) | (simp [*]; rfl))) (value_Valid_con v_1265 _ hr_1267) (.inr rfl) rfl ?_
  refine AL_upto (by exact rfl) (by simp only [go_sem, seval]; exact rfl) ?_
  refine AL_nil ?_
  refine thenA_n ?_
  refine awp_ret ?_
  cases h
  refine retQ_ret (by simp only [Try.results85]; simp only [go_sem, seval]; exact rfl) ?_
  simp only [go_sem, seval]
  all_goals ((repeat' refine And.intro ?_ ?_) <;> first | rfl | (simp; done) | (simp; rfl) | (simp [*]; done) | (simp [*]; rfl))
end Go.Proofs.Ytdmddoljldjjeaa
set_option linter.unusedVariables false
set_option linter.unusedSimpArgs false
namespace Go.Proofs.Ytdmddoljldjjeaa
open Go Go.Ab
set_option maxHeartbeats 4000000 in
theorem table_validValues_con (l_1269 : List Value) (r_1273 : Bool) (h : table_validValues l_1269 = some r_1273) : Con Try.prog 66 [(.slc (List.map encValue l_1269))] (.bool r_1273) := by
  refine ⟨Try.call66, ?_⟩
  refine pure_of_awp Try.func66 rfl Try.ntmps66 (by simp) fun X w => ?_
  show AWp _ _ _ ⟨[(0, .p (.slc (List.map encValue l_1269)))], []⟩
  simp only [table_validValues] at h
  refine awp_seq ?_
  refine awp_region ?_
  refine AL_upto (by exact rfl) (by simp only [go_sem, seval]; exact rfl) ?_
  refine AL_nil ?_
  refine thenA_n ?_
  refine awp_seq ?_
  refine awp_region ?_
  refine AL_upto (by exact rfl) (by simp only [go_sem, seval]; exact rfl) ?_
  obtain ⟨r_1271, hr_1272, h⟩ := Option.bind_eq_some_iff.1 h
  refine AL_con' rfl (guard_none rfl) rfl (by simp only [go_sem, seval]; exact rfl) (by simp only [go_sem, seval]; all_goals ((repeat' refine And.intro ?_ ?_) <;> first | rfl | (simp; done) | (simp; rfl) | (simp [*]; done) | (simp [*]; rfl))) (slices_ContainsFunc_Value_con l_1269 (fun (y_1270 : Value) => table_validValues_1 y_1270) 85 [] (fun y_1270 r h => table_validValues_1_con y_1270 r h) _ hr_1272) (.inr rfl) rfl ?_
  refine AL_upto (by exact rfl) (by simp only [go_sem, seval]; exact rfl) ?_
  refine AL_nil ?_
  refine thenA_n ?_
  refine awp_ret ?_
  cases h
  refine retQ_ret (by simp only [Try.results66]; simp only [go_sem, seval]; exact rfl) ?_
  simp only [go_sem, seval]
  all_goals ((repeat' refine And.intro ?_ ?_) <;> first | rfl | (simp; done) | (simp; rfl) | (simp [*]; done) | (simp [*]; rfl))
end Go.Proofs.Ytdmddoljldjjeaa
set_option linter.unusedVariables false
set_option linter.unusedSimpArgs false
namespace Go.Proofs.Ytdmddoljldjjeaa
open Go Go.Ab
set_option maxHeartbeats 4000000 in
theorem table_Valid_con (t_1274 : Table) (r_1372 : Int) (h : table_Valid t_1274 = some r_1372) : Con Try.prog 40 [(encTable t_1274)] (.int .i64 r_1372) := by
  refine ⟨Try.call40, ?_⟩
  refine pure_of_awp Try.func40 rfl Try.ntmps40 (by simp) fun X w => ?_
  show AWp _ _ _ ⟨[(0, .p (encTable t_1274))], []⟩
  simp only [table_Valid] at h
  refine awp_seq ?_
  refine awp_region ?_
  refine AL_upto (by exact rfl) (by simp only [go_sem, seval]; exact rfl) ?_
  refine AL_nil ?_
  refine thenA_n ?_
  refine awp_seq ?_
  refine awp_seq ?_
  refine awp_region ?_
  refine AL_upto (by exact rfl) (by simp only [go_sem, seval]; exact rfl) ?_
  obtain ⟨r_1275, hr_1276, h⟩ := Option.bind_eq_some_iff.1 h
  refine AL_con' rfl (guard_none rfl) rfl (by simp only [go_sem, seval]; exact rfl) (by simp only [go_sem, seval]; all_goals ((repeat' refine And.intro ?_ ?_) <;> first | rfl | (simp; done) | (simp; rfl) | (simp [*]; done) | (simp [*]; rfl))) (table_isName_con t_1274.Name _ hr_1276) (.inr rfl) rfl ?_
  refine AL_upto (by exact rfl) (by simp only [go_sem, seval]; exact rfl) ?_
  refine AL_nil ?_
  refine thenA_n ?_
  by_cases hb_1277 : r_1275 = true
  · rw [if_pos hb_1277] at h
    refine awp_cf (by simp only [go_sem, seval, hb_1277]) ?_
    refine awp_skip ?_
    refine thenA_n ?_
    refine awp_seq ?_
    refine awp_seq ?_
    refine awp_region ?_
    refine AL_upto (by exact rfl) (by simp only [go_sem, seval, hb_1277]; exact rfl) ?_
    by_cases hb_1278 : (t_1274.Attrs.length : Int) > 16
    · rw [if_pos hb_1278] at h
      have hb_1278T := eq_true hb_1278
      refine AL_known (d := 16) (v := .p (.bool true)) (by simp only [go_sem, seval, hb_1277, hb_1278T]) ?_
      refine AL_skips (by exact rfl) ?_
      refine AL_upto (by exact rfl) (by simp only [go_sem, seval, hb_1277, hb_1278T]; exact rfl) ?_
      refine AL_nil ?_
      refine thenA_n ?_
      refine awp_ct (by simp only [go_sem, seval, hb_1277, hb_1278T]) ?_
      refine awp_seq ?_
      refine awp_region ?_
      refine AL_upto (by exact rfl) (by simp only [go_sem, seval, hb_1277, hb_1278T]; exact rfl) ?_
      refine AL_nil ?_
      refine thenA_n ?_
      refine awp_ret ?_
      refine thenA_ret ?_
      cases h
      refine retQ_ret (by simp only [Try.results40]; simp only [go_sem, seval, hb_1277, hb_1278T]; exact rfl) ?_
      simp only [go_sem, seval, hb_1277, hb_1278T]
      all_goals ((repeat' refine And.intro ?_ ?_) <;> first | rfl | (simp; done) | (simp; rfl) | (simp [*]; done) | (simp [*]; rfl))
    · rw [if_neg hb_1278] at h
      have hb_1278T := eq_false hb_1278
      refine AL_known (d := 16) (v := .p (.bool false)) (by simp only [go_sem, seval, hb_1277, hb_1278T]) ?_
      refine AL_gt' (guard_true' rfl rfl (by exact rfl) (by exact rfl)) rfl (by simp only [go_sem, seval, hb_1277, hb_1278T]; exact rfl) ?_
      refine AL_gt' (guard_true' rfl rfl (by exact rfl) (by exact rfl)) rfl (by simp only [go_sem, seval, hb_1277, hb_1278T]; exact rfl) ?_
      refine AL_gt' (guard_true' rfl rfl (by exact rfl) (by exact rfl)) rfl (by simp only [go_sem, seval, hb_1277, hb_1278T]; exact rfl) ?_
      refine AL_gt' (guard_true' rfl rfl (by exact rfl) (by exact rfl)) rfl (by simp only [go_sem, seval, hb_1277, hb_1278T]; exact rfl) ?_
      refine AL_upto (by exact rfl) (by simp only [go_sem, seval, hb_1277, hb_1278T]; exact rfl) ?_
      refine AL_nil ?_
      refine thenA_n ?_
      by_cases hb_1279 : (t_1274.Rows.length : Int) > 1000
      · rw [if_pos hb_1279] at h
        have hb_1279T := eq_true hb_1279
        refine awp_ct (by simp only [go_sem, seval, hb_1277, hb_1278T, hb_1279T]) ?_
        refine awp_seq ?_
        refine awp_region ?_
        refine AL_upto (by exact rfl) (by simp only [go_sem, seval, hb_1277, hb_1278T, hb_1279T]; exact rfl) ?_
        refine AL_nil ?_
        refine thenA_n ?_
        refine awp_ret ?_
        refine thenA_ret ?_
        cases h
        refine retQ_ret (by simp only [Try.results40]; simp only [go_sem, seval, hb_1277, hb_1278T, hb_1279T]; exact rfl) ?_
        simp only [go_sem, seval, hb_1277, hb_1278T, hb_1279T]
        all_goals ((repeat' refine And.intro ?_ ?_) <;> first | rfl | (simp; done) | (simp; rfl) | (simp [*]; done) | (simp [*]; rfl))
      · rw [if_neg hb_1279] at h
        have hb_1279T := eq_false hb_1279
        refine awp_cf (by simp only [go_sem, seval, hb_1277, hb_1278T, hb_1279T]) ?_
        refine awp_skip ?_
        refine thenA_n ?_
        refine awp_seq ?_
        refine awp_seq ?_
        refine awp_region ?_
        refine AL_upto (by exact rfl) (by simp only [go_sem, seval, hb_1277, hb_1278T, hb_1279T]; exact rfl) ?_
        refine AL_nil ?_
        refine thenA_n ?_
        refine awp_block ?_
        obtain ⟨o_1327, hL_1328, h⟩ := Option.bind_eq_some_iff.1 h
        refine awp_loop_L (fun (s : Int) => ⟨[(1, .loc 1 1 0 0), (23, .p (.slc (List.map PV.str t_1274.Attrs))), (24, .p (.int .i64 (t_1274.Attrs.length : Int))), (25, .p (.int .i64 s))], [(1, .arr 52 3 1 [.p (encTable t_1274)])]⟩) (fun (o : (Unit) ⊕ (Int)) (e : Exit) (s' : St) => match o with | .inl o_1370 => e = (.exit 0) ∧ Le ⟨Try.prog, Try.f40.ntmps, 0, X, [], fun _ => none, w⟩ s' ⟨[(1, .loc 1 1 0 0)], [(1, .arr 52 3 1 [.p (encTable t_1274)])]⟩ | .inr o_1371 => e = .ret ∧ retQ Try.prog Try.f40 (.int .i64 o_1371) .ret s') (by intro o s hT; rcases o with _ | _ <;> (have hh := hT.1; cases hh)) hL_1328 (by simp only [go_sem, seval, hb_1277, hb_1278T, hb_1279T]; all_goals ((repeat' refine And.intro ?_ ?_) <;> first | rfl | (simp; done) | (simp; rfl) | (simp [*]; done) | (simp [*]; rfl))) ?_ ?_
        · clear h
          intro t25_1294 x h
          simp only [table_Valid_l1] at h
          show AWp _ _ _ ⟨[(1, .loc 1 1 0 0), (23, .p (.slc (List.map PV.str t_1274.Attrs))), (24, .p (.int .i64 (t_1274.Attrs.length : Int))), (25, .p (.int .i64 t25_1294))], [(1, .arr 52 3 1 [.p (encTable t_1274)])]⟩
          refine awp_seq ?_
          refine awp_region ?_
          refine AL_upto (by exact rfl) (by simp only [go_sem, seval]; exact rfl) ?_
          refine AL_nil ?_
          refine thenA_n ?_
          refine awp_seq ?_
          by_cases hb_1312 : t25_1294 < (t_1274.Attrs.length : Int)
          · rw [if_pos hb_1312] at h
            have hb_1312T := eq_true hb_1312
            refine awp_ct (by simp only [go_sem, seval, hb_1312T]) ?_
            refine awp_skip ?_
            refine thenA_n ?_
            refine awp_seq ?_
            refine awp_block ?_
            refine awp_seq ?_
            refine awp_region ?_
            obtain ⟨x_1315, hx_1316, h⟩ := Option.bind_eq_some_iff.1 h
            obtain ⟨hx_1316a, hx_1316, hx_1316b⟩ := idx_some hx_1316
            have hx_1316A := eq_true hx_1316a
            have hx_1316B := eq_true hx_1316b
            refine AL_upto (by exact rfl) (by simp only [go_sem, seval, hb_1312T, hx_1316, hx_1316A, hx_1316B]; exact rfl) ?_
            refine AL_nil ?_
            refine thenA_n ?_
            refine awp_seq ?_
            refine awp_region ?_
            refine AL_upto (by exact rfl) (by simp only [go_sem, seval, hb_1312T]; exact rfl) ?_
            obtain ⟨r_1317, hr_1318, h⟩ := Option.bind_eq_some_iff.1 h
            refine AL_con' rfl (guard_none rfl) rfl (by simp only [go_sem, seval, hb_1312T]; exact rfl) (by simp only [go_sem, seval, hb_1312T]; all_goals ((repeat' refine And.intro ?_ ?_) <;> first | rfl | (simp; done) | (simp; rfl) | (simp [*]; done) | (simp [*]; rfl))) (table_isName_con x_1315 _ hr_1318) (.inr rfl) rfl ?_
            refine AL_upto (by exact rfl) (by simp only [go_sem, seval, hb_1312T]; exact rfl) ?_
            by_cases hb_1319 : r_1317 = true
            · rw [if_pos hb_1319] at h
              refine AL_known (d := 33) (v := .p (.bool false)) (by simp only [go_sem, seval, hb_1312T, hb_1319]) ?_
              refine AL_gt' (guard_true' rfl rfl (by exact rfl) (by exact rfl)) rfl (by simp only [go_sem, seval, hb_1312T, hb_1319]; exact rfl) ?_
              refine AL_gt' (guard_true' rfl rfl (by exact rfl) (by exact rfl)) rfl (by simp only [go_sem, seval, hb_1312T, hb_1319]; exact rfl) ?_
              refine AL_gt' (guard_true' rfl rfl (by exact rfl) (by exact rfl)) rfl (by simp only [go_sem, seval, hb_1312T, hb_1319]; exact rfl) ?_
              obtain ⟨hc_1322, h⟩ := ite_some h
              have hc_1322T := eq_true hc_1322
              obtain ⟨hc_1323, h⟩ := ite_some h
              have hc_1323T := eq_true hc_1323
              refine AL_gt' (guard_true' rfl rfl (by exact rfl) (by exact rfl)) rfl (by simp only [go_sem, seval, hb_1312T, hb_1319, hc_1322T, hc_1323T]; exact rfl) ?_
              refine AL_gt' (guard_true' rfl rfl (by exact rfl) (by exact rfl)) rfl (by simp only [go_sem, seval, hb_1312T, hb_1319]; exact rfl) ?_
              obtain ⟨r_1324, hr_1325, h⟩ := Option.bind_eq_some_iff.1 h
              refine AL_con' rfl (guard_true' rfl rfl (by exact rfl) (by exact rfl)) rfl (by simp only [go_sem, seval, hb_1312T, hb_1319]; exact rfl) (by simp only [go_sem, seval, hb_1312T, hb_1319]; all_goals ((repeat' refine And.intro ?_ ?_) <;> first | rfl | (simp; done) | (simp; rfl) | (simp [*]; done) | (simp [*]; rfl))) (slices_Contains_string_con (t_1274.Attrs.take (t25_1294.toNat)) x_1315 _ hr_1325) (.inr rfl) rfl ?_
              refine AL_upto (by exact rfl) (by simp only [go_sem, seval, hb_1312T, hb_1319]; exact rfl) ?_
              refine AL_nil ?_
              refine thenA_n ?_
              by_cases hb_1326 : r_1324 = true
              · rw [if_pos hb_1326] at h
                refine awp_ct (by simp only [go_sem, seval, hb_1312T, hb_1319, hb_1326]) ?_
                refine awp_seq ?_
                refine awp_region ?_
                refine AL_upto (by exact rfl) (by simp only [go_sem, seval, hb_1312T, hb_1319, hb_1326]; exact rfl) ?_
                refine AL_nil ?_
                refine thenA_n ?_
                refine awp_ret ?_
                refine blockA_ret ?_
                refine thenA_ret ?_
                cases h
                refine ⟨rfl, ?_⟩
                refine retQ_ret (by simp only [Try.results40]; simp only [go_sem, seval, hb_1312T, hb_1319, hb_1326]; exact rfl) ?_
                simp only [go_sem, seval, hb_1312T, hb_1319, hb_1326]
                all_goals ((repeat' refine And.intro ?_ ?_) <;> first | rfl | (simp; done) | (simp; rfl) | (simp [*]; done) | (simp [*]; rfl))
              · rw [if_neg hb_1326] at h
                have hb_1326F := Bool.eq_false_iff.2 hb_1326
                refine awp_cf (by simp only [go_sem, seval, hb_1312T, hb_1319, hb_1326F]) ?_
                refine awp_skip ?_
                refine blockA_n ?_
                refine thenA_n ?_
                refine awp_region ?_
                refine AL_upto (by exact rfl) (by simp only [go_sem, seval, hb_1312T, hb_1319, hb_1326F]; exact rfl) ?_
                refine AL_nil ?_
                cases h
                refine ⟨rfl, ?_⟩
                simp only [go_sem, seval, hb_1312T, hb_1319, hb_1326F]
                all_goals ((repeat' refine And.intro ?_ ?_) <;> first | rfl | (simp; done) | (simp; rfl) | (simp [*]; done) | (simp [*]; rfl))
            · rw [if_neg hb_1319] at h
              have hb_1319F := Bool.eq_false_iff.2 hb_1319
              refine AL_known (d := 33) (v := .p (.bool true)) (by simp only [go_sem, seval, hb_1312T, hb_1319F]) ?_
              refine AL_skips (by exact rfl) ?_
              refine AL_upto (by exact rfl) (by simp only [go_sem, seval, hb_1312T, hb_1319F]; exact rfl) ?_
              refine AL_nil ?_
              refine thenA_n ?_
              refine awp_ct (by simp only [go_sem, seval, hb_1312T, hb_1319F]) ?_
              refine awp_seq ?_
              refine awp_region ?_
              refine AL_upto (by exact rfl) (by simp only [go_sem, seval, hb_1312T, hb_1319F]; exact rfl) ?_
              refine AL_nil ?_
              refine thenA_n ?_
              refine awp_ret ?_
              refine blockA_ret ?_
              refine thenA_ret ?_
              cases h
              refine ⟨rfl, ?_⟩
              refine retQ_ret (by simp only [Try.results40]; simp only [go_sem, seval, hb_1312T, hb_1319F]; exact rfl) ?_
              simp only [go_sem, seval, hb_1312T, hb_1319F]
              all_goals ((repeat' refine And.intro ?_ ?_) <;> first | rfl | (simp; done) | (simp; rfl) | (simp [*]; done) | (simp [*]; rfl))
          · rw [if_neg hb_1312] at h
            have hb_1312T := eq_false hb_1312
            refine awp_cf (by simp only [go_sem, seval, hb_1312T]) ?_
            refine awp_exit ?_
            refine thenA_exit ?_
            cases h
            refine ⟨rfl, ?_⟩
            simp only [go_sem, seval, hb_1312T]
            all_goals ((repeat' refine And.intro ?_ ?_) <;> first | rfl | (simp; done) | (simp; rfl) | (simp [*]; done) | (simp [*]; rfl))
        · intro e s' hT
          rcases o_1327 with ⟨⟩ | r_1369
          · try simp only at h
            try simp only at hT
            obtain ⟨rfl, hle⟩ := hT
            refine Wk.to hle ?_
            clear hle
            refine blockA_here ?_
            refine thenA_n ?_
            refine awp_seq ?_
            refine awp_region ?_
            refine AL_upto (by exact rfl) (by simp only [go_sem, seval, hb_1277, hb_1278T, hb_1279T]; exact rfl) ?_
            refine AL_nil ?_
            refine thenA_n ?_
            refine awp_seq ?_
            refine awp_seq ?_
            refine awp_region ?_
            refine AL_upto (by exact rfl) (by simp only [go_sem, seval, hb_1277, hb_1278T, hb_1279T]; exact rfl) ?_
            refine AL_nil ?_
            refine thenA_n ?_
            refine awp_block ?_
            obtain ⟨o_1364, hL_1365, h⟩ := Option.bind_eq_some_iff.1 h
            refine awp_loop_L (fun (s : Int × Int) => ⟨[(1, .loc 1 1 0 0), (5, .p (.int .i64 s.1)), (43, .p (.slc (List.map encRow t_1274.Rows))), (44, .p (.int .i64 (t_1274.Rows.length : Int))), (45, .p (.int .i64 s.2))], [(1, .arr 52 3 1 [.p (encTable t_1274)])]⟩) (fun (o : (Unit) ⊕ (Int)) (e : Exit) (s' : St) => match o with | .inl o_1367 => e = (.exit 2) ∧ Le ⟨Try.prog, Try.f40.ntmps, 0, X, [], fun _ => none, w⟩ s' ⟨[], []⟩ | .inr o_1368 => e = .ret ∧ retQ Try.prog Try.f40 (.int .i64 o_1368) .ret s') (by intro o s hT; rcases o with _ | _ <;> (have hh := hT.1; cases hh)) hL_1365 (by simp only [go_sem, seval, hb_1277, hb_1278T, hb_1279T]; all_goals ((repeat' refine And.intro ?_ ?_) <;> first | rfl | (simp; done) | (simp; rfl) | (simp [*]; done) | (simp [*]; rfl))) ?_ ?_
            · clear h
              intro s x h
              obtain ⟨last_1340, t45_1341⟩ := s
              simp only [table_Valid_l2] at h
              show AWp _ _ _ ⟨[(1, .loc 1 1 0 0), (5, .p (.int .i64 last_1340)), (43, .p (.slc (List.map encRow t_1274.Rows))), (44, .p (.int .i64 (t_1274.Rows.length : Int))), (45, .p (.int .i64 t45_1341))], [(1, .arr 52 3 1 [.p (encTable t_1274)])]⟩
              refine awp_seq ?_
              refine awp_region ?_
              refine AL_upto (by exact rfl) (by simp only [go_sem, seval]; exact rfl) ?_
              refine AL_nil ?_
              refine thenA_n ?_
              refine awp_seq ?_
              by_cases hb_1354 : t45_1341 < (t_1274.Rows.length : Int)
              · rw [if_pos hb_1354] at h
                have hb_1354T := eq_true hb_1354
                refine awp_ct (by simp only [go_sem, seval, hb_1354T]) ?_
                refine awp_skip ?_
                refine thenA_n ?_
                refine awp_seq ?_
                refine awp_block ?_
                refine awp_seq ?_
                refine awp_region ?_
                obtain ⟨x_1357, hx_1358, h⟩ := Option.bind_eq_some_iff.1 h
                obtain ⟨hx_1358a, hx_1358, hx_1358b⟩ := idx_some hx_1358
                have hx_1358A := eq_true hx_1358a
                have hx_1358B := eq_true hx_1358b
                refine AL_upto (by exact rfl) (by simp only [go_sem, seval, hb_1354T, hx_1358, hx_1358A, hx_1358B]; exact rfl) ?_
                refine AL_nil ?_
                refine thenA_n ?_
                refine awp_seq ?_
                refine awp_block ?_
                refine awp_seq ?_
                refine awp_region ?_
                refine AL_upto (by exact rfl) (by simp only [go_sem, seval, hb_1354T]; exact rfl) ?_
                refine AL_nil ?_
                refine thenA_n ?_
                by_cases hb_1359 : x_1357.ID ≤ last_1340
                · rw [if_pos hb_1359] at h
                  have hb_1359T := eq_true hb_1359
                  refine awp_ct (by simp only [go_sem, seval, hb_1354T, hb_1359T]) ?_
                  refine awp_seq ?_
                  refine awp_region ?_
                  refine AL_upto (by exact rfl) (by simp only [go_sem, seval, hb_1354T, hb_1359T]; exact rfl) ?_
                  refine AL_nil ?_
                  refine thenA_n ?_
                  refine awp_ret ?_
                  refine blockA_ret ?_
                  refine thenA_ret ?_
                  refine blockA_ret ?_
                  refine thenA_ret ?_
                  cases h
                  refine ⟨rfl, ?_⟩
                  refine retQ_ret (by simp only [Try.results40]; simp only [go_sem, seval, hb_1354T, hb_1359T]; exact rfl) ?_
                  simp only [go_sem, seval, hb_1354T, hb_1359T]
                  all_goals ((repeat' refine And.intro ?_ ?_) <;> first | rfl | (simp; done) | (simp; rfl) | (simp [*]; done) | (simp [*]; rfl))
                · rw [if_neg hb_1359] at h
                  have hb_1359T := eq_false hb_1359
                  refine awp_cf (by simp only [go_sem, seval, hb_1354T, hb_1359T]) ?_
                  refine awp_seq ?_
                  refine awp_region ?_
                  refine AL_upto (by exact rfl) (by simp only [go_sem, seval, hb_1354T, hb_1359T]; exact rfl) ?_
                  refine AL_nil ?_
                  refine thenA_n ?_
                  by_cases hb_1360 : ((x_1357.Values.length : Int) != (t_1274.Attrs.length : Int)) = true
                  · rw [if_pos hb_1360] at h
                    refine awp_ct (by simp only [go_sem, seval, hb_1354T, hb_1359T, hb_1360]) ?_
                    refine awp_seq ?_
                    refine awp_region ?_
                    refine AL_upto (by exact rfl) (by simp only [go_sem, seval, hb_1354T, hb_1359T, hb_1360]; exact rfl) ?_
                    refine AL_nil ?_
                    refine thenA_n ?_
                    refine awp_ret ?_
                    refine blockA_ret ?_
                    refine thenA_ret ?_
                    refine blockA_ret ?_
                    refine thenA_ret ?_
                    cases h
                    refine ⟨rfl, ?_⟩
                    refine retQ_ret (by simp only [Try.results40]; simp only [go_sem, seval, hb_1354T, hb_1359T, hb_1360]; exact rfl) ?_
                    simp only [go_sem, seval, hb_1354T, hb_1359T, hb_1360]
                    all_goals ((repeat' refine And.intro ?_ ?_) <;> first | rfl | (simp; done) | (simp; rfl) | (simp [*]; done) | (simp [*]; rfl))
                  · rw [if_neg hb_1360] at h
                    have hb_1360F := Bool.eq_false_iff.2 hb_1360
                    refine awp_cf (by simp only [go_sem, seval, hb_1354T, hb_1359T, hb_1360F]) ?_
                    refine awp_seq ?_
                    refine awp_region ?_
                    refine AL_upto (by exact rfl) (by simp only [go_sem, seval, hb_1354T, hb_1359T, hb_1360F]; exact rfl) ?_
                    obtain ⟨r_1361, hr_1362, h⟩ := Option.bind_eq_some_iff.1 h
                    refine AL_con' rfl (guard_none rfl) rfl (by simp only [go_sem, seval, hb_1354T, hb_1359T, hb_1360F]; exact rfl) (by simp only [go_sem, seval, hb_1354T, hb_1359T, hb_1360F]; all_goals ((repeat' refine And.intro ?_ ?_) <;> first | rfl | (simp; done) | (simp; rfl) | (simp [*]; done) | (simp [*]; rfl))) (table_validValues_con x_1357.Values _ hr_1362) (.inr rfl) rfl ?_
                    refine AL_upto (by exact rfl) (by simp only [go_sem, seval, hb_1354T, hb_1359T, hb_1360F]; exact rfl) ?_
                    refine AL_nil ?_
                    refine thenA_n ?_
                    by_cases hb_1363 : r_1361 = true
                    · rw [if_pos hb_1363] at h
                      refine awp_cf (by simp only [go_sem, seval, hb_1354T, hb_1359T, hb_1360F, hb_1363]) ?_
                      refine awp_skip ?_
                      refine blockA_n ?_
                      refine thenA_n ?_
                      refine awp_region ?_
                      refine AL_upto (by exact rfl) (by simp only [go_sem, seval, hb_1354T, hb_1359T, hb_1360F, hb_1363]; exact rfl) ?_
                      refine AL_nil ?_
                      refine blockA_n ?_
                      refine thenA_n ?_
                      refine awp_region ?_
                      refine AL_upto (by exact rfl) (by simp only [go_sem, seval, hb_1354T, hb_1359T, hb_1360F, hb_1363]; exact rfl) ?_
                      refine AL_nil ?_
                      cases h
                      refine ⟨rfl, ?_⟩
                      simp only [go_sem, seval, hb_1354T, hb_1359T, hb_1360F, hb_1363]
                      all_goals ((repeat' refine And.intro ?_ ?_) <;> first | rfl | (simp; done) | (simp; rfl) | (simp [*]; done) | (simp [*]; rfl))
                    · rw [if_neg hb_1363] at h
                      have hb_1363F := Bool.eq_false_iff.2 hb_1363
                      refine awp_ct (by simp only [go_sem, seval, hb_1354T, hb_1359T, hb_1360F, hb_1363F]) ?_
                      refine awp_seq ?_
                      refine awp_region ?_
                      refine AL_upto (by exact rfl) (by simp only [go_sem, seval, hb_1354T, hb_1359T, hb_1360F, hb_1363F]; exact rfl) ?_
                      refine AL_nil ?_
                      refine thenA_n ?_
                      refine awp_ret ?_
                      refine blockA_ret ?_
                      refine thenA_ret ?_
                      refine blockA_ret ?_
                      refine thenA_ret ?_
                      cases h
                      refine ⟨rfl, ?_⟩
                      refine retQ_ret (by simp only [Try.results40]; simp only [go_sem, seval, hb_1354T, hb_1359T, hb_1360F, hb_1363F]; exact rfl) ?_
                      simp only [go_sem, seval, hb_1354T, hb_1359T, hb_1360F, hb_1363F]
                      all_goals ((repeat' refine And.intro ?_ ?_) <;> first | rfl | (simp; done) | (simp; rfl) | (simp [*]; done) | (simp [*]; rfl))
              · rw [if_neg hb_1354] at h
                have hb_1354T := eq_false hb_1354
                refine awp_cf (by simp only [go_sem, seval, hb_1354T]) ?_
                refine awp_exit ?_
                refine thenA_exit ?_
                cases h
                refine ⟨rfl, ?_⟩
                simp only [go_sem, seval, hb_1354T]
                all_goals ((repeat' refine And.intro ?_ ?_) <;> first | rfl | (simp; done) | (simp; rfl) | (simp [*]; done) | (simp [*]; rfl))
            · intro e s' hT
              rcases o_1364 with ⟨⟩ | r_1366
              · try simp only at h
                try simp only at hT
                obtain ⟨rfl, hle⟩ := hT
                refine Wk.to hle ?_
                clear hle
                refine blockA_here ?_
                refine thenA_n ?_
                refine awp_seq ?_
                refine awp_region ?_
                refine AL_upto (by exact rfl) (by simp only [go_sem, seval, hb_1277, hb_1278T, hb_1279T]; exact rfl) ?_
                refine AL_nil ?_
                refine thenA_n ?_
                refine awp_ret ?_
                cases h
                refine retQ_ret (by simp only [Try.results40]; simp only [go_sem, seval, hb_1277, hb_1278T, hb_1279T]; exact rfl) ?_
                simp only [go_sem, seval, hb_1277, hb_1278T, hb_1279T]
                all_goals ((repeat' refine And.intro ?_ ?_) <;> first | rfl | (simp; done) | (simp; rfl) | (simp [*]; done) | (simp [*]; rfl))
              · try simp only at h
                try simp only at hT
                obtain ⟨rfl, hq⟩ := hT
                refine Wk.now ?_
                refine blockA_ret ?_
                refine thenA_ret ?_
                cases h
                exact hq
          · try simp only at h
            try simp only at hT
            obtain ⟨rfl, hq⟩ := hT
            refine Wk.now ?_
            refine blockA_ret ?_
            refine thenA_ret ?_
            cases h
            exact hq
  · rw [if_neg hb_1277] at h
    have hb_1277F := Bool.eq_false_iff.2 hb_1277
    refine awp_ct (by simp only [go_sem, seval, hb_1277F]) ?_
    refine awp_seq ?_
    refine awp_region ?_
    refine AL_upto (by exact rfl) (by simp only [go_sem, seval, hb_1277F]; exact rfl) ?_
    refine AL_nil ?_
    refine thenA_n ?_
    refine awp_ret ?_
    refine thenA_ret ?_
    cases h
    refine retQ_ret (by simp only [Try.results40]; simp only [go_sem, seval, hb_1277F]; exact rfl) ?_
    simp only [go_sem, seval, hb_1277F]
    all_goals ((repeat' refine And.intro ?_ ?_) <;> first | rfl | (simp; done) | (simp; rfl) | (simp [*]; done) | (simp [*]; rfl))
end Go.Proofs.Ytdmddoljldjjeaa
