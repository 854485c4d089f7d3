/- Each function of the program computes what its Lean function says, where that has a value. -/
import Derived.Shelf.Small.Strs
import Derived.Test.YtdmddoljldjjeaaT1
import Derived.Test.YtdmddoljldjjeaaL1
set_option linter.unusedVariables false
set_option linter.unusedSimpArgs false
namespace Go.Proofs.Ytdmddoljldjjeaa
open Go Go.Ab
theorem mixed : Try.prog.follows .mixedOrders = true := by kernel_rfl
def encValue (x : Value) : PV := .agg [.int .i64 x.Kind, .int .i64 x.Num, .str x.Str]
@[go_sem] theorem encValue_fold (x : Value) : PV.agg [.int .i64 x.Kind, .int .i64 x.Num, .str x.Str] = encValue x := rfl
@[go_sem] theorem encValue_cells (x : Value) : (encValue x).cells = [.int .i64 x.Kind, .int .i64 x.Num, .str x.Str] := rfl
@[go_sem] theorem encValue_isAgg (x : Value) : (encValue x).isAgg = true := rfl
@[go_sem] theorem encValue_isTup (x : Value) : (encValue x).isTup = false := rfl
@[go_sem] theorem encValue_sl (l : List Value) : ((l.map encValue).all fun y => y.cells.length == 3) = true := by simp [encValue, PV.cells]
@[go_sem] theorem encValue_ok (l : List Value) : ((l.map encValue).map AV.p).all (elemOk 3) = true := elemOkAll_map _ _ _ fun _ => ⟨rfl, rfl⟩
@[go_sem] theorem encValue_flat (x : Value) : (encValue x).flat = true := rfl
def encRow (x : Row) : PV := .agg [.int .i64 x.ID, .slc (List.map encValue x.Values)]
@[go_sem] theorem encRow_fold (x : Row) : PV.agg [.int .i64 x.ID, .slc (List.map encValue x.Values)] = encRow x := rfl
@[go_sem] theorem encRow_cells (x : Row) : (encRow x).cells = [.int .i64 x.ID, .slc (List.map encValue x.Values)] := rfl
@[go_sem] theorem encRow_isAgg (x : Row) : (encRow x).isAgg = true := rfl
@[go_sem] theorem encRow_isTup (x : Row) : (encRow x).isTup = false := rfl
@[go_sem] theorem encRow_sl (l : List Row) : ((l.map encRow).all fun y => y.cells.length == 2) = true := by simp [encRow, PV.cells]
@[go_sem] theorem encRow_ok (l : List Row) : ((l.map encRow).map AV.p).all (elemOk 2) = true := elemOkAll_map _ _ _ fun _ => ⟨rfl, rfl⟩
def encDrossref55_Result (x : Drossref55_Result) : PV := .agg [.int .i64 x.Value.Kind, .int .i64 x.Value.Num, .str x.Value.Str, .int .i64 x.Origin]
@[go_sem] theorem encDrossref55_Result_fold (x : Drossref55_Result) : PV.agg [.int .i64 x.Value.Kind, .int .i64 x.Value.Num, .str x.Value.Str, .int .i64 x.Origin] = encDrossref55_Result x := rfl
@[go_sem] theorem encDrossref55_Result_cells (x : Drossref55_Result) : (encDrossref55_Result x).cells = [.int .i64 x.Value.Kind, .int .i64 x.Value.Num, .str x.Value.Str, .int .i64 x.Origin] := rfl
@[go_sem] theorem encDrossref55_Result_isAgg (x : Drossref55_Result) : (encDrossref55_Result x).isAgg = true := rfl
@[go_sem] theorem encDrossref55_Result_isTup (x : Drossref55_Result) : (encDrossref55_Result x).isTup = false := rfl
@[go_sem] theorem encDrossref55_Result_sl (l : List Drossref55_Result) : ((l.map encDrossref55_Result).all fun y => y.cells.length == 4) = true := by simp [encDrossref55_Result, PV.cells]
@[go_sem] theorem encDrossref55_Result_ok (l : List Drossref55_Result) : ((l.map encDrossref55_Result).map AV.p).all (elemOk 4) = true := elemOkAll_map _ _ _ fun _ => ⟨rfl, rfl⟩
@[go_sem] theorem encDrossref55_Result_flat (x : Drossref55_Result) : (encDrossref55_Result x).flat = true := rfl
def encDrossref55_Row (x : Drossref55_Row) : PV := .agg [.int .i64 x.Row.ID, .slc (List.map encValue x.Row.Values), .slc (List.map (PV.int .i64) x.Origins)]
@[go_sem] theorem encDrossref55_Row_fold (x : Drossref55_Row) : PV.agg [.int .i64 x.Row.ID, .slc (List.map encValue x.Row.Values), .slc (List.map (PV.int .i64) x.Origins)] = encDrossref55_Row x := rfl
@[go_sem] theorem encDrossref55_Row_cells (x : Drossref55_Row) : (encDrossref55_Row x).cells = [.int .i64 x.Row.ID, .slc (List.map encValue x.Row.Values), .slc (List.map (PV.int .i64) x.Origins)] := rfl
@[go_sem] theorem encDrossref55_Row_isAgg (x : Drossref55_Row) : (encDrossref55_Row x).isAgg = true := rfl
@[go_sem] theorem encDrossref55_Row_isTup (x : Drossref55_Row) : (encDrossref55_Row x).isTup = false := rfl
@[go_sem] theorem encDrossref55_Row_sl (l : List Drossref55_Row) : ((l.map encDrossref55_Row).all fun y => y.cells.length == 3) = true := by simp [encDrossref55_Row, PV.cells]
@[go_sem] theorem encDrossref55_Row_ok (l : List Drossref55_Row) : ((l.map encDrossref55_Row).map AV.p).all (elemOk 3) = true := elemOkAll_map _ _ _ fun _ => ⟨rfl, rfl⟩
def encTable (x : Table) : PV := .agg [.str x.Name, .slc (List.map PV.str x.Attrs), .slc (List.map encRow x.Rows)]
@[go_sem] theorem encTable_fold (x : Table) : PV.agg [.str x.Name, .slc (List.map PV.str x.Attrs), .slc (List.map encRow x.Rows)] = encTable x := rfl
@[go_sem] theorem encTable_cells (x : Table) : (encTable x).cells = [.str x.Name, .slc (List.map PV.str x.Attrs), .slc (List.map encRow x.Rows)] := rfl
@[go_sem] theorem encTable_isAgg (x : Table) : (encTable x).isAgg = true := rfl
@[go_sem] theorem encTable_isTup (x : Table) : (encTable x).isTup = false := rfl
@[go_sem] theorem encTable_sl (l : List Table) : ((l.map encTable).all fun y => y.cells.length == 3) = true := by simp [encTable, PV.cells]
@[go_sem] theorem encTable_ok (l : List Table) : ((l.map encTable).map AV.p).all (elemOk 3) = true := elemOkAll_map _ _ _ fun _ => ⟨rfl, rfl⟩
def encMerged (x : Merged) : PV := .agg [.str x.Table.Name, .slc (List.map PV.str x.Table.Attrs), .slc (List.map encRow x.Table.Rows), .slc (List.map (encL (PV.int .i64)) x.Clusters), .slc (List.map (encL (PV.int .i64)) x.Origins)]
@[go_sem] theorem encMerged_fold (x : Merged) : PV.agg [.str x.Table.Name, .slc (List.map PV.str x.Table.Attrs), .slc (List.map encRow x.Table.Rows), .slc (List.map (encL (PV.int .i64)) x.Clusters), .slc (List.map (encL (PV.int .i64)) x.Origins)] = encMerged x := rfl
@[go_sem] theorem encMerged_cells (x : Merged) : (encMerged x).cells = [.str x.Table.Name, .slc (List.map PV.str x.Table.Attrs), .slc (List.map encRow x.Table.Rows), .slc (List.map (encL (PV.int .i64)) x.Clusters), .slc (List.map (encL (PV.int .i64)) x.Origins)] := rfl
@[go_sem] theorem encMerged_isAgg (x : Merged) : (encMerged x).isAgg = true := rfl
@[go_sem] theorem encMerged_isTup (x : Merged) : (encMerged x).isTup = false := rfl
@[go_sem] theorem encMerged_sl (l : List Merged) : ((l.map encMerged).all fun y => y.cells.length == 5) = true := by simp [encMerged, PV.cells]
@[go_sem] theorem encMerged_ok (l : List Merged) : ((l.map encMerged).map AV.p).all (elemOk 5) = true := elemOkAll_map _ _ _ fun _ => ⟨rfl, rfl⟩
def encCellRef (x : CellRef) : PV := .agg [.int .i64 x.ID, .int .i64 x.Attr]
@[go_sem] theorem encCellRef_fold (x : CellRef) : PV.agg [.int .i64 x.ID, .int .i64 x.Attr] = encCellRef x := rfl
@[go_sem] theorem encCellRef_cells (x : CellRef) : (encCellRef x).cells = [.int .i64 x.ID, .int .i64 x.Attr] := rfl
@[go_sem] theorem encCellRef_isAgg (x : CellRef) : (encCellRef x).isAgg = true := rfl
@[go_sem] theorem encCellRef_isTup (x : CellRef) : (encCellRef x).isTup = false := rfl
@[go_sem] theorem encCellRef_sl (l : List CellRef) : ((l.map encCellRef).all fun y => y.cells.length == 2) = true := by simp [encCellRef, PV.cells]
@[go_sem] theorem encCellRef_ok (l : List CellRef) : ((l.map encCellRef).map AV.p).all (elemOk 2) = true := elemOkAll_map _ _ _ fun _ => ⟨rfl, rfl⟩
@[go_sem] theorem encCellRef_flat (x : CellRef) : (encCellRef x).flat = true := rfl
end Go.Proofs.Ytdmddoljldjjeaa
set_option linter.unusedVariables false
set_option linter.unusedSimpArgs false
namespace Go.Proofs.Ytdmddoljldjjeaa
open Go Go.Ab
set_option maxHeartbeats 4000000 in
theorem survivor_checkRows_con (rows_1 : List Row) (r_34 : Int) (h : survivor_checkRows rows_1 = some r_34) : Con Try.prog 24 [(.slc (List.map encRow rows_1))] (.int .i64 r_34) := by
  refine ⟨Try.call24, ?_⟩
  refine pure_of_awp Try.func24 rfl Try.ntmps24 (by simp) fun X w => ?_
  show AWp _ _ _ ⟨[(0, .p (.slc (List.map encRow rows_1)))], []⟩
  simp only [survivor_checkRows] at h
  refine awp_seq ?_
  refine awp_region ?_
  refine AL_upto (by exact rfl) (by simp only [go_sem, reduceIte, Nat.reduceAdd, Nat.reduceSub, Nat.reduceMul, Nat.reduceEqDiff, Nat.reduceLT, Nat.reduceLeDiff, Nat.reduceBEq, Int.reduceToNat, Int.reduceLT, Int.reduceLE, Int.reduceGT, Int.reduceGE, Int.reduceEq, Int.reduceBEq, Int.reduceBNe, Int.reduceNeg, reduceCtorEq]; exact rfl) ?_
  refine AL_nil ?_
  refine thenA_n ?_
  refine awp_seq ?_
  refine awp_seq ?_
  refine awp_region ?_
  refine AL_upto (by exact rfl) (by simp only [go_sem, reduceIte, Nat.reduceAdd, Nat.reduceSub, Nat.reduceMul, Nat.reduceEqDiff, Nat.reduceLT, Nat.reduceLeDiff, Nat.reduceBEq, Int.reduceToNat, Int.reduceLT, Int.reduceLE, Int.reduceGT, Int.reduceGE, Int.reduceEq, Int.reduceBEq, Int.reduceBNe, Int.reduceNeg, reduceCtorEq]; exact rfl) ?_
  refine AL_nil ?_
  refine thenA_n ?_
  by_cases hb_2 : ((rows_1.length : Int) == 0) = true
  · rw [if_pos hb_2] at h
    refine awp_ct (by simp only [go_sem, reduceIte, Nat.reduceAdd, Nat.reduceSub, Nat.reduceMul, Nat.reduceEqDiff, Nat.reduceLT, Nat.reduceLeDiff, Nat.reduceBEq, Int.reduceToNat, Int.reduceLT, Int.reduceLE, Int.reduceGT, Int.reduceGE, Int.reduceEq, Int.reduceBEq, Int.reduceBNe, Int.reduceNeg, reduceCtorEq, hb_2]) ?_
    refine awp_seq ?_
    refine awp_region ?_
    refine AL_upto (by exact rfl) (by simp only [go_sem, reduceIte, Nat.reduceAdd, Nat.reduceSub, Nat.reduceMul, Nat.reduceEqDiff, Nat.reduceLT, Nat.reduceLeDiff, Nat.reduceBEq, Int.reduceToNat, Int.reduceLT, Int.reduceLE, Int.reduceGT, Int.reduceGE, Int.reduceEq, Int.reduceBEq, Int.reduceBNe, Int.reduceNeg, reduceCtorEq, hb_2]; exact rfl) ?_
    refine AL_nil ?_
    refine thenA_n ?_
    refine awp_ret ?_
    refine thenA_ret ?_
    cases h
    refine retQ_ret (by simp only [Try.results24]; simp only [go_sem, reduceIte, Nat.reduceAdd, Nat.reduceSub, Nat.reduceMul, Nat.reduceEqDiff, Nat.reduceLT, Nat.reduceLeDiff, Nat.reduceBEq, Int.reduceToNat, Int.reduceLT, Int.reduceLE, Int.reduceGT, Int.reduceGE, Int.reduceEq, Int.reduceBEq, Int.reduceBNe, Int.reduceNeg, reduceCtorEq, hb_2]; exact rfl) ?_
    simp only [go_sem, reduceIte, Nat.reduceAdd, Nat.reduceSub, Nat.reduceMul, Nat.reduceEqDiff, Nat.reduceLT, Nat.reduceLeDiff, Nat.reduceBEq, Int.reduceToNat, Int.reduceLT, Int.reduceLE, Int.reduceGT, Int.reduceGE, Int.reduceEq, Int.reduceBEq, Int.reduceBNe, Int.reduceNeg, reduceCtorEq, hb_2]
    all_goals ((repeat' refine And.intro ?_ ?_) <;> first | rfl | (simp; done) | (simp; rfl) | (simp [*]; done) | (simp [*]; rfl))
  · rw [if_neg hb_2] at h
    have hb_2F := Bool.eq_false_iff.2 hb_2
    refine awp_cf (by simp only [go_sem, reduceIte, Nat.reduceAdd, Nat.reduceSub, Nat.reduceMul, Nat.reduceEqDiff, Nat.reduceLT, Nat.reduceLeDiff, Nat.reduceBEq, Int.reduceToNat, Int.reduceLT, Int.reduceLE, Int.reduceGT, Int.reduceGE, Int.reduceEq, Int.reduceBEq, Int.reduceBNe, Int.reduceNeg, reduceCtorEq, hb_2F]) ?_
    refine awp_skip ?_
    refine thenA_n ?_
    refine awp_seq ?_
    refine awp_seq ?_
    refine awp_region ?_
    refine AL_upto (by exact rfl) (by simp only [go_sem, reduceIte, Nat.reduceAdd, Nat.reduceSub, Nat.reduceMul, Nat.reduceEqDiff, Nat.reduceLT, Nat.reduceLeDiff, Nat.reduceBEq, Int.reduceToNat, Int.reduceLT, Int.reduceLE, Int.reduceGT, Int.reduceGE, Int.reduceEq, Int.reduceBEq, Int.reduceBNe, Int.reduceNeg, reduceCtorEq, hb_2F]; exact rfl) ?_
    refine AL_nil ?_
    refine thenA_n ?_
    refine awp_block ?_
    obtain ⟨o_29, hL_30, h⟩ := Option.bind_eq_some_iff.1 h
    refine awp_loop_L (fun (s : Int) => ⟨[(0, .p (.slc (List.map encRow rows_1))), (8, .p (.slc (List.map encRow rows_1))), (9, .p (.int .i64 (rows_1.length : Int))), (10, .p (.int .i64 s))], []⟩) (fun (o : (Unit) ⊕ (Int)) (e : Exit) (s' : St) => match o with | .inl o_32 => e = (.exit 0) ∧ Le ⟨Try.prog, Try.f24.ntmps, 0, X, [], fun _ => none, w⟩ s' ⟨[], []⟩ | .inr o_33 => e = .ret ∧ retQ Try.prog Try.f24 (.int .i64 o_33) .ret s') (by intro o s hT; rcases o with _ | _ <;> (have hh := hT.1; cases hh)) hL_30 (by simp only [go_sem, reduceIte, Nat.reduceAdd, Nat.reduceSub, Nat.reduceMul, Nat.reduceEqDiff, Nat.reduceLT, Nat.reduceLeDiff, Nat.reduceBEq, Int.reduceToNat, Int.reduceLT, Int.reduceLE, Int.reduceGT, Int.reduceGE, Int.reduceEq, Int.reduceBEq, Int.reduceBNe, Int.reduceNeg, reduceCtorEq, hb_2F]; all_goals ((repeat' refine And.intro ?_ ?_) <;> first | rfl | (simp; done) | (simp; rfl) | (simp [*]; done) | (simp [*]; rfl))) ?_ ?_
    · clear h
      intro t10_10 x h
      simp only [survivor_checkRows_l1] at h
      show AWp _ _ _ ⟨[(0, .p (.slc (List.map encRow rows_1))), (8, .p (.slc (List.map encRow rows_1))), (9, .p (.int .i64 (rows_1.length : Int))), (10, .p (.int .i64 t10_10))], []⟩
      refine awp_seq ?_
      refine awp_region ?_
      refine AL_upto (by exact rfl) (by simp only [go_sem, reduceIte, Nat.reduceAdd, Nat.reduceSub, Nat.reduceMul, Nat.reduceEqDiff, Nat.reduceLT, Nat.reduceLeDiff, Nat.reduceBEq, Int.reduceToNat, Int.reduceLT, Int.reduceLE, Int.reduceGT, Int.reduceGE, Int.reduceEq, Int.reduceBEq, Int.reduceBNe, Int.reduceNeg, reduceCtorEq]; exact rfl) ?_
      refine AL_nil ?_
      refine thenA_n ?_
      refine awp_seq ?_
      by_cases hb_21 : t10_10 < (rows_1.length : Int)
      · rw [if_pos hb_21] at h
        have hb_21T := eq_true hb_21
        refine awp_ct (by simp only [go_sem, reduceIte, Nat.reduceAdd, Nat.reduceSub, Nat.reduceMul, Nat.reduceEqDiff, Nat.reduceLT, Nat.reduceLeDiff, Nat.reduceBEq, Int.reduceToNat, Int.reduceLT, Int.reduceLE, Int.reduceGT, Int.reduceGE, Int.reduceEq, Int.reduceBEq, Int.reduceBNe, Int.reduceNeg, reduceCtorEq, hb_21T]) ?_
        refine awp_skip ?_
        refine thenA_n ?_
        refine awp_seq ?_
        refine awp_block ?_
        refine awp_seq ?_
        refine awp_region ?_
        obtain ⟨x_24, hx_25, h⟩ := Option.bind_eq_some_iff.1 h
        obtain ⟨hx_25a, hx_25, hx_25b⟩ := idx_some hx_25
        have hx_25A := eq_true hx_25a
        have hx_25B := eq_true hx_25b
        refine AL_upto (by exact rfl) (by simp only [go_sem, reduceIte, Nat.reduceAdd, Nat.reduceSub, Nat.reduceMul, Nat.reduceEqDiff, Nat.reduceLT, Nat.reduceLeDiff, Nat.reduceBEq, Int.reduceToNat, Int.reduceLT, Int.reduceLE, Int.reduceGT, Int.reduceGE, Int.reduceEq, Int.reduceBEq, Int.reduceBNe, Int.reduceNeg, reduceCtorEq, hb_21T, hx_25, hx_25A, hx_25B]; exact rfl) ?_
        refine AL_nil ?_
        refine thenA_n ?_
        refine awp_seq ?_
        refine awp_drawn_walk mixed (by decide) ?_
        obtain ⟨x_26, hx_27, h⟩ := Option.bind_eq_some_iff.1 h
        have hx_27l := eq_true (lt_of_get hx_27)
        have hx_27L : ((0 : Int) < (rows_1.length : Int)) = True := eq_true (by have := lt_of_get hx_27; omega)
        refine DGo.upto (by exact rfl) (by simp only [go_sem, reduceIte, Nat.reduceAdd, Nat.reduceSub, Nat.reduceMul, Nat.reduceEqDiff, Nat.reduceLT, Nat.reduceLeDiff, Nat.reduceBEq, Int.reduceToNat, Int.reduceLT, Int.reduceLE, Int.reduceGT, Int.reduceGE, Int.reduceEq, Int.reduceBEq, Int.reduceBNe, Int.reduceNeg, reduceCtorEq, hb_21T, hx_27, hx_27l, hx_27L]; exact ⟨rfl, rfl⟩) ?_
        refine DGo.fin rfl ?_
        refine thenA_n ?_
        by_cases hb_28 : ((x_24.Values.length : Int) != (x_26.Values.length : Int)) = true
        · rw [if_pos hb_28] at h
          refine awp_ct (by simp only [go_sem, reduceIte, Nat.reduceAdd, Nat.reduceSub, Nat.reduceMul, Nat.reduceEqDiff, Nat.reduceLT, Nat.reduceLeDiff, Nat.reduceBEq, Int.reduceToNat, Int.reduceLT, Int.reduceLE, Int.reduceGT, Int.reduceGE, Int.reduceEq, Int.reduceBEq, Int.reduceBNe, Int.reduceNeg, reduceCtorEq, hb_21T, hb_28]) ?_
          refine awp_seq ?_
          refine awp_region ?_
          refine AL_upto (by exact rfl) (by simp only [go_sem, reduceIte, Nat.reduceAdd, Nat.reduceSub, Nat.reduceMul, Nat.reduceEqDiff, Nat.reduceLT, Nat.reduceLeDiff, Nat.reduceBEq, Int.reduceToNat, Int.reduceLT, Int.reduceLE, Int.reduceGT, Int.reduceGE, Int.reduceEq, Int.reduceBEq, Int.reduceBNe, Int.reduceNeg, reduceCtorEq, hb_21T, hb_28]; exact rfl) ?_
          refine AL_nil ?_
          refine thenA_n ?_
          refine awp_ret ?_
          refine blockA_ret ?_
          refine thenA_ret ?_
          cases h
          refine ⟨rfl, ?_⟩
          refine retQ_ret (by simp only [Try.results24]; simp only [go_sem, reduceIte, Nat.reduceAdd, Nat.reduceSub, Nat.reduceMul, Nat.reduceEqDiff, Nat.reduceLT, Nat.reduceLeDiff, Nat.reduceBEq, Int.reduceToNat, Int.reduceLT, Int.reduceLE, Int.reduceGT, Int.reduceGE, Int.reduceEq, Int.reduceBEq, Int.reduceBNe, Int.reduceNeg, reduceCtorEq, hb_21T, hb_28]; exact rfl) ?_
          simp only [go_sem, reduceIte, Nat.reduceAdd, Nat.reduceSub, Nat.reduceMul, Nat.reduceEqDiff, Nat.reduceLT, Nat.reduceLeDiff, Nat.reduceBEq, Int.reduceToNat, Int.reduceLT, Int.reduceLE, Int.reduceGT, Int.reduceGE, Int.reduceEq, Int.reduceBEq, Int.reduceBNe, Int.reduceNeg, reduceCtorEq, hb_21T, hb_28]
          all_goals ((repeat' refine And.intro ?_ ?_) <;> first | rfl | (simp; done) | (simp; rfl) | (simp [*]; done) | (simp [*]; rfl))
        · rw [if_neg hb_28] at h
          have hb_28F := Bool.eq_false_iff.2 hb_28
          refine awp_cf (by simp only [go_sem, reduceIte, Nat.reduceAdd, Nat.reduceSub, Nat.reduceMul, Nat.reduceEqDiff, Nat.reduceLT, Nat.reduceLeDiff, Nat.reduceBEq, Int.reduceToNat, Int.reduceLT, Int.reduceLE, Int.reduceGT, Int.reduceGE, Int.reduceEq, Int.reduceBEq, Int.reduceBNe, Int.reduceNeg, reduceCtorEq, hb_21T, hb_28F]) ?_
          refine awp_skip ?_
          refine blockA_n ?_
          refine thenA_n ?_
          refine awp_region ?_
          refine AL_upto (by exact rfl) (by simp only [go_sem, reduceIte, Nat.reduceAdd, Nat.reduceSub, Nat.reduceMul, Nat.reduceEqDiff, Nat.reduceLT, Nat.reduceLeDiff, Nat.reduceBEq, Int.reduceToNat, Int.reduceLT, Int.reduceLE, Int.reduceGT, Int.reduceGE, Int.reduceEq, Int.reduceBEq, Int.reduceBNe, Int.reduceNeg, reduceCtorEq, hb_21T, hb_28F]; exact rfl) ?_
          refine AL_nil ?_
          cases h
          refine ⟨rfl, ?_⟩
          simp only [go_sem, reduceIte, Nat.reduceAdd, Nat.reduceSub, Nat.reduceMul, Nat.reduceEqDiff, Nat.reduceLT, Nat.reduceLeDiff, Nat.reduceBEq, Int.reduceToNat, Int.reduceLT, Int.reduceLE, Int.reduceGT, Int.reduceGE, Int.reduceEq, Int.reduceBEq, Int.reduceBNe, Int.reduceNeg, reduceCtorEq, hb_21T, hb_28F]
          all_goals ((repeat' refine And.intro ?_ ?_) <;> first | rfl | (simp; done) | (simp; rfl) | (simp [*]; done) | (simp [*]; rfl))
      · rw [if_neg hb_21] at h
        have hb_21T := eq_false hb_21
        refine awp_cf (by simp only [go_sem, reduceIte, Nat.reduceAdd, Nat.reduceSub, Nat.reduceMul, Nat.reduceEqDiff, Nat.reduceLT, Nat.reduceLeDiff, Nat.reduceBEq, Int.reduceToNat, Int.reduceLT, Int.reduceLE, Int.reduceGT, Int.reduceGE, Int.reduceEq, Int.reduceBEq, Int.reduceBNe, Int.reduceNeg, reduceCtorEq, hb_21T]) ?_
        refine awp_exit ?_
        refine thenA_exit ?_
        cases h
        refine ⟨rfl, ?_⟩
        simp only [go_sem, reduceIte, Nat.reduceAdd, Nat.reduceSub, Nat.reduceMul, Nat.reduceEqDiff, Nat.reduceLT, Nat.reduceLeDiff, Nat.reduceBEq, Int.reduceToNat, Int.reduceLT, Int.reduceLE, Int.reduceGT, Int.reduceGE, Int.reduceEq, Int.reduceBEq, Int.reduceBNe, Int.reduceNeg, reduceCtorEq, hb_21T]
        all_goals ((repeat' refine And.intro ?_ ?_) <;> first | rfl | (simp; done) | (simp; rfl) | (simp [*]; done) | (simp [*]; rfl))
    · intro e s' hT
      rcases o_29 with ⟨⟩ | r_31
      · try simp only at h
        try simp only at hT
        obtain ⟨rfl, hle⟩ := hT
        refine Wk.to hle ?_
        clear hle
        refine blockA_here ?_
        refine thenA_n ?_
        refine awp_seq ?_
        refine awp_region ?_
        refine AL_upto (by exact rfl) (by simp only [go_sem, reduceIte, Nat.reduceAdd, Nat.reduceSub, Nat.reduceMul, Nat.reduceEqDiff, Nat.reduceLT, Nat.reduceLeDiff, Nat.reduceBEq, Int.reduceToNat, Int.reduceLT, Int.reduceLE, Int.reduceGT, Int.reduceGE, Int.reduceEq, Int.reduceBEq, Int.reduceBNe, Int.reduceNeg, reduceCtorEq, hb_2F]; exact rfl) ?_
        refine AL_nil ?_
        refine thenA_n ?_
        refine awp_ret ?_
        cases h
        refine retQ_ret (by simp only [Try.results24]; simp only [go_sem, reduceIte, Nat.reduceAdd, Nat.reduceSub, Nat.reduceMul, Nat.reduceEqDiff, Nat.reduceLT, Nat.reduceLeDiff, Nat.reduceBEq, Int.reduceToNat, Int.reduceLT, Int.reduceLE, Int.reduceGT, Int.reduceGE, Int.reduceEq, Int.reduceBEq, Int.reduceBNe, Int.reduceNeg, reduceCtorEq, hb_2F]; exact rfl) ?_
        simp only [go_sem, reduceIte, Nat.reduceAdd, Nat.reduceSub, Nat.reduceMul, Nat.reduceEqDiff, Nat.reduceLT, Nat.reduceLeDiff, Nat.reduceBEq, Int.reduceToNat, Int.reduceLT, Int.reduceLE, Int.reduceGT, Int.reduceGE, Int.reduceEq, Int.reduceBEq, Int.reduceBNe, Int.reduceNeg, reduceCtorEq, hb_2F]
        all_goals ((repeat' refine And.intro ?_ ?_) <;> first | rfl | (simp; done) | (simp; rfl) | (simp [*]; done) | (simp [*]; rfl))
      · try simp only at h
        try simp only at hT
        obtain ⟨rfl, hq⟩ := hT
        refine Wk.now ?_
        refine blockA_ret ?_
        refine thenA_ret ?_
        cases h
        exact hq
end Go.Proofs.Ytdmddoljldjjeaa
set_option linter.unusedVariables false
set_option linter.unusedSimpArgs false
namespace Go.Proofs.Ytdmddoljldjjeaa
open Go Go.Ab
set_option maxHeartbeats 4000000 in
theorem slices_IndexFunc_Value_con (s_35 : List Value) (f_36 : Value → Option (Bool)) (f_36_k : FuncId) (f_36_cs : List PV) (f_36_h : ∀ (y_37 : Value) (r_38 : Bool), f_36 y_37 = some r_38 → Con Try.prog f_36_k ((encValue y_37) :: f_36_cs) (.bool r_38)) (r_66 : Int) (h : slices_IndexFunc_Value s_35 f_36 = some r_66) : Con Try.prog 75 [(.slc (List.map encValue s_35)), .func (.func f_36_k) f_36_cs] (.int .i64 r_66) := by
  refine ⟨Try.call75, ?_⟩
  refine pure_of_awp Try.func75 rfl Try.ntmps75 (by simp) fun X w => ?_
  show AWp _ _ _ ⟨[(0, .p (.slc (List.map encValue s_35))), (1, .p (.func (.func f_36_k) f_36_cs))], []⟩
  simp only [slices_IndexFunc_Value] at h
  refine awp_seq ?_
  refine awp_region ?_
  refine AL_upto (by exact rfl) (by simp only [go_sem, reduceIte, Nat.reduceAdd, Nat.reduceSub, Nat.reduceMul, Nat.reduceEqDiff, Nat.reduceLT, Nat.reduceLeDiff, Nat.reduceBEq, Int.reduceToNat, Int.reduceLT, Int.reduceLE, Int.reduceGT, Int.reduceGE, Int.reduceEq, Int.reduceBEq, Int.reduceBNe, Int.reduceNeg, reduceCtorEq]; exact rfl) ?_
  refine AL_nil ?_
  refine thenA_n ?_
  refine awp_seq ?_
  refine awp_seq ?_
  refine awp_region ?_
  refine AL_upto (by exact rfl) (by simp only [go_sem, reduceIte, Nat.reduceAdd, Nat.reduceSub, Nat.reduceMul, Nat.reduceEqDiff, Nat.reduceLT, Nat.reduceLeDiff, Nat.reduceBEq, Int.reduceToNat, Int.reduceLT, Int.reduceLE, Int.reduceGT, Int.reduceGE, Int.reduceEq, Int.reduceBEq, Int.reduceBNe, Int.reduceNeg, reduceCtorEq]; exact rfl) ?_
  refine AL_nil ?_
  refine thenA_n ?_
  refine awp_block ?_
  obtain ⟨o_61, hL_62, h⟩ := Option.bind_eq_some_iff.1 h
  refine awp_loop_L (fun (s : Int) => ⟨[(0, .p (.slc (List.map encValue s_35))), (1, .p (.func (.func f_36_k) f_36_cs)), (7, .p (.int .i64 (s_35.length : Int))), (8, .p (.int .i64 s))], []⟩) (fun (o : (Unit) ⊕ (Int)) (e : Exit) (s' : St) => match o with | .inl o_64 => e = (.exit 0) ∧ Le ⟨Try.prog, Try.f75.ntmps, 0, X, [], fun _ => none, w⟩ s' ⟨[], []⟩ | .inr o_65 => e = .ret ∧ retQ Try.prog Try.f75 (.int .i64 o_65) .ret s') (by intro o s hT; rcases o with _ | _ <;> (have hh := hT.1; cases hh)) hL_62 (by simp only [go_sem, reduceIte, Nat.reduceAdd, Nat.reduceSub, Nat.reduceMul, Nat.reduceEqDiff, Nat.reduceLT, Nat.reduceLeDiff, Nat.reduceBEq, Int.reduceToNat, Int.reduceLT, Int.reduceLE, Int.reduceGT, Int.reduceGE, Int.reduceEq, Int.reduceBEq, Int.reduceBNe, Int.reduceNeg, reduceCtorEq]; all_goals ((repeat' refine And.intro ?_ ?_) <;> first | rfl | (simp; done) | (simp; rfl) | (simp [*]; done) | (simp [*]; rfl))) ?_ ?_
  · clear h
    intro t8_46 x h
    simp only [slices_IndexFunc_Value_l1] at h
    show AWp _ _ _ ⟨[(0, .p (.slc (List.map encValue s_35))), (1, .p (.func (.func f_36_k) f_36_cs)), (7, .p (.int .i64 (s_35.length : Int))), (8, .p (.int .i64 t8_46))], []⟩
    refine awp_seq ?_
    refine awp_region ?_
    refine AL_upto (by exact rfl) (by simp only [go_sem, reduceIte, Nat.reduceAdd, Nat.reduceSub, Nat.reduceMul, Nat.reduceEqDiff, Nat.reduceLT, Nat.reduceLeDiff, Nat.reduceBEq, Int.reduceToNat, Int.reduceLT, Int.reduceLE, Int.reduceGT, Int.reduceGE, Int.reduceEq, Int.reduceBEq, Int.reduceBNe, Int.reduceNeg, reduceCtorEq]; exact rfl) ?_
    refine AL_nil ?_
    refine thenA_n ?_
    refine awp_seq ?_
    by_cases hb_55 : t8_46 < (s_35.length : Int)
    · rw [if_pos hb_55] at h
      have hb_55T := eq_true hb_55
      refine awp_ct (by simp only [go_sem, reduceIte, Nat.reduceAdd, Nat.reduceSub, Nat.reduceMul, Nat.reduceEqDiff, Nat.reduceLT, Nat.reduceLeDiff, Nat.reduceBEq, Int.reduceToNat, Int.reduceLT, Int.reduceLE, Int.reduceGT, Int.reduceGE, Int.reduceEq, Int.reduceBEq, Int.reduceBNe, Int.reduceNeg, reduceCtorEq, hb_55T]) ?_
      refine awp_skip ?_
      refine thenA_n ?_
      refine awp_seq ?_
      refine awp_block ?_
      refine awp_seq ?_
      refine awp_region ?_
      refine AL_upto (by exact rfl) (by simp only [go_sem, reduceIte, Nat.reduceAdd, Nat.reduceSub, Nat.reduceMul, Nat.reduceEqDiff, Nat.reduceLT, Nat.reduceLeDiff, Nat.reduceBEq, Int.reduceToNat, Int.reduceLT, Int.reduceLE, Int.reduceGT, Int.reduceGE, Int.reduceEq, Int.reduceBEq, Int.reduceBNe, Int.reduceNeg, reduceCtorEq, hb_55T]; exact rfl) ?_
      refine AL_nil ?_
      refine thenA_n ?_
      refine awp_seq ?_
      refine awp_region ?_
      obtain ⟨x_56, hx_57, h⟩ := Option.bind_eq_some_iff.1 h
      obtain ⟨hx_57a, hx_57, hx_57b⟩ := idx_some hx_57
      have hx_57A := eq_true hx_57a
      have hx_57B := eq_true hx_57b
      refine AL_upto (by exact rfl) (by simp only [go_sem, reduceIte, Nat.reduceAdd, Nat.reduceSub, Nat.reduceMul, Nat.reduceEqDiff, Nat.reduceLT, Nat.reduceLeDiff, Nat.reduceBEq, Int.reduceToNat, Int.reduceLT, Int.reduceLE, Int.reduceGT, Int.reduceGE, Int.reduceEq, Int.reduceBEq, Int.reduceBNe, Int.reduceNeg, reduceCtorEq, hb_55T, hx_57, hx_57A, hx_57B]; exact rfl) ?_
      obtain ⟨r_58, hr_59, h⟩ := Option.bind_eq_some_iff.1 h
      refine AL_con' rfl (guard_none rfl) rfl (by simp only [go_sem, reduceIte, Nat.reduceAdd, Nat.reduceSub, Nat.reduceMul, Nat.reduceEqDiff, Nat.reduceLT, Nat.reduceLeDiff, Nat.reduceBEq, Int.reduceToNat, Int.reduceLT, Int.reduceLE, Int.reduceGT, Int.reduceGE, Int.reduceEq, Int.reduceBEq, Int.reduceBNe, Int.reduceNeg, reduceCtorEq, hb_55T]; exact rfl) (by simp only [go_sem, reduceIte, Nat.reduceAdd, Nat.reduceSub, Nat.reduceMul, Nat.reduceEqDiff, Nat.reduceLT, Nat.reduceLeDiff, Nat.reduceBEq, Int.reduceToNat, Int.reduceLT, Int.reduceLE, Int.reduceGT, Int.reduceGE, Int.reduceEq, Int.reduceBEq, Int.reduceBNe, Int.reduceNeg, reduceCtorEq, hb_55T]; all_goals ((repeat' refine And.intro ?_ ?_) <;> first | rfl | (simp; done) | (simp; rfl) | (simp [*]; done) | (simp [*]; rfl))) (f_36_h x_56 _ hr_59) (.inr rfl) rfl ?_
      refine AL_nil ?_
      refine thenA_n ?_
      by_cases hb_60 : r_58 = true
      · rw [if_pos hb_60] at h
        refine awp_ct (by simp only [go_sem, reduceIte, Nat.reduceAdd, Nat.reduceSub, Nat.reduceMul, Nat.reduceEqDiff, Nat.reduceLT, Nat.reduceLeDiff, Nat.reduceBEq, Int.reduceToNat, Int.reduceLT, Int.reduceLE, Int.reduceGT, Int.reduceGE, Int.reduceEq, Int.reduceBEq, Int.reduceBNe, Int.reduceNeg, reduceCtorEq, hb_55T, hb_60]) ?_
        refine awp_seq ?_
        refine awp_region ?_
        refine AL_upto (by exact rfl) (by simp only [go_sem, reduceIte, Nat.reduceAdd, Nat.reduceSub, Nat.reduceMul, Nat.reduceEqDiff, Nat.reduceLT, Nat.reduceLeDiff, Nat.reduceBEq, Int.reduceToNat, Int.reduceLT, Int.reduceLE, Int.reduceGT, Int.reduceGE, Int.reduceEq, Int.reduceBEq, Int.reduceBNe, Int.reduceNeg, reduceCtorEq, hb_55T, hb_60]; exact rfl) ?_
        refine AL_nil ?_
        refine thenA_n ?_
        refine awp_ret ?_
        refine blockA_ret ?_
        refine thenA_ret ?_
        cases h
        refine ⟨rfl, ?_⟩
        refine retQ_ret (by simp only [Try.results75]; simp only [go_sem, reduceIte, Nat.reduceAdd, Nat.reduceSub, Nat.reduceMul, Nat.reduceEqDiff, Nat.reduceLT, Nat.reduceLeDiff, Nat.reduceBEq, Int.reduceToNat, Int.reduceLT, Int.reduceLE, Int.reduceGT, Int.reduceGE, Int.reduceEq, Int.reduceBEq, Int.reduceBNe, Int.reduceNeg, reduceCtorEq, hb_55T, hb_60]; exact rfl) ?_
        simp only [go_sem, reduceIte, Nat.reduceAdd, Nat.reduceSub, Nat.reduceMul, Nat.reduceEqDiff, Nat.reduceLT, Nat.reduceLeDiff, Nat.reduceBEq, Int.reduceToNat, Int.reduceLT, Int.reduceLE, Int.reduceGT, Int.reduceGE, Int.reduceEq, Int.reduceBEq, Int.reduceBNe, Int.reduceNeg, reduceCtorEq, hb_55T, hb_60]
        all_goals ((repeat' refine And.intro ?_ ?_) <;> first | rfl | (simp; done) | (simp; rfl) | (simp [*]; done) | (simp [*]; rfl))
      · rw [if_neg hb_60] at h
        have hb_60F := Bool.eq_false_iff.2 hb_60
        refine awp_cf (by simp only [go_sem, reduceIte, Nat.reduceAdd, Nat.reduceSub, Nat.reduceMul, Nat.reduceEqDiff, Nat.reduceLT, Nat.reduceLeDiff, Nat.reduceBEq, Int.reduceToNat, Int.reduceLT, Int.reduceLE, Int.reduceGT, Int.reduceGE, Int.reduceEq, Int.reduceBEq, Int.reduceBNe, Int.reduceNeg, reduceCtorEq, hb_55T, hb_60F]) ?_
        refine awp_skip ?_
        refine blockA_n ?_
        refine thenA_n ?_
        refine awp_region ?_
        refine AL_upto (by exact rfl) (by simp only [go_sem, reduceIte, Nat.reduceAdd, Nat.reduceSub, Nat.reduceMul, Nat.reduceEqDiff, Nat.reduceLT, Nat.reduceLeDiff, Nat.reduceBEq, Int.reduceToNat, Int.reduceLT, Int.reduceLE, Int.reduceGT, Int.reduceGE, Int.reduceEq, Int.reduceBEq, Int.reduceBNe, Int.reduceNeg, reduceCtorEq, hb_55T, hb_60F]; exact rfl) ?_
        refine AL_nil ?_
        cases h
        refine ⟨rfl, ?_⟩
        simp only [go_sem, reduceIte, Nat.reduceAdd, Nat.reduceSub, Nat.reduceMul, Nat.reduceEqDiff, Nat.reduceLT, Nat.reduceLeDiff, Nat.reduceBEq, Int.reduceToNat, Int.reduceLT, Int.reduceLE, Int.reduceGT, Int.reduceGE, Int.reduceEq, Int.reduceBEq, Int.reduceBNe, Int.reduceNeg, reduceCtorEq, hb_55T, hb_60F]
        all_goals ((repeat' refine And.intro ?_ ?_) <;> first | rfl | (simp; done) | (simp; rfl) | (simp [*]; done) | (simp [*]; rfl))
    · rw [if_neg hb_55] at h
      have hb_55T := eq_false hb_55
      refine awp_cf (by simp only [go_sem, reduceIte, Nat.reduceAdd, Nat.reduceSub, Nat.reduceMul, Nat.reduceEqDiff, Nat.reduceLT, Nat.reduceLeDiff, Nat.reduceBEq, Int.reduceToNat, Int.reduceLT, Int.reduceLE, Int.reduceGT, Int.reduceGE, Int.reduceEq, Int.reduceBEq, Int.reduceBNe, Int.reduceNeg, reduceCtorEq, hb_55T]) ?_
      refine awp_exit ?_
      refine thenA_exit ?_
      cases h
      refine ⟨rfl, ?_⟩
      simp only [go_sem, reduceIte, Nat.reduceAdd, Nat.reduceSub, Nat.reduceMul, Nat.reduceEqDiff, Nat.reduceLT, Nat.reduceLeDiff, Nat.reduceBEq, Int.reduceToNat, Int.reduceLT, Int.reduceLE, Int.reduceGT, Int.reduceGE, Int.reduceEq, Int.reduceBEq, Int.reduceBNe, Int.reduceNeg, reduceCtorEq, hb_55T]
      all_goals ((repeat' refine And.intro ?_ ?_) <;> first | rfl | (simp; done) | (simp; rfl) | (simp [*]; done) | (simp [*]; rfl))
  · intro e s' hT
    rcases o_61 with ⟨⟩ | r_63
    · try simp only at h
      try simp only at hT
      obtain ⟨rfl, hle⟩ := hT
      refine Wk.to hle ?_
      clear hle
      refine blockA_here ?_
      refine thenA_n ?_
      refine awp_seq ?_
      refine awp_region ?_
      refine AL_upto (by exact rfl) (by simp only [go_sem, reduceIte, Nat.reduceAdd, Nat.reduceSub, Nat.reduceMul, Nat.reduceEqDiff, Nat.reduceLT, Nat.reduceLeDiff, Nat.reduceBEq, Int.reduceToNat, Int.reduceLT, Int.reduceLE, Int.reduceGT, Int.reduceGE, Int.reduceEq, Int.reduceBEq, Int.reduceBNe, Int.reduceNeg, reduceCtorEq]; exact rfl) ?_
      refine AL_nil ?_
      refine thenA_n ?_
      refine awp_ret ?_
      cases h
      refine retQ_ret (by simp only [Try.results75]; simp only [go_sem, reduceIte, Nat.reduceAdd, Nat.reduceSub, Nat.reduceMul, Nat.reduceEqDiff, Nat.reduceLT, Nat.reduceLeDiff, Nat.reduceBEq, Int.reduceToNat, Int.reduceLT, Int.reduceLE, Int.reduceGT, Int.reduceGE, Int.reduceEq, Int.reduceBEq, Int.reduceBNe, Int.reduceNeg, reduceCtorEq]; exact rfl) ?_
      simp only [go_sem, reduceIte, Nat.reduceAdd, Nat.reduceSub, Nat.reduceMul, Nat.reduceEqDiff, Nat.reduceLT, Nat.reduceLeDiff, Nat.reduceBEq, Int.reduceToNat, Int.reduceLT, Int.reduceLE, Int.reduceGT, Int.reduceGE, Int.reduceEq, Int.reduceBEq, Int.reduceBNe, Int.reduceNeg, reduceCtorEq]
      all_goals ((repeat' refine And.intro ?_ ?_) <;> first | rfl | (simp; done) | (simp; rfl) | (simp [*]; done) | (simp [*]; rfl))
    · try simp only at h
      try simp only at hT
      obtain ⟨rfl, hq⟩ := hT
      refine Wk.now ?_
      refine blockA_ret ?_
      refine thenA_ret ?_
      cases h
      exact hq
end Go.Proofs.Ytdmddoljldjjeaa
set_option linter.unusedVariables false
set_option linter.unusedSimpArgs false
namespace Go.Proofs.Ytdmddoljldjjeaa
open Go Go.Ab
set_option maxHeartbeats 4000000 in
theorem slices_ContainsFunc_Value_con (s_67 : List Value) (f_68 : Value → Option (Bool)) (f_68_k : FuncId) (f_68_cs : List PV) (f_68_h : ∀ (y_69 : Value) (r_70 : Bool), f_68 y_69 = some r_70 → Con Try.prog f_68_k ((encValue y_69) :: f_68_cs) (.bool r_70)) (r_73 : Bool) (h : slices_ContainsFunc_Value s_67 f_68 = some r_73) : Con Try.prog 48 [(.slc (List.map encValue s_67)), .func (.func f_68_k) f_68_cs] (.bool r_73) := by
  refine ⟨Try.call48, ?_⟩
  refine pure_of_awp Try.func48 rfl Try.ntmps48 (by simp) fun X w => ?_
  show AWp _ _ _ ⟨[(0, .p (.slc (List.map encValue s_67))), (1, .p (.func (.func f_68_k) f_68_cs))], []⟩
  simp only [slices_ContainsFunc_Value] at h
  refine awp_seq ?_
  refine awp_region ?_
  refine AL_upto (by exact rfl) (by simp only [go_sem, reduceIte, Nat.reduceAdd, Nat.reduceSub, Nat.reduceMul, Nat.reduceEqDiff, Nat.reduceLT, Nat.reduceLeDiff, Nat.reduceBEq, Int.reduceToNat, Int.reduceLT, Int.reduceLE, Int.reduceGT, Int.reduceGE, Int.reduceEq, Int.reduceBEq, Int.reduceBNe, Int.reduceNeg, reduceCtorEq]; exact rfl) ?_
  refine AL_nil ?_
  refine thenA_n ?_
  refine awp_seq ?_
  refine awp_region ?_
  refine AL_upto (by exact rfl) (by simp only [go_sem, reduceIte, Nat.reduceAdd, Nat.reduceSub, Nat.reduceMul, Nat.reduceEqDiff, Nat.reduceLT, Nat.reduceLeDiff, Nat.reduceBEq, Int.reduceToNat, Int.reduceLT, Int.reduceLE, Int.reduceGT, Int.reduceGE, Int.reduceEq, Int.reduceBEq, Int.reduceBNe, Int.reduceNeg, reduceCtorEq]; exact rfl) ?_
  obtain ⟨r_71, hr_72, h⟩ := Option.bind_eq_some_iff.1 h
  refine AL_con' rfl (guard_none rfl) rfl (by simp only [go_sem, reduceIte, Nat.reduceAdd, Nat.reduceSub, Nat.reduceMul, Nat.reduceEqDiff, Nat.reduceLT, Nat.reduceLeDiff, Nat.reduceBEq, Int.reduceToNat, Int.reduceLT, Int.reduceLE, Int.reduceGT, Int.reduceGE, Int.reduceEq, Int.reduceBEq, Int.reduceBNe, Int.reduceNeg, reduceCtorEq]; exact rfl) (by simp only [go_sem, reduceIte, Nat.reduceAdd, Nat.reduceSub, Nat.reduceMul, Nat.reduceEqDiff, Nat.reduceLT, Nat.reduceLeDiff, Nat.reduceBEq, Int.reduceToNat, Int.reduceLT, Int.reduceLE, Int.reduceGT, Int.reduceGE, Int.reduceEq, Int.reduceBEq, Int.reduceBNe, Int.reduceNeg, reduceCtorEq]; all_goals ((repeat' refine And.intro ?_ ?_) <;> first | rfl | (simp; done) | (simp; rfl) | (simp [*]; done) | (simp [*]; rfl))) (slices_IndexFunc_Value_con s_67 f_68 f_68_k f_68_cs f_68_h _ hr_72) (.inr rfl) rfl ?_
  refine AL_upto (by exact rfl) (by simp only [go_sem, reduceIte, Nat.reduceAdd, Nat.reduceSub, Nat.reduceMul, Nat.reduceEqDiff, Nat.reduceLT, Nat.reduceLeDiff, Nat.reduceBEq, Int.reduceToNat, Int.reduceLT, Int.reduceLE, Int.reduceGT, Int.reduceGE, Int.reduceEq, Int.reduceBEq, Int.reduceBNe, Int.reduceNeg, reduceCtorEq]; exact rfl) ?_
  refine AL_nil ?_
  refine thenA_n ?_
  refine awp_ret ?_
  cases h
  refine retQ_ret (by simp only [Try.results48]; simp only [go_sem, reduceIte, Nat.reduceAdd, Nat.reduceSub, Nat.reduceMul, Nat.reduceEqDiff, Nat.reduceLT, Nat.reduceLeDiff, Nat.reduceBEq, Int.reduceToNat, Int.reduceLT, Int.reduceLE, Int.reduceGT, Int.reduceGE, Int.reduceEq, Int.reduceBEq, Int.reduceBNe, Int.reduceNeg, reduceCtorEq]; exact rfl) ?_
  simp only [go_sem, reduceIte, Nat.reduceAdd, Nat.reduceSub, Nat.reduceMul, Nat.reduceEqDiff, Nat.reduceLT, Nat.reduceLeDiff, Nat.reduceBEq, Int.reduceToNat, Int.reduceLT, Int.reduceLE, Int.reduceGT, Int.reduceGE, Int.reduceEq, Int.reduceBEq, Int.reduceBNe, Int.reduceNeg, reduceCtorEq]
  all_goals ((repeat' refine And.intro ?_ ?_) <;> first | rfl | (simp; done) | (simp; rfl) | (simp [*]; done) | (simp [*]; rfl))
end Go.Proofs.Ytdmddoljldjjeaa
set_option linter.unusedVariables false
set_option linter.unusedSimpArgs false
namespace Go.Proofs.Ytdmddoljldjjeaa
open Go Go.Ab
set_option maxHeartbeats 4000000 in
theorem value_Valid_con (v_74 : Value) (r_82 : Bool) (h : value_Valid v_74 = some r_82) : Con Try.prog 50 [(encValue v_74)] (.bool r_82) := by
  refine ⟨Try.call50, ?_⟩
  refine pure_of_awp Try.func50 rfl Try.ntmps50 (by simp) fun X w => ?_
  show AWp _ _ _ ⟨[(0, .p (encValue v_74))], []⟩
  simp only [value_Valid] at h
  refine awp_seq ?_
  refine awp_region ?_
  refine AL_upto (by exact rfl) (by simp only [go_sem, reduceIte, Nat.reduceAdd, Nat.reduceSub, Nat.reduceMul, Nat.reduceEqDiff, Nat.reduceLT, Nat.reduceLeDiff, Nat.reduceBEq, Int.reduceToNat, Int.reduceLT, Int.reduceLE, Int.reduceGT, Int.reduceGE, Int.reduceEq, Int.reduceBEq, Int.reduceBNe, Int.reduceNeg, reduceCtorEq]; exact rfl) ?_
  refine AL_nil ?_
  refine thenA_n ?_
  refine awp_seq ?_
  refine awp_seq ?_
  refine awp_region ?_
  refine AL_upto (by exact rfl) (by simp only [go_sem, reduceIte, Nat.reduceAdd, Nat.reduceSub, Nat.reduceMul, Nat.reduceEqDiff, Nat.reduceLT, Nat.reduceLeDiff, Nat.reduceBEq, Int.reduceToNat, Int.reduceLT, Int.reduceLE, Int.reduceGT, Int.reduceGE, Int.reduceEq, Int.reduceBEq, Int.reduceBNe, Int.reduceNeg, reduceCtorEq]; exact rfl) ?_
  refine AL_nil ?_
  refine thenA_n ?_
  refine awp_block ?_
  refine awp_seq ?_
  refine awp_region ?_
  refine AL_upto (by exact rfl) (by simp only [go_sem, reduceIte, Nat.reduceAdd, Nat.reduceSub, Nat.reduceMul, Nat.reduceEqDiff, Nat.reduceLT, Nat.reduceLeDiff, Nat.reduceBEq, Int.reduceToNat, Int.reduceLT, Int.reduceLE, Int.reduceGT, Int.reduceGE, Int.reduceEq, Int.reduceBEq, Int.reduceBNe, Int.reduceNeg, reduceCtorEq]; exact rfl) ?_
  refine AL_nil ?_
  refine thenA_n ?_
  by_cases hb_75 : (v_74.Kind == 0) = true
  · rw [if_pos hb_75] at h
    refine awp_ct (by simp only [go_sem, reduceIte, Nat.reduceAdd, Nat.reduceSub, Nat.reduceMul, Nat.reduceEqDiff, Nat.reduceLT, Nat.reduceLeDiff, Nat.reduceBEq, Int.reduceToNat, Int.reduceLT, Int.reduceLE, Int.reduceGT, Int.reduceGE, Int.reduceEq, Int.reduceBEq, Int.reduceBNe, Int.reduceNeg, reduceCtorEq, hb_75]) ?_
    refine awp_seq ?_
    refine awp_region ?_
    refine AL_upto (by exact rfl) (by simp only [go_sem, reduceIte, Nat.reduceAdd, Nat.reduceSub, Nat.reduceMul, Nat.reduceEqDiff, Nat.reduceLT, Nat.reduceLeDiff, Nat.reduceBEq, Int.reduceToNat, Int.reduceLT, Int.reduceLE, Int.reduceGT, Int.reduceGE, Int.reduceEq, Int.reduceBEq, Int.reduceBNe, Int.reduceNeg, reduceCtorEq, hb_75]; exact rfl) ?_
    by_cases hb_76 : (v_74.Num == 0) = true
    · rw [if_pos hb_76] at h
      refine AL_known (d := 10) (v := .p (.bool true)) (by simp only [go_sem, reduceIte, Nat.reduceAdd, Nat.reduceSub, Nat.reduceMul, Nat.reduceEqDiff, Nat.reduceLT, Nat.reduceLeDiff, Nat.reduceBEq, Int.reduceToNat, Int.reduceLT, Int.reduceLE, Int.reduceGT, Int.reduceGE, Int.reduceEq, Int.reduceBEq, Int.reduceBNe, Int.reduceNeg, reduceCtorEq, hb_75, hb_76]) ?_
      refine AL_gt' (guard_true' rfl rfl (by exact rfl) (by exact rfl)) rfl (by simp only [go_sem, reduceIte, Nat.reduceAdd, Nat.reduceSub, Nat.reduceMul, Nat.reduceEqDiff, Nat.reduceLT, Nat.reduceLeDiff, Nat.reduceBEq, Int.reduceToNat, Int.reduceLT, Int.reduceLE, Int.reduceGT, Int.reduceGE, Int.reduceEq, Int.reduceBEq, Int.reduceBNe, Int.reduceNeg, reduceCtorEq, hb_75, hb_76]; exact rfl) ?_
      refine AL_gt' (guard_true' rfl rfl (by exact rfl) (by exact rfl)) rfl (by simp only [go_sem, reduceIte, Nat.reduceAdd, Nat.reduceSub, Nat.reduceMul, Nat.reduceEqDiff, Nat.reduceLT, Nat.reduceLeDiff, Nat.reduceBEq, Int.reduceToNat, Int.reduceLT, Int.reduceLE, Int.reduceGT, Int.reduceGE, Int.reduceEq, Int.reduceBEq, Int.reduceBNe, Int.reduceNeg, reduceCtorEq, hb_75, hb_76]; exact rfl) ?_
      refine AL_gt' (guard_true' rfl rfl (by exact rfl) (by exact rfl)) rfl (by simp only [go_sem, reduceIte, Nat.reduceAdd, Nat.reduceSub, Nat.reduceMul, Nat.reduceEqDiff, Nat.reduceLT, Nat.reduceLeDiff, Nat.reduceBEq, Int.reduceToNat, Int.reduceLT, Int.reduceLE, Int.reduceGT, Int.reduceGE, Int.reduceEq, Int.reduceBEq, Int.reduceBNe, Int.reduceNeg, reduceCtorEq, hb_75, hb_76]; exact rfl) ?_
      refine AL_upto (by exact rfl) (by simp only [go_sem, reduceIte, Nat.reduceAdd, Nat.reduceSub, Nat.reduceMul, Nat.reduceEqDiff, Nat.reduceLT, Nat.reduceLeDiff, Nat.reduceBEq, Int.reduceToNat, Int.reduceLT, Int.reduceLE, Int.reduceGT, Int.reduceGE, Int.reduceEq, Int.reduceBEq, Int.reduceBNe, Int.reduceNeg, reduceCtorEq, hb_75, hb_76]; exact rfl) ?_
      refine AL_nil ?_
      refine thenA_n ?_
      refine awp_ret ?_
      refine blockA_ret ?_
      refine thenA_ret ?_
      cases h
      refine retQ_ret (by simp only [Try.results50]; simp only [go_sem, reduceIte, Nat.reduceAdd, Nat.reduceSub, Nat.reduceMul, Nat.reduceEqDiff, Nat.reduceLT, Nat.reduceLeDiff, Nat.reduceBEq, Int.reduceToNat, Int.reduceLT, Int.reduceLE, Int.reduceGT, Int.reduceGE, Int.reduceEq, Int.reduceBEq, Int.reduceBNe, Int.reduceNeg, reduceCtorEq, hb_75, hb_76]; exact rfl) ?_
      simp only [go_sem, reduceIte, Nat.reduceAdd, Nat.reduceSub, Nat.reduceMul, Nat.reduceEqDiff, Nat.reduceLT, Nat.reduceLeDiff, Nat.reduceBEq, Int.reduceToNat, Int.reduceLT, Int.reduceLE, Int.reduceGT, Int.reduceGE, Int.reduceEq, Int.reduceBEq, Int.reduceBNe, Int.reduceNeg, reduceCtorEq, hb_75, hb_76]
      all_goals ((repeat' refine And.intro ?_ ?_) <;> first | rfl | (simp; done) | (simp; rfl) | (simp [*]; done) | (simp [*]; rfl))
    · rw [if_neg hb_76] at h
      have hb_76F := Bool.eq_false_iff.2 hb_76
      refine AL_known (d := 10) (v := .p (.bool false)) (by simp only [go_sem, reduceIte, Nat.reduceAdd, Nat.reduceSub, Nat.reduceMul, Nat.reduceEqDiff, Nat.reduceLT, Nat.reduceLeDiff, Nat.reduceBEq, Int.reduceToNat, Int.reduceLT, Int.reduceLE, Int.reduceGT, Int.reduceGE, Int.reduceEq, Int.reduceBEq, Int.reduceBNe, Int.reduceNeg, reduceCtorEq, hb_75, hb_76F]) ?_
      refine AL_skips (by exact rfl) ?_
      refine AL_upto (by exact rfl) (by simp only [go_sem, reduceIte, Nat.reduceAdd, Nat.reduceSub, Nat.reduceMul, Nat.reduceEqDiff, Nat.reduceLT, Nat.reduceLeDiff, Nat.reduceBEq, Int.reduceToNat, Int.reduceLT, Int.reduceLE, Int.reduceGT, Int.reduceGE, Int.reduceEq, Int.reduceBEq, Int.reduceBNe, Int.reduceNeg, reduceCtorEq, hb_75, hb_76F]; exact rfl) ?_
      refine AL_nil ?_
      refine thenA_n ?_
      refine awp_ret ?_
      refine blockA_ret ?_
      refine thenA_ret ?_
      cases h
      refine retQ_ret (by simp only [Try.results50]; simp only [go_sem, reduceIte, Nat.reduceAdd, Nat.reduceSub, Nat.reduceMul, Nat.reduceEqDiff, Nat.reduceLT, Nat.reduceLeDiff, Nat.reduceBEq, Int.reduceToNat, Int.reduceLT, Int.reduceLE, Int.reduceGT, Int.reduceGE, Int.reduceEq, Int.reduceBEq, Int.reduceBNe, Int.reduceNeg, reduceCtorEq, hb_75, hb_76F]; exact rfl) ?_
      simp only [go_sem, reduceIte, Nat.reduceAdd, Nat.reduceSub, Nat.reduceMul, Nat.reduceEqDiff, Nat.reduceLT, Nat.reduceLeDiff, Nat.reduceBEq, Int.reduceToNat, Int.reduceLT, Int.reduceLE, Int.reduceGT, Int.reduceGE, Int.reduceEq, Int.reduceBEq, Int.reduceBNe, Int.reduceNeg, reduceCtorEq, hb_75, hb_76F]
      all_goals ((repeat' refine And.intro ?_ ?_) <;> first | rfl | (simp; done) | (simp; rfl) | (simp [*]; done) | (simp [*]; rfl))
  · rw [if_neg hb_75] at h
    have hb_75F := Bool.eq_false_iff.2 hb_75
    refine awp_cf (by simp only [go_sem, reduceIte, Nat.reduceAdd, Nat.reduceSub, Nat.reduceMul, Nat.reduceEqDiff, Nat.reduceLT, Nat.reduceLeDiff, Nat.reduceBEq, Int.reduceToNat, Int.reduceLT, Int.reduceLE, Int.reduceGT, Int.reduceGE, Int.reduceEq, Int.reduceBEq, Int.reduceBNe, Int.reduceNeg, reduceCtorEq, hb_75F]) ?_
    refine awp_seq ?_
    refine awp_region ?_
    refine AL_upto (by exact rfl) (by simp only [go_sem, reduceIte, Nat.reduceAdd, Nat.reduceSub, Nat.reduceMul, Nat.reduceEqDiff, Nat.reduceLT, Nat.reduceLeDiff, Nat.reduceBEq, Int.reduceToNat, Int.reduceLT, Int.reduceLE, Int.reduceGT, Int.reduceGE, Int.reduceEq, Int.reduceBEq, Int.reduceBNe, Int.reduceNeg, reduceCtorEq, hb_75F]; exact rfl) ?_
    refine AL_nil ?_
    refine thenA_n ?_
    by_cases hb_77 : (v_74.Kind == 1) = true
    · rw [if_pos hb_77] at h
      refine awp_ct (by simp only [go_sem, reduceIte, Nat.reduceAdd, Nat.reduceSub, Nat.reduceMul, Nat.reduceEqDiff, Nat.reduceLT, Nat.reduceLeDiff, Nat.reduceBEq, Int.reduceToNat, Int.reduceLT, Int.reduceLE, Int.reduceGT, Int.reduceGE, Int.reduceEq, Int.reduceBEq, Int.reduceBNe, Int.reduceNeg, reduceCtorEq, hb_75F, hb_77]) ?_
      refine awp_seq ?_
      refine awp_region ?_
      refine AL_upto (by exact rfl) (by simp only [go_sem, reduceIte, Nat.reduceAdd, Nat.reduceSub, Nat.reduceMul, Nat.reduceEqDiff, Nat.reduceLT, Nat.reduceLeDiff, Nat.reduceBEq, Int.reduceToNat, Int.reduceLT, Int.reduceLE, Int.reduceGT, Int.reduceGE, Int.reduceEq, Int.reduceBEq, Int.reduceBNe, Int.reduceNeg, reduceCtorEq, hb_75F, hb_77]; exact rfl) ?_
      refine AL_nil ?_
      refine thenA_n ?_
      refine awp_ret ?_
      refine blockA_ret ?_
      refine thenA_ret ?_
      cases h
      refine retQ_ret (by simp only [Try.results50]; simp only [go_sem, reduceIte, Nat.reduceAdd, Nat.reduceSub, Nat.reduceMul, Nat.reduceEqDiff, Nat.reduceLT, Nat.reduceLeDiff, Nat.reduceBEq, Int.reduceToNat, Int.reduceLT, Int.reduceLE, Int.reduceGT, Int.reduceGE, Int.reduceEq, Int.reduceBEq, Int.reduceBNe, Int.reduceNeg, reduceCtorEq, hb_75F, hb_77]; exact rfl) ?_
      simp only [go_sem, reduceIte, Nat.reduceAdd, Nat.reduceSub, Nat.reduceMul, Nat.reduceEqDiff, Nat.reduceLT, Nat.reduceLeDiff, Nat.reduceBEq, Int.reduceToNat, Int.reduceLT, Int.reduceLE, Int.reduceGT, Int.reduceGE, Int.reduceEq, Int.reduceBEq, Int.reduceBNe, Int.reduceNeg, reduceCtorEq, hb_75F, hb_77]
      all_goals ((repeat' refine And.intro ?_ ?_) <;> first | rfl | (simp; done) | (simp; rfl) | (simp [*]; done) | (simp [*]; rfl))
    · rw [if_neg hb_77] at h
      have hb_77F := Bool.eq_false_iff.2 hb_77
      refine awp_cf (by simp only [go_sem, reduceIte, Nat.reduceAdd, Nat.reduceSub, Nat.reduceMul, Nat.reduceEqDiff, Nat.reduceLT, Nat.reduceLeDiff, Nat.reduceBEq, Int.reduceToNat, Int.reduceLT, Int.reduceLE, Int.reduceGT, Int.reduceGE, Int.reduceEq, Int.reduceBEq, Int.reduceBNe, Int.reduceNeg, reduceCtorEq, hb_75F, hb_77F]) ?_
      refine awp_seq ?_
      refine awp_region ?_
      refine AL_upto (by exact rfl) (by simp only [go_sem, reduceIte, Nat.reduceAdd, Nat.reduceSub, Nat.reduceMul, Nat.reduceEqDiff, Nat.reduceLT, Nat.reduceLeDiff, Nat.reduceBEq, Int.reduceToNat, Int.reduceLT, Int.reduceLE, Int.reduceGT, Int.reduceGE, Int.reduceEq, Int.reduceBEq, Int.reduceBNe, Int.reduceNeg, reduceCtorEq, hb_75F, hb_77F]; exact rfl) ?_
      refine AL_nil ?_
      refine thenA_n ?_
      by_cases hb_78 : (v_74.Kind == 2) = true
      · rw [if_pos hb_78] at h
        refine awp_ct (by simp only [go_sem, reduceIte, Nat.reduceAdd, Nat.reduceSub, Nat.reduceMul, Nat.reduceEqDiff, Nat.reduceLT, Nat.reduceLeDiff, Nat.reduceBEq, Int.reduceToNat, Int.reduceLT, Int.reduceLE, Int.reduceGT, Int.reduceGE, Int.reduceEq, Int.reduceBEq, Int.reduceBNe, Int.reduceNeg, reduceCtorEq, hb_75F, hb_77F, hb_78]) ?_
        refine awp_seq ?_
        refine awp_region ?_
        refine AL_upto (by exact rfl) (by simp only [go_sem, reduceIte, Nat.reduceAdd, Nat.reduceSub, Nat.reduceMul, Nat.reduceEqDiff, Nat.reduceLT, Nat.reduceLeDiff, Nat.reduceBEq, Int.reduceToNat, Int.reduceLT, Int.reduceLE, Int.reduceGT, Int.reduceGE, Int.reduceEq, Int.reduceBEq, Int.reduceBNe, Int.reduceNeg, reduceCtorEq, hb_75F, hb_77F, hb_78]; exact rfl) ?_
        by_cases hb_79 : (v_74.Num == 0) = true
        · rw [if_pos hb_79] at h
          refine AL_known (d := 25) (v := .p (.bool true)) (by simp only [go_sem, reduceIte, Nat.reduceAdd, Nat.reduceSub, Nat.reduceMul, Nat.reduceEqDiff, Nat.reduceLT, Nat.reduceLeDiff, Nat.reduceBEq, Int.reduceToNat, Int.reduceLT, Int.reduceLE, Int.reduceGT, Int.reduceGE, Int.reduceEq, Int.reduceBEq, Int.reduceBNe, Int.reduceNeg, reduceCtorEq, hb_75F, hb_77F, hb_78, hb_79]) ?_
          refine AL_gt' (guard_true' rfl rfl (by exact rfl) (by exact rfl)) rfl (by simp only [go_sem, reduceIte, Nat.reduceAdd, Nat.reduceSub, Nat.reduceMul, Nat.reduceEqDiff, Nat.reduceLT, Nat.reduceLeDiff, Nat.reduceBEq, Int.reduceToNat, Int.reduceLT, Int.reduceLE, Int.reduceGT, Int.reduceGE, Int.reduceEq, Int.reduceBEq, Int.reduceBNe, Int.reduceNeg, reduceCtorEq, hb_75F, hb_77F, hb_78, hb_79]; exact rfl) ?_
          refine AL_gt' (guard_true' rfl rfl (by exact rfl) (by exact rfl)) rfl (by simp only [go_sem, reduceIte, Nat.reduceAdd, Nat.reduceSub, Nat.reduceMul, Nat.reduceEqDiff, Nat.reduceLT, Nat.reduceLeDiff, Nat.reduceBEq, Int.reduceToNat, Int.reduceLT, Int.reduceLE, Int.reduceGT, Int.reduceGE, Int.reduceEq, Int.reduceBEq, Int.reduceBNe, Int.reduceNeg, reduceCtorEq, hb_75F, hb_77F, hb_78, hb_79]; exact rfl) ?_
          refine AL_gt' (guard_true' rfl rfl (by exact rfl) (by exact rfl)) rfl (by simp only [go_sem, reduceIte, Nat.reduceAdd, Nat.reduceSub, Nat.reduceMul, Nat.reduceEqDiff, Nat.reduceLT, Nat.reduceLeDiff, Nat.reduceBEq, Int.reduceToNat, Int.reduceLT, Int.reduceLE, Int.reduceGT, Int.reduceGE, Int.reduceEq, Int.reduceBEq, Int.reduceBNe, Int.reduceNeg, reduceCtorEq, hb_75F, hb_77F, hb_78, hb_79]; exact rfl) ?_
          refine AL_gt' (guard_true' rfl rfl (by exact rfl) (by exact rfl)) rfl (by simp only [go_sem, reduceIte, Nat.reduceAdd, Nat.reduceSub, Nat.reduceMul, Nat.reduceEqDiff, Nat.reduceLT, Nat.reduceLeDiff, Nat.reduceBEq, Int.reduceToNat, Int.reduceLT, Int.reduceLE, Int.reduceGT, Int.reduceGE, Int.reduceEq, Int.reduceBEq, Int.reduceBNe, Int.reduceNeg, reduceCtorEq, hb_75F, hb_77F, hb_78, hb_79]; exact rfl) ?_
          refine AL_upto (by exact rfl) (by simp only [go_sem, reduceIte, Nat.reduceAdd, Nat.reduceSub, Nat.reduceMul, Nat.reduceEqDiff, Nat.reduceLT, Nat.reduceLeDiff, Nat.reduceBEq, Int.reduceToNat, Int.reduceLT, Int.reduceLE, Int.reduceGT, Int.reduceGE, Int.reduceEq, Int.reduceBEq, Int.reduceBNe, Int.reduceNeg, reduceCtorEq, hb_75F, hb_77F, hb_78, hb_79]; exact rfl) ?_
          refine AL_nil ?_
          refine thenA_n ?_
          refine awp_ret ?_
          refine blockA_ret ?_
          refine thenA_ret ?_
          cases h
          refine retQ_ret (by simp only [Try.results50]; simp only [go_sem, reduceIte, Nat.reduceAdd, Nat.reduceSub, Nat.reduceMul, Nat.reduceEqDiff, Nat.reduceLT, Nat.reduceLeDiff, Nat.reduceBEq, Int.reduceToNat, Int.reduceLT, Int.reduceLE, Int.reduceGT, Int.reduceGE, Int.reduceEq, Int.reduceBEq, Int.reduceBNe, Int.reduceNeg, reduceCtorEq, hb_75F, hb_77F, hb_78, hb_79]; exact rfl) ?_
          simp only [go_sem, reduceIte, Nat.reduceAdd, Nat.reduceSub, Nat.reduceMul, Nat.reduceEqDiff, Nat.reduceLT, Nat.reduceLeDiff, Nat.reduceBEq, Int.reduceToNat, Int.reduceLT, Int.reduceLE, Int.reduceGT, Int.reduceGE, Int.reduceEq, Int.reduceBEq, Int.reduceBNe, Int.reduceNeg, reduceCtorEq, hb_75F, hb_77F, hb_78, hb_79]
          all_goals ((repeat' refine And.intro ?_ ?_) <;> first | rfl | (simp; done) | (simp; rfl) | (simp [*]; done) | (simp [*]; rfl))
        · rw [if_neg hb_79] at h
          have hb_79F := Bool.eq_false_iff.2 hb_79
          refine AL_known (d := 25) (v := .p (.bool false)) (by simp only [go_sem, reduceIte, Nat.reduceAdd, Nat.reduceSub, Nat.reduceMul, Nat.reduceEqDiff, Nat.reduceLT, Nat.reduceLeDiff, Nat.reduceBEq, Int.reduceToNat, Int.reduceLT, Int.reduceLE, Int.reduceGT, Int.reduceGE, Int.reduceEq, Int.reduceBEq, Int.reduceBNe, Int.reduceNeg, reduceCtorEq, hb_75F, hb_77F, hb_78, hb_79F]) ?_
          refine AL_skips (by exact rfl) ?_
          refine AL_upto (by exact rfl) (by simp only [go_sem, reduceIte, Nat.reduceAdd, Nat.reduceSub, Nat.reduceMul, Nat.reduceEqDiff, Nat.reduceLT, Nat.reduceLeDiff, Nat.reduceBEq, Int.reduceToNat, Int.reduceLT, Int.reduceLE, Int.reduceGT, Int.reduceGE, Int.reduceEq, Int.reduceBEq, Int.reduceBNe, Int.reduceNeg, reduceCtorEq, hb_75F, hb_77F, hb_78, hb_79F]; exact rfl) ?_
          refine AL_nil ?_
          refine thenA_n ?_
          refine awp_ret ?_
          refine blockA_ret ?_
          refine thenA_ret ?_
          cases h
          refine retQ_ret (by simp only [Try.results50]; simp only [go_sem, reduceIte, Nat.reduceAdd, Nat.reduceSub, Nat.reduceMul, Nat.reduceEqDiff, Nat.reduceLT, Nat.reduceLeDiff, Nat.reduceBEq, Int.reduceToNat, Int.reduceLT, Int.reduceLE, Int.reduceGT, Int.reduceGE, Int.reduceEq, Int.reduceBEq, Int.reduceBNe, Int.reduceNeg, reduceCtorEq, hb_75F, hb_77F, hb_78, hb_79F]; exact rfl) ?_
          simp only [go_sem, reduceIte, Nat.reduceAdd, Nat.reduceSub, Nat.reduceMul, Nat.reduceEqDiff, Nat.reduceLT, Nat.reduceLeDiff, Nat.reduceBEq, Int.reduceToNat, Int.reduceLT, Int.reduceLE, Int.reduceGT, Int.reduceGE, Int.reduceEq, Int.reduceBEq, Int.reduceBNe, Int.reduceNeg, reduceCtorEq, hb_75F, hb_77F, hb_78, hb_79F]
          all_goals ((repeat' refine And.intro ?_ ?_) <;> first | rfl | (simp; done) | (simp; rfl) | (simp [*]; done) | (simp [*]; rfl))
      · rw [if_neg hb_78] at h
        have hb_78F := Bool.eq_false_iff.2 hb_78
        refine awp_cf (by simp only [go_sem, reduceIte, Nat.reduceAdd, Nat.reduceSub, Nat.reduceMul, Nat.reduceEqDiff, Nat.reduceLT, Nat.reduceLeDiff, Nat.reduceBEq, Int.reduceToNat, Int.reduceLT, Int.reduceLE, Int.reduceGT, Int.reduceGE, Int.reduceEq, Int.reduceBEq, Int.reduceBNe, Int.reduceNeg, reduceCtorEq, hb_75F, hb_77F, hb_78F]) ?_
        refine awp_seq ?_
        refine awp_region ?_
        refine AL_upto (by exact rfl) (by simp only [go_sem, reduceIte, Nat.reduceAdd, Nat.reduceSub, Nat.reduceMul, Nat.reduceEqDiff, Nat.reduceLT, Nat.reduceLeDiff, Nat.reduceBEq, Int.reduceToNat, Int.reduceLT, Int.reduceLE, Int.reduceGT, Int.reduceGE, Int.reduceEq, Int.reduceBEq, Int.reduceBNe, Int.reduceNeg, reduceCtorEq, hb_75F, hb_77F, hb_78F]; exact rfl) ?_
        refine AL_nil ?_
        refine thenA_n ?_
        by_cases hb_80 : (v_74.Kind == 3) = true
        · rw [if_pos hb_80] at h
          refine awp_ct (by simp only [go_sem, reduceIte, Nat.reduceAdd, Nat.reduceSub, Nat.reduceMul, Nat.reduceEqDiff, Nat.reduceLT, Nat.reduceLeDiff, Nat.reduceBEq, Int.reduceToNat, Int.reduceLT, Int.reduceLE, Int.reduceGT, Int.reduceGE, Int.reduceEq, Int.reduceBEq, Int.reduceBNe, Int.reduceNeg, reduceCtorEq, hb_75F, hb_77F, hb_78F, hb_80]) ?_
          refine awp_seq ?_
          refine awp_region ?_
          refine AL_upto (by exact rfl) (by simp only [go_sem, reduceIte, Nat.reduceAdd, Nat.reduceSub, Nat.reduceMul, Nat.reduceEqDiff, Nat.reduceLT, Nat.reduceLeDiff, Nat.reduceBEq, Int.reduceToNat, Int.reduceLT, Int.reduceLE, Int.reduceGT, Int.reduceGE, Int.reduceEq, Int.reduceBEq, Int.reduceBNe, Int.reduceNeg, reduceCtorEq, hb_75F, hb_77F, hb_78F, hb_80]; exact rfl) ?_
          by_cases hb_81 : v_74.Num ≥ 1
          · rw [if_pos hb_81] at h
            have hb_81T := eq_true hb_81
            refine AL_known (d := 36) (v := .p (.bool true)) (by simp only [go_sem, reduceIte, Nat.reduceAdd, Nat.reduceSub, Nat.reduceMul, Nat.reduceEqDiff, Nat.reduceLT, Nat.reduceLeDiff, Nat.reduceBEq, Int.reduceToNat, Int.reduceLT, Int.reduceLE, Int.reduceGT, Int.reduceGE, Int.reduceEq, Int.reduceBEq, Int.reduceBNe, Int.reduceNeg, reduceCtorEq, hb_75F, hb_77F, hb_78F, hb_80, hb_81T]) ?_
            refine AL_gt' (guard_true' rfl rfl (by exact rfl) (by exact rfl)) rfl (by simp only [go_sem, reduceIte, Nat.reduceAdd, Nat.reduceSub, Nat.reduceMul, Nat.reduceEqDiff, Nat.reduceLT, Nat.reduceLeDiff, Nat.reduceBEq, Int.reduceToNat, Int.reduceLT, Int.reduceLE, Int.reduceGT, Int.reduceGE, Int.reduceEq, Int.reduceBEq, Int.reduceBNe, Int.reduceNeg, reduceCtorEq, hb_75F, hb_77F, hb_78F, hb_80, hb_81T]; exact rfl) ?_
            refine AL_gt' (guard_true' rfl rfl (by exact rfl) (by exact rfl)) rfl (by simp only [go_sem, reduceIte, Nat.reduceAdd, Nat.reduceSub, Nat.reduceMul, Nat.reduceEqDiff, Nat.reduceLT, Nat.reduceLeDiff, Nat.reduceBEq, Int.reduceToNat, Int.reduceLT, Int.reduceLE, Int.reduceGT, Int.reduceGE, Int.reduceEq, Int.reduceBEq, Int.reduceBNe, Int.reduceNeg, reduceCtorEq, hb_75F, hb_77F, hb_78F, hb_80, hb_81T]; exact rfl) ?_
            refine AL_gt' (guard_true' rfl rfl (by exact rfl) (by exact rfl)) rfl (by simp only [go_sem, reduceIte, Nat.reduceAdd, Nat.reduceSub, Nat.reduceMul, Nat.reduceEqDiff, Nat.reduceLT, Nat.reduceLeDiff, Nat.reduceBEq, Int.reduceToNat, Int.reduceLT, Int.reduceLE, Int.reduceGT, Int.reduceGE, Int.reduceEq, Int.reduceBEq, Int.reduceBNe, Int.reduceNeg, reduceCtorEq, hb_75F, hb_77F, hb_78F, hb_80, hb_81T]; exact rfl) ?_
            refine AL_upto (by exact rfl) (by simp only [go_sem, reduceIte, Nat.reduceAdd, Nat.reduceSub, Nat.reduceMul, Nat.reduceEqDiff, Nat.reduceLT, Nat.reduceLeDiff, Nat.reduceBEq, Int.reduceToNat, Int.reduceLT, Int.reduceLE, Int.reduceGT, Int.reduceGE, Int.reduceEq, Int.reduceBEq, Int.reduceBNe, Int.reduceNeg, reduceCtorEq, hb_75F, hb_77F, hb_78F, hb_80, hb_81T]; exact rfl) ?_
            refine AL_nil ?_
            refine thenA_n ?_
            refine awp_ret ?_
            refine blockA_ret ?_
            refine thenA_ret ?_
            cases h
            refine retQ_ret (by simp only [Try.results50]; simp only [go_sem, reduceIte, Nat.reduceAdd, Nat.reduceSub, Nat.reduceMul, Nat.reduceEqDiff, Nat.reduceLT, Nat.reduceLeDiff, Nat.reduceBEq, Int.reduceToNat, Int.reduceLT, Int.reduceLE, Int.reduceGT, Int.reduceGE, Int.reduceEq, Int.reduceBEq, Int.reduceBNe, Int.reduceNeg, reduceCtorEq, hb_75F, hb_77F, hb_78F, hb_80, hb_81T]; exact rfl) ?_
            simp only [go_sem, reduceIte, Nat.reduceAdd, Nat.reduceSub, Nat.reduceMul, Nat.reduceEqDiff, Nat.reduceLT, Nat.reduceLeDiff, Nat.reduceBEq, Int.reduceToNat, Int.reduceLT, Int.reduceLE, Int.reduceGT, Int.reduceGE, Int.reduceEq, Int.reduceBEq, Int.reduceBNe, Int.reduceNeg, reduceCtorEq, hb_75F, hb_77F, hb_78F, hb_80, hb_81T]
            all_goals ((repeat' refine And.intro ?_ ?_) <;> first | rfl | (simp; done) | (simp; rfl) | (simp [*]; done) | (simp [*]; rfl))
          · rw [if_neg hb_81] at h
            have hb_81T := eq_false hb_81
            refine AL_known (d := 36) (v := .p (.bool false)) (by simp only [go_sem, reduceIte, Nat.reduceAdd, Nat.reduceSub, Nat.reduceMul, Nat.reduceEqDiff, Nat.reduceLT, Nat.reduceLeDiff, Nat.reduceBEq, Int.reduceToNat, Int.reduceLT, Int.reduceLE, Int.reduceGT, Int.reduceGE, Int.reduceEq, Int.reduceBEq, Int.reduceBNe, Int.reduceNeg, reduceCtorEq, hb_75F, hb_77F, hb_78F, hb_80, hb_81T]) ?_
            refine AL_skips (by exact rfl) ?_
            refine AL_upto (by exact rfl) (by simp only [go_sem, reduceIte, Nat.reduceAdd, Nat.reduceSub, Nat.reduceMul, Nat.reduceEqDiff, Nat.reduceLT, Nat.reduceLeDiff, Nat.reduceBEq, Int.reduceToNat, Int.reduceLT, Int.reduceLE, Int.reduceGT, Int.reduceGE, Int.reduceEq, Int.reduceBEq, Int.reduceBNe, Int.reduceNeg, reduceCtorEq, hb_75F, hb_77F, hb_78F, hb_80, hb_81T]; exact rfl) ?_
            refine AL_nil ?_
            refine thenA_n ?_
            refine awp_ret ?_
            refine blockA_ret ?_
            refine thenA_ret ?_
            cases h
            refine retQ_ret (by simp only [Try.results50]; simp only [go_sem, reduceIte, Nat.reduceAdd, Nat.reduceSub, Nat.reduceMul, Nat.reduceEqDiff, Nat.reduceLT, Nat.reduceLeDiff, Nat.reduceBEq, Int.reduceToNat, Int.reduceLT, Int.reduceLE, Int.reduceGT, Int.reduceGE, Int.reduceEq, Int.reduceBEq, Int.reduceBNe, Int.reduceNeg, reduceCtorEq, hb_75F, hb_77F, hb_78F, hb_80, hb_81T]; exact rfl) ?_
            simp only [go_sem, reduceIte, Nat.reduceAdd, Nat.reduceSub, Nat.reduceMul, Nat.reduceEqDiff, Nat.reduceLT, Nat.reduceLeDiff, Nat.reduceBEq, Int.reduceToNat, Int.reduceLT, Int.reduceLE, Int.reduceGT, Int.reduceGE, Int.reduceEq, Int.reduceBEq, Int.reduceBNe, Int.reduceNeg, reduceCtorEq, hb_75F, hb_77F, hb_78F, hb_80, hb_81T]
            all_goals ((repeat' refine And.intro ?_ ?_) <;> first | rfl | (simp; done) | (simp; rfl) | (simp [*]; done) | (simp [*]; rfl))
        · rw [if_neg hb_80] at h
          have hb_80F := Bool.eq_false_iff.2 hb_80
          refine awp_cf (by simp only [go_sem, reduceIte, Nat.reduceAdd, Nat.reduceSub, Nat.reduceMul, Nat.reduceEqDiff, Nat.reduceLT, Nat.reduceLeDiff, Nat.reduceBEq, Int.reduceToNat, Int.reduceLT, Int.reduceLE, Int.reduceGT, Int.reduceGE, Int.reduceEq, Int.reduceBEq, Int.reduceBNe, Int.reduceNeg, reduceCtorEq, hb_75F, hb_77F, hb_78F, hb_80F]) ?_
          refine awp_skip ?_
          refine blockA_n ?_
          refine thenA_n ?_
          refine awp_seq ?_
          refine awp_region ?_
          refine AL_upto (by exact rfl) (by simp only [go_sem, reduceIte, Nat.reduceAdd, Nat.reduceSub, Nat.reduceMul, Nat.reduceEqDiff, Nat.reduceLT, Nat.reduceLeDiff, Nat.reduceBEq, Int.reduceToNat, Int.reduceLT, Int.reduceLE, Int.reduceGT, Int.reduceGE, Int.reduceEq, Int.reduceBEq, Int.reduceBNe, Int.reduceNeg, reduceCtorEq, hb_75F, hb_77F, hb_78F, hb_80F]; exact rfl) ?_
          refine AL_nil ?_
          refine thenA_n ?_
          refine awp_ret ?_
          cases h
          refine retQ_ret (by simp only [Try.results50]; simp only [go_sem, reduceIte, Nat.reduceAdd, Nat.reduceSub, Nat.reduceMul, Nat.reduceEqDiff, Nat.reduceLT, Nat.reduceLeDiff, Nat.reduceBEq, Int.reduceToNat, Int.reduceLT, Int.reduceLE, Int.reduceGT, Int.reduceGE, Int.reduceEq, Int.reduceBEq, Int.reduceBNe, Int.reduceNeg, reduceCtorEq, hb_75F, hb_77F, hb_78F, hb_80F]; exact rfl) ?_
          simp only [go_sem, reduceIte, Nat.reduceAdd, Nat.reduceSub, Nat.reduceMul, Nat.reduceEqDiff, Nat.reduceLT, Nat.reduceLeDiff, Nat.reduceBEq, Int.reduceToNat, Int.reduceLT, Int.reduceLE, Int.reduceGT, Int.reduceGE, Int.reduceEq, Int.reduceBEq, Int.reduceBNe, Int.reduceNeg, reduceCtorEq, hb_75F, hb_77F, hb_78F, hb_80F]
          all_goals ((repeat' refine And.intro ?_ ?_) <;> first | rfl | (simp; done) | (simp; rfl) | (simp [*]; done) | (simp [*]; rfl))
end Go.Proofs.Ytdmddoljldjjeaa
set_option linter.unusedVariables false
set_option linter.unusedSimpArgs false
namespace Go.Proofs.Ytdmddoljldjjeaa
open Go Go.Ab
set_option maxHeartbeats 4000000 in
theorem survivor_checkValues_1_con (v_83 : Value) (r_86 : Bool) (h : survivor_checkValues_1 v_83 = some r_86) : Con Try.prog 49 [(encValue v_83)] (.bool r_86) := by
  refine ⟨Try.call49, ?_⟩
  refine pure_of_awp Try.func49 rfl Try.ntmps49 (by simp) fun X w => ?_
  show AWp _ _ _ ⟨[(0, .p (encValue v_83))], []⟩
  simp only [survivor_checkValues_1] at h
  refine awp_seq ?_
  refine awp_region ?_
  refine AL_upto (by exact rfl) (by simp only [go_sem, reduceIte, Nat.reduceAdd, Nat.reduceSub, Nat.reduceMul, Nat.reduceEqDiff, Nat.reduceLT, Nat.reduceLeDiff, Nat.reduceBEq, Int.reduceToNat, Int.reduceLT, Int.reduceLE, Int.reduceGT, Int.reduceGE, Int.reduceEq, Int.reduceBEq, Int.reduceBNe, Int.reduceNeg, reduceCtorEq]; exact rfl) ?_
  refine AL_nil ?_
  refine thenA_n ?_
  refine awp_seq ?_
  refine awp_region ?_
  refine AL_upto (by exact rfl) (by simp only [go_sem, reduceIte, Nat.reduceAdd, Nat.reduceSub, Nat.reduceMul, Nat.reduceEqDiff, Nat.reduceLT, Nat.reduceLeDiff, Nat.reduceBEq, Int.reduceToNat, Int.reduceLT, Int.reduceLE, Int.reduceGT, Int.reduceGE, Int.reduceEq, Int.reduceBEq, Int.reduceBNe, Int.reduceNeg, reduceCtorEq]; exact rfl) ?_
  obtain ⟨r_84, hr_85, h⟩ := Option.bind_eq_some_iff.1 h
  refine AL_con' rfl (guard_none rfl) rfl (by simp only [go_sem, reduceIte, Nat.reduceAdd, Nat.reduceSub, Nat.reduceMul, Nat.reduceEqDiff, Nat.reduceLT, Nat.reduceLeDiff, Nat.reduceBEq, Int.reduceToNat, Int.reduceLT, Int.reduceLE, Int.reduceGT, Int.reduceGE, Int.reduceEq, Int.reduceBEq, Int.reduceBNe, Int.reduceNeg, reduceCtorEq]; exact rfl) (by simp only [go_sem, reduceIte, Nat.reduceAdd, Nat.reduceSub, Nat.reduceMul, Nat.reduceEqDiff, Nat.reduceLT, Nat.reduceLeDiff, Nat.reduceBEq, Int.reduceToNat, Int.reduceLT, Int.reduceLE, Int.reduceGT, Int.reduceGE, Int.reduceEq, Int.reduceBEq, Int.reduceBNe, Int.reduceNeg, reduceCtorEq]; all_goals ((repeat' refine And.intro ?_ ?_) <;> first | rfl | (simp; done) | (simp; rfl) | (simp [*]; done) | (simp [*]; rfl))) (value_Valid_con v_83 _ hr_85) (.inr rfl) rfl ?_
  refine AL_upto (by exact rfl) (by simp only [go_sem, reduceIte, Nat.reduceAdd, Nat.reduceSub, Nat.reduceMul, Nat.reduceEqDiff, Nat.reduceLT, Nat.reduceLeDiff, Nat.reduceBEq, Int.reduceToNat, Int.reduceLT, Int.reduceLE, Int.reduceGT, Int.reduceGE, Int.reduceEq, Int.reduceBEq, Int.reduceBNe, Int.reduceNeg, reduceCtorEq]; exact rfl) ?_
  refine AL_nil ?_
  refine thenA_n ?_
  refine awp_ret ?_
  cases h
  refine retQ_ret (by simp only [Try.results49]; simp only [go_sem, reduceIte, Nat.reduceAdd, Nat.reduceSub, Nat.reduceMul, Nat.reduceEqDiff, Nat.reduceLT, Nat.reduceLeDiff, Nat.reduceBEq, Int.reduceToNat, Int.reduceLT, Int.reduceLE, Int.reduceGT, Int.reduceGE, Int.reduceEq, Int.reduceBEq, Int.reduceBNe, Int.reduceNeg, reduceCtorEq]; exact rfl) ?_
  simp only [go_sem, reduceIte, Nat.reduceAdd, Nat.reduceSub, Nat.reduceMul, Nat.reduceEqDiff, Nat.reduceLT, Nat.reduceLeDiff, Nat.reduceBEq, Int.reduceToNat, Int.reduceLT, Int.reduceLE, Int.reduceGT, Int.reduceGE, Int.reduceEq, Int.reduceBEq, Int.reduceBNe, Int.reduceNeg, reduceCtorEq]
  all_goals ((repeat' refine And.intro ?_ ?_) <;> first | rfl | (simp; done) | (simp; rfl) | (simp [*]; done) | (simp [*]; rfl))
end Go.Proofs.Ytdmddoljldjjeaa
set_option linter.unusedVariables false
set_option linter.unusedSimpArgs false
namespace Go.Proofs.Ytdmddoljldjjeaa
open Go Go.Ab
set_option maxHeartbeats 4000000 in
theorem survivor_checkValues_con (rows_87 : List Row) (r_128 : Int) (h : survivor_checkValues rows_87 = some r_128) : Con Try.prog 25 [(.slc (List.map encRow rows_87))] (.int .i64 r_128) := by
  refine ⟨Try.call25, ?_⟩
  refine pure_of_awp Try.func25 rfl Try.ntmps25 (by simp) fun X w => ?_
  show AWp _ _ _ ⟨[(0, .p (.slc (List.map encRow rows_87)))], []⟩
  simp only [survivor_checkValues] at h
  refine awp_seq ?_
  refine awp_region ?_
  refine AL_upto (by exact rfl) (by simp only [go_sem, reduceIte, Nat.reduceAdd, Nat.reduceSub, Nat.reduceMul, Nat.reduceEqDiff, Nat.reduceLT, Nat.reduceLeDiff, Nat.reduceBEq, Int.reduceToNat, Int.reduceLT, Int.reduceLE, Int.reduceGT, Int.reduceGE, Int.reduceEq, Int.reduceBEq, Int.reduceBNe, Int.reduceNeg, reduceCtorEq]; exact rfl) ?_
  refine AL_nil ?_
  refine thenA_n ?_
  refine awp_seq ?_
  refine awp_region ?_
  refine AL_upto (by exact rfl) (by simp only [go_sem, reduceIte, Nat.reduceAdd, Nat.reduceSub, Nat.reduceMul, Nat.reduceEqDiff, Nat.reduceLT, Nat.reduceLeDiff, Nat.reduceBEq, Int.reduceToNat, Int.reduceLT, Int.reduceLE, Int.reduceGT, Int.reduceGE, Int.reduceEq, Int.reduceBEq, Int.reduceBNe, Int.reduceNeg, reduceCtorEq]; exact rfl) ?_
  refine AL_nil ?_
  refine thenA_n ?_
  refine awp_seq ?_
  refine awp_seq ?_
  refine awp_region ?_
  refine AL_upto (by exact rfl) (by simp only [go_sem, reduceIte, Nat.reduceAdd, Nat.reduceSub, Nat.reduceMul, Nat.reduceEqDiff, Nat.reduceLT, Nat.reduceLeDiff, Nat.reduceBEq, Int.reduceToNat, Int.reduceLT, Int.reduceLE, Int.reduceGT, Int.reduceGE, Int.reduceEq, Int.reduceBEq, Int.reduceBNe, Int.reduceNeg, reduceCtorEq]; exact rfl) ?_
  refine AL_nil ?_
  refine thenA_n ?_
  refine awp_block ?_
  obtain ⟨o_123, hL_124, h⟩ := Option.bind_eq_some_iff.1 h
  refine awp_loop_L (fun (s : Int × Int) => ⟨[(3, .p (.int .i64 s.1)), (6, .p (.slc (List.map encRow rows_87))), (7, .p (.int .i64 (rows_87.length : Int))), (8, .p (.int .i64 s.2))], []⟩) (fun (o : (Unit) ⊕ (Int)) (e : Exit) (s' : St) => match o with | .inl o_126 => e = (.exit 0) ∧ Le ⟨Try.prog, Try.f25.ntmps, 0, X, [], fun _ => none, w⟩ s' ⟨[], []⟩ | .inr o_127 => e = .ret ∧ retQ Try.prog Try.f25 (.int .i64 o_127) .ret s') (by intro o s hT; rcases o with _ | _ <;> (have hh := hT.1; cases hh)) hL_124 (by simp only [go_sem, reduceIte, Nat.reduceAdd, Nat.reduceSub, Nat.reduceMul, Nat.reduceEqDiff, Nat.reduceLT, Nat.reduceLeDiff, Nat.reduceBEq, Int.reduceToNat, Int.reduceLT, Int.reduceLE, Int.reduceGT, Int.reduceGE, Int.reduceEq, Int.reduceBEq, Int.reduceBNe, Int.reduceNeg, reduceCtorEq]; all_goals ((repeat' refine And.intro ?_ ?_) <;> first | rfl | (simp; done) | (simp; rfl) | (simp [*]; done) | (simp [*]; rfl))) ?_ ?_
  · clear h
    intro s x h
    obtain ⟨last_99, t8_100⟩ := s
    simp only [survivor_checkValues_l1] at h
    show AWp _ _ _ ⟨[(3, .p (.int .i64 last_99)), (6, .p (.slc (List.map encRow rows_87))), (7, .p (.int .i64 (rows_87.length : Int))), (8, .p (.int .i64 t8_100))], []⟩
    refine awp_seq ?_
    refine awp_region ?_
    refine AL_upto (by exact rfl) (by simp only [go_sem, reduceIte, Nat.reduceAdd, Nat.reduceSub, Nat.reduceMul, Nat.reduceEqDiff, Nat.reduceLT, Nat.reduceLeDiff, Nat.reduceBEq, Int.reduceToNat, Int.reduceLT, Int.reduceLE, Int.reduceGT, Int.reduceGE, Int.reduceEq, Int.reduceBEq, Int.reduceBNe, Int.reduceNeg, reduceCtorEq]; exact rfl) ?_
    refine AL_nil ?_
    refine thenA_n ?_
    refine awp_seq ?_
    by_cases hb_113 : t8_100 < (rows_87.length : Int)
    · rw [if_pos hb_113] at h
      have hb_113T := eq_true hb_113
      refine awp_ct (by simp only [go_sem, reduceIte, Nat.reduceAdd, Nat.reduceSub, Nat.reduceMul, Nat.reduceEqDiff, Nat.reduceLT, Nat.reduceLeDiff, Nat.reduceBEq, Int.reduceToNat, Int.reduceLT, Int.reduceLE, Int.reduceGT, Int.reduceGE, Int.reduceEq, Int.reduceBEq, Int.reduceBNe, Int.reduceNeg, reduceCtorEq, hb_113T]) ?_
      refine awp_skip ?_
      refine thenA_n ?_
      refine awp_seq ?_
      refine awp_block ?_
      refine awp_seq ?_
      refine awp_region ?_
      obtain ⟨x_116, hx_117, h⟩ := Option.bind_eq_some_iff.1 h
      obtain ⟨hx_117a, hx_117, hx_117b⟩ := idx_some hx_117
      have hx_117A := eq_true hx_117a
      have hx_117B := eq_true hx_117b
      refine AL_upto (by exact rfl) (by simp only [go_sem, reduceIte, Nat.reduceAdd, Nat.reduceSub, Nat.reduceMul, Nat.reduceEqDiff, Nat.reduceLT, Nat.reduceLeDiff, Nat.reduceBEq, Int.reduceToNat, Int.reduceLT, Int.reduceLE, Int.reduceGT, Int.reduceGE, Int.reduceEq, Int.reduceBEq, Int.reduceBNe, Int.reduceNeg, reduceCtorEq, hb_113T, hx_117, hx_117A, hx_117B]; exact rfl) ?_
      refine AL_nil ?_
      refine thenA_n ?_
      refine awp_seq ?_
      refine awp_seq ?_
      refine awp_region ?_
      refine AL_upto (by exact rfl) (by simp only [go_sem, reduceIte, Nat.reduceAdd, Nat.reduceSub, Nat.reduceMul, Nat.reduceEqDiff, Nat.reduceLT, Nat.reduceLeDiff, Nat.reduceBEq, Int.reduceToNat, Int.reduceLT, Int.reduceLE, Int.reduceGT, Int.reduceGE, Int.reduceEq, Int.reduceBEq, Int.reduceBNe, Int.reduceNeg, reduceCtorEq, hb_113T]; exact rfl) ?_
      by_cases hb_118 : x_116.ID ≤ last_99
      · rw [if_pos hb_118] at h
        have hb_118T := eq_true hb_118
        refine AL_known (d := 16) (v := .p (.bool true)) (by simp only [go_sem, reduceIte, Nat.reduceAdd, Nat.reduceSub, Nat.reduceMul, Nat.reduceEqDiff, Nat.reduceLT, Nat.reduceLeDiff, Nat.reduceBEq, Int.reduceToNat, Int.reduceLT, Int.reduceLE, Int.reduceGT, Int.reduceGE, Int.reduceEq, Int.reduceBEq, Int.reduceBNe, Int.reduceNeg, reduceCtorEq, hb_113T, hb_118T]) ?_
        refine AL_skips (by exact rfl) ?_
        refine AL_upto (by exact rfl) (by simp only [go_sem, reduceIte, Nat.reduceAdd, Nat.reduceSub, Nat.reduceMul, Nat.reduceEqDiff, Nat.reduceLT, Nat.reduceLeDiff, Nat.reduceBEq, Int.reduceToNat, Int.reduceLT, Int.reduceLE, Int.reduceGT, Int.reduceGE, Int.reduceEq, Int.reduceBEq, Int.reduceBNe, Int.reduceNeg, reduceCtorEq, hb_113T, hb_118T]; exact rfl) ?_
        refine AL_nil ?_
        refine thenA_n ?_
        refine awp_ct (by simp only [go_sem, reduceIte, Nat.reduceAdd, Nat.reduceSub, Nat.reduceMul, Nat.reduceEqDiff, Nat.reduceLT, Nat.reduceLeDiff, Nat.reduceBEq, Int.reduceToNat, Int.reduceLT, Int.reduceLE, Int.reduceGT, Int.reduceGE, Int.reduceEq, Int.reduceBEq, Int.reduceBNe, Int.reduceNeg, reduceCtorEq, hb_113T, hb_118T]) ?_
        refine awp_seq ?_
        refine awp_region ?_
        refine AL_upto (by exact rfl) (by simp only [go_sem, reduceIte, Nat.reduceAdd, Nat.reduceSub, Nat.reduceMul, Nat.reduceEqDiff, Nat.reduceLT, Nat.reduceLeDiff, Nat.reduceBEq, Int.reduceToNat, Int.reduceLT, Int.reduceLE, Int.reduceGT, Int.reduceGE, Int.reduceEq, Int.reduceBEq, Int.reduceBNe, Int.reduceNeg, reduceCtorEq, hb_113T, hb_118T]; exact rfl) ?_
        refine AL_nil ?_
        refine thenA_n ?_
        refine awp_ret ?_
        refine thenA_ret ?_
        refine blockA_ret ?_
        refine thenA_ret ?_
        cases h
        refine ⟨rfl, ?_⟩
        refine retQ_ret (by simp only [Try.results25]; simp only [go_sem, reduceIte, Nat.reduceAdd, Nat.reduceSub, Nat.reduceMul, Nat.reduceEqDiff, Nat.reduceLT, Nat.reduceLeDiff, Nat.reduceBEq, Int.reduceToNat, Int.reduceLT, Int.reduceLE, Int.reduceGT, Int.reduceGE, Int.reduceEq, Int.reduceBEq, Int.reduceBNe, Int.reduceNeg, reduceCtorEq, hb_113T, hb_118T]; exact rfl) ?_
        simp only [go_sem, reduceIte, Nat.reduceAdd, Nat.reduceSub, Nat.reduceMul, Nat.reduceEqDiff, Nat.reduceLT, Nat.reduceLeDiff, Nat.reduceBEq, Int.reduceToNat, Int.reduceLT, Int.reduceLE, Int.reduceGT, Int.reduceGE, Int.reduceEq, Int.reduceBEq, Int.reduceBNe, Int.reduceNeg, reduceCtorEq, hb_113T, hb_118T]
        all_goals ((repeat' refine And.intro ?_ ?_) <;> first | rfl | (simp; done) | (simp; rfl) | (simp [*]; done) | (simp [*]; rfl))
      · rw [if_neg hb_118] at h
        have hb_118T := eq_false hb_118
        refine AL_known (d := 16) (v := .p (.bool false)) (by simp only [go_sem, reduceIte, Nat.reduceAdd, Nat.reduceSub, Nat.reduceMul, Nat.reduceEqDiff, Nat.reduceLT, Nat.reduceLeDiff, Nat.reduceBEq, Int.reduceToNat, Int.reduceLT, Int.reduceLE, Int.reduceGT, Int.reduceGE, Int.reduceEq, Int.reduceBEq, Int.reduceBNe, Int.reduceNeg, reduceCtorEq, hb_113T, hb_118T]) ?_
        refine AL_gt' (guard_true' rfl rfl (by exact rfl) (by exact rfl)) rfl (by simp only [go_sem, reduceIte, Nat.reduceAdd, Nat.reduceSub, Nat.reduceMul, Nat.reduceEqDiff, Nat.reduceLT, Nat.reduceLeDiff, Nat.reduceBEq, Int.reduceToNat, Int.reduceLT, Int.reduceLE, Int.reduceGT, Int.reduceGE, Int.reduceEq, Int.reduceBEq, Int.reduceBNe, Int.reduceNeg, reduceCtorEq, hb_113T, hb_118T]; exact rfl) ?_
        refine AL_gt' (guard_true' rfl rfl (by exact rfl) (by exact rfl)) rfl (by simp only [go_sem, reduceIte, Nat.reduceAdd, Nat.reduceSub, Nat.reduceMul, Nat.reduceEqDiff, Nat.reduceLT, Nat.reduceLeDiff, Nat.reduceBEq, Int.reduceToNat, Int.reduceLT, Int.reduceLE, Int.reduceGT, Int.reduceGE, Int.reduceEq, Int.reduceBEq, Int.reduceBNe, Int.reduceNeg, reduceCtorEq, hb_113T, hb_118T]; exact rfl) ?_
        obtain ⟨r_120, hr_121, h⟩ := Option.bind_eq_some_iff.1 h
        refine AL_con' rfl (guard_true' rfl rfl (by exact rfl) (by exact rfl)) rfl (by simp only [go_sem, reduceIte, Nat.reduceAdd, Nat.reduceSub, Nat.reduceMul, Nat.reduceEqDiff, Nat.reduceLT, Nat.reduceLeDiff, Nat.reduceBEq, Int.reduceToNat, Int.reduceLT, Int.reduceLE, Int.reduceGT, Int.reduceGE, Int.reduceEq, Int.reduceBEq, Int.reduceBNe, Int.reduceNeg, reduceCtorEq, hb_113T, hb_118T]; exact rfl) (by simp only [go_sem, reduceIte, Nat.reduceAdd, Nat.reduceSub, Nat.reduceMul, Nat.reduceEqDiff, Nat.reduceLT, Nat.reduceLeDiff, Nat.reduceBEq, Int.reduceToNat, Int.reduceLT, Int.reduceLE, Int.reduceGT, Int.reduceGE, Int.reduceEq, Int.reduceBEq, Int.reduceBNe, Int.reduceNeg, reduceCtorEq, hb_113T, hb_118T]; all_goals ((repeat' refine And.intro ?_ ?_) <;> first | rfl | (simp; done) | (simp; rfl) | (simp [*]; done) | (simp [*]; rfl))) (slices_ContainsFunc_Value_con x_116.Values (fun (y_119 : Value) => survivor_checkValues_1 y_119) 49 [] (fun y_119 r h => survivor_checkValues_1_con y_119 r h) _ hr_121) (.inr rfl) rfl ?_
        refine AL_upto (by exact rfl) (by simp only [go_sem, reduceIte, Nat.reduceAdd, Nat.reduceSub, Nat.reduceMul, Nat.reduceEqDiff, Nat.reduceLT, Nat.reduceLeDiff, Nat.reduceBEq, Int.reduceToNat, Int.reduceLT, Int.reduceLE, Int.reduceGT, Int.reduceGE, Int.reduceEq, Int.reduceBEq, Int.reduceBNe, Int.reduceNeg, reduceCtorEq, hb_113T, hb_118T]; exact rfl) ?_
        refine AL_nil ?_
        refine thenA_n ?_
        by_cases hb_122 : r_120 = true
        · rw [if_pos hb_122] at h
          refine awp_ct (by simp only [go_sem, reduceIte, Nat.reduceAdd, Nat.reduceSub, Nat.reduceMul, Nat.reduceEqDiff, Nat.reduceLT, Nat.reduceLeDiff, Nat.reduceBEq, Int.reduceToNat, Int.reduceLT, Int.reduceLE, Int.reduceGT, Int.reduceGE, Int.reduceEq, Int.reduceBEq, Int.reduceBNe, Int.reduceNeg, reduceCtorEq, hb_113T, hb_118T, hb_122]) ?_
          refine awp_seq ?_
          refine awp_region ?_
          refine AL_upto (by exact rfl) (by simp only [go_sem, reduceIte, Nat.reduceAdd, Nat.reduceSub, Nat.reduceMul, Nat.reduceEqDiff, Nat.reduceLT, Nat.reduceLeDiff, Nat.reduceBEq, Int.reduceToNat, Int.reduceLT, Int.reduceLE, Int.reduceGT, Int.reduceGE, Int.reduceEq, Int.reduceBEq, Int.reduceBNe, Int.reduceNeg, reduceCtorEq, hb_113T, hb_118T, hb_122]; exact rfl) ?_
          refine AL_nil ?_
          refine thenA_n ?_
          refine awp_ret ?_
          refine thenA_ret ?_
          refine blockA_ret ?_
          refine thenA_ret ?_
          cases h
          refine ⟨rfl, ?_⟩
          refine retQ_ret (by simp only [Try.results25]; simp only [go_sem, reduceIte, Nat.reduceAdd, Nat.reduceSub, Nat.reduceMul, Nat.reduceEqDiff, Nat.reduceLT, Nat.reduceLeDiff, Nat.reduceBEq, Int.reduceToNat, Int.reduceLT, Int.reduceLE, Int.reduceGT, Int.reduceGE, Int.reduceEq, Int.reduceBEq, Int.reduceBNe, Int.reduceNeg, reduceCtorEq, hb_113T, hb_118T, hb_122]; exact rfl) ?_
          simp only [go_sem, reduceIte, Nat.reduceAdd, Nat.reduceSub, Nat.reduceMul, Nat.reduceEqDiff, Nat.reduceLT, Nat.reduceLeDiff, Nat.reduceBEq, Int.reduceToNat, Int.reduceLT, Int.reduceLE, Int.reduceGT, Int.reduceGE, Int.reduceEq, Int.reduceBEq, Int.reduceBNe, Int.reduceNeg, reduceCtorEq, hb_113T, hb_118T, hb_122]
          all_goals ((repeat' refine And.intro ?_ ?_) <;> first | rfl | (simp; done) | (simp; rfl) | (simp [*]; done) | (simp [*]; rfl))
        · rw [if_neg hb_122] at h
          have hb_122F := Bool.eq_false_iff.2 hb_122
          refine awp_cf (by simp only [go_sem, reduceIte, Nat.reduceAdd, Nat.reduceSub, Nat.reduceMul, Nat.reduceEqDiff, Nat.reduceLT, Nat.reduceLeDiff, Nat.reduceBEq, Int.reduceToNat, Int.reduceLT, Int.reduceLE, Int.reduceGT, Int.reduceGE, Int.reduceEq, Int.reduceBEq, Int.reduceBNe, Int.reduceNeg, reduceCtorEq, hb_113T, hb_118T, hb_122F]) ?_
          refine awp_skip ?_
          refine thenA_n ?_
          refine awp_region ?_
          refine AL_upto (by exact rfl) (by simp only [go_sem, reduceIte, Nat.reduceAdd, Nat.reduceSub, Nat.reduceMul, Nat.reduceEqDiff, Nat.reduceLT, Nat.reduceLeDiff, Nat.reduceBEq, Int.reduceToNat, Int.reduceLT, Int.reduceLE, Int.reduceGT, Int.reduceGE, Int.reduceEq, Int.reduceBEq, Int.reduceBNe, Int.reduceNeg, reduceCtorEq, hb_113T, hb_118T, hb_122F]; exact rfl) ?_
          refine AL_nil ?_
          refine blockA_n ?_
          refine thenA_n ?_
          refine awp_region ?_
          refine AL_upto (by exact rfl) (by simp only [go_sem, reduceIte, Nat.reduceAdd, Nat.reduceSub, Nat.reduceMul, Nat.reduceEqDiff, Nat.reduceLT, Nat.reduceLeDiff, Nat.reduceBEq, Int.reduceToNat, Int.reduceLT, Int.reduceLE, Int.reduceGT, Int.reduceGE, Int.reduceEq, Int.reduceBEq, Int.reduceBNe, Int.reduceNeg, reduceCtorEq, hb_113T, hb_118T, hb_122F]; exact rfl) ?_
          refine AL_nil ?_
          cases h
          refine ⟨rfl, ?_⟩
          simp only [go_sem, reduceIte, Nat.reduceAdd, Nat.reduceSub, Nat.reduceMul, Nat.reduceEqDiff, Nat.reduceLT, Nat.reduceLeDiff, Nat.reduceBEq, Int.reduceToNat, Int.reduceLT, Int.reduceLE, Int.reduceGT, Int.reduceGE, Int.reduceEq, Int.reduceBEq, Int.reduceBNe, Int.reduceNeg, reduceCtorEq, hb_113T, hb_118T, hb_122F]
          all_goals ((repeat' refine And.intro ?_ ?_) <;> first | rfl | (simp; done) | (simp; rfl) | (simp [*]; done) | (simp [*]; rfl))
    · rw [if_neg hb_113] at h
      have hb_113T := eq_false hb_113
      refine awp_cf (by simp only [go_sem, reduceIte, Nat.reduceAdd, Nat.reduceSub, Nat.reduceMul, Nat.reduceEqDiff, Nat.reduceLT, Nat.reduceLeDiff, Nat.reduceBEq, Int.reduceToNat, Int.reduceLT, Int.reduceLE, Int.reduceGT, Int.reduceGE, Int.reduceEq, Int.reduceBEq, Int.reduceBNe, Int.reduceNeg, reduceCtorEq, hb_113T]) ?_
      refine awp_exit ?_
      refine thenA_exit ?_
      cases h
      refine ⟨rfl, ?_⟩
      simp only [go_sem, reduceIte, Nat.reduceAdd, Nat.reduceSub, Nat.reduceMul, Nat.reduceEqDiff, Nat.reduceLT, Nat.reduceLeDiff, Nat.reduceBEq, Int.reduceToNat, Int.reduceLT, Int.reduceLE, Int.reduceGT, Int.reduceGE, Int.reduceEq, Int.reduceBEq, Int.reduceBNe, Int.reduceNeg, reduceCtorEq, hb_113T]
      all_goals ((repeat' refine And.intro ?_ ?_) <;> first | rfl | (simp; done) | (simp; rfl) | (simp [*]; done) | (simp [*]; rfl))
  · intro e s' hT
    rcases o_123 with ⟨⟩ | r_125
    · try simp only at h
      try simp only at hT
      obtain ⟨rfl, hle⟩ := hT
      refine Wk.to hle ?_
      clear hle
      refine blockA_here ?_
      refine thenA_n ?_
      refine awp_seq ?_
      refine awp_region ?_
      refine AL_upto (by exact rfl) (by simp only [go_sem, reduceIte, Nat.reduceAdd, Nat.reduceSub, Nat.reduceMul, Nat.reduceEqDiff, Nat.reduceLT, Nat.reduceLeDiff, Nat.reduceBEq, Int.reduceToNat, Int.reduceLT, Int.reduceLE, Int.reduceGT, Int.reduceGE, Int.reduceEq, Int.reduceBEq, Int.reduceBNe, Int.reduceNeg, reduceCtorEq]; exact rfl) ?_
      refine AL_nil ?_
      refine thenA_n ?_
      refine awp_ret ?_
      cases h
      refine retQ_ret (by simp only [Try.results25]; simp only [go_sem, reduceIte, Nat.reduceAdd, Nat.reduceSub, Nat.reduceMul, Nat.reduceEqDiff, Nat.reduceLT, Nat.reduceLeDiff, Nat.reduceBEq, Int.reduceToNat, Int.reduceLT, Int.reduceLE, Int.reduceGT, Int.reduceGE, Int.reduceEq, Int.reduceBEq, Int.reduceBNe, Int.reduceNeg, reduceCtorEq]; exact rfl) ?_
      simp only [go_sem, reduceIte, Nat.reduceAdd, Nat.reduceSub, Nat.reduceMul, Nat.reduceEqDiff, Nat.reduceLT, Nat.reduceLeDiff, Nat.reduceBEq, Int.reduceToNat, Int.reduceLT, Int.reduceLE, Int.reduceGT, Int.reduceGE, Int.reduceEq, Int.reduceBEq, Int.reduceBNe, Int.reduceNeg, reduceCtorEq]
      all_goals ((repeat' refine And.intro ?_ ?_) <;> first | rfl | (simp; done) | (simp; rfl) | (simp [*]; done) | (simp [*]; rfl))
    · try simp only at h
      try simp only at hT
      obtain ⟨rfl, hq⟩ := hT
      refine Wk.now ?_
      refine blockA_ret ?_
      refine thenA_ret ?_
      cases h
      exact hq
end Go.Proofs.Ytdmddoljldjjeaa
set_option linter.unusedVariables false
set_option linter.unusedSimpArgs false
namespace Go.Proofs.Ytdmddoljldjjeaa
open Go Go.Ab
set_option maxHeartbeats 4000000 in
theorem survivor_validRule_con (rule_129 : Int) (r_131 : Bool) (h : survivor_validRule rule_129 = some r_131) : Con Try.prog 26 [(.int .i64 rule_129)] (.bool r_131) := by
  refine ⟨Try.call26, ?_⟩
  refine pure_of_awp Try.func26 rfl Try.ntmps26 (by simp) fun X w => ?_
  show AWp _ _ _ ⟨[(0, .p (.int .i64 rule_129))], []⟩
  simp only [survivor_validRule] at h
  refine awp_seq ?_
  refine awp_region ?_
  refine AL_upto (by exact rfl) (by simp only [go_sem, reduceIte, Nat.reduceAdd, Nat.reduceSub, Nat.reduceMul, Nat.reduceEqDiff, Nat.reduceLT, Nat.reduceLeDiff, Nat.reduceBEq, Int.reduceToNat, Int.reduceLT, Int.reduceLE, Int.reduceGT, Int.reduceGE, Int.reduceEq, Int.reduceBEq, Int.reduceBNe, Int.reduceNeg, reduceCtorEq]; exact rfl) ?_
  refine AL_nil ?_
  refine thenA_n ?_
  refine awp_seq ?_
  refine awp_region ?_
  refine AL_upto (by exact rfl) (by simp only [go_sem, reduceIte, Nat.reduceAdd, Nat.reduceSub, Nat.reduceMul, Nat.reduceEqDiff, Nat.reduceLT, Nat.reduceLeDiff, Nat.reduceBEq, Int.reduceToNat, Int.reduceLT, Int.reduceLE, Int.reduceGT, Int.reduceGE, Int.reduceEq, Int.reduceBEq, Int.reduceBNe, Int.reduceNeg, reduceCtorEq]; exact rfl) ?_
  by_cases hb_130 : rule_129 ≥ 1
  · rw [if_pos hb_130] at h
    have hb_130T := eq_true hb_130
    refine AL_known (d := 5) (v := .p (.bool true)) (by simp only [go_sem, reduceIte, Nat.reduceAdd, Nat.reduceSub, Nat.reduceMul, Nat.reduceEqDiff, Nat.reduceLT, Nat.reduceLeDiff, Nat.reduceBEq, Int.reduceToNat, Int.reduceLT, Int.reduceLE, Int.reduceGT, Int.reduceGE, Int.reduceEq, Int.reduceBEq, Int.reduceBNe, Int.reduceNeg, reduceCtorEq, hb_130T]) ?_
    refine AL_gt' (guard_true' rfl rfl (by exact rfl) (by exact rfl)) rfl (by simp only [go_sem, reduceIte, Nat.reduceAdd, Nat.reduceSub, Nat.reduceMul, Nat.reduceEqDiff, Nat.reduceLT, Nat.reduceLeDiff, Nat.reduceBEq, Int.reduceToNat, Int.reduceLT, Int.reduceLE, Int.reduceGT, Int.reduceGE, Int.reduceEq, Int.reduceBEq, Int.reduceBNe, Int.reduceNeg, reduceCtorEq, hb_130T]; exact rfl) ?_
    refine AL_gt' (guard_true' rfl rfl (by exact rfl) (by exact rfl)) rfl (by simp only [go_sem, reduceIte, Nat.reduceAdd, Nat.reduceSub, Nat.reduceMul, Nat.reduceEqDiff, Nat.reduceLT, Nat.reduceLeDiff, Nat.reduceBEq, Int.reduceToNat, Int.reduceLT, Int.reduceLE, Int.reduceGT, Int.reduceGE, Int.reduceEq, Int.reduceBEq, Int.reduceBNe, Int.reduceNeg, reduceCtorEq, hb_130T]; exact rfl) ?_
    refine AL_upto (by exact rfl) (by simp only [go_sem, reduceIte, Nat.reduceAdd, Nat.reduceSub, Nat.reduceMul, Nat.reduceEqDiff, Nat.reduceLT, Nat.reduceLeDiff, Nat.reduceBEq, Int.reduceToNat, Int.reduceLT, Int.reduceLE, Int.reduceGT, Int.reduceGE, Int.reduceEq, Int.reduceBEq, Int.reduceBNe, Int.reduceNeg, reduceCtorEq, hb_130T]; exact rfl) ?_
    refine AL_nil ?_
    refine thenA_n ?_
    refine awp_ret ?_
    cases h
    refine retQ_ret (by simp only [Try.results26]; simp only [go_sem, reduceIte, Nat.reduceAdd, Nat.reduceSub, Nat.reduceMul, Nat.reduceEqDiff, Nat.reduceLT, Nat.reduceLeDiff, Nat.reduceBEq, Int.reduceToNat, Int.reduceLT, Int.reduceLE, Int.reduceGT, Int.reduceGE, Int.reduceEq, Int.reduceBEq, Int.reduceBNe, Int.reduceNeg, reduceCtorEq, hb_130T]; exact rfl) ?_
    simp only [go_sem, reduceIte, Nat.reduceAdd, Nat.reduceSub, Nat.reduceMul, Nat.reduceEqDiff, Nat.reduceLT, Nat.reduceLeDiff, Nat.reduceBEq, Int.reduceToNat, Int.reduceLT, Int.reduceLE, Int.reduceGT, Int.reduceGE, Int.reduceEq, Int.reduceBEq, Int.reduceBNe, Int.reduceNeg, reduceCtorEq, hb_130T]
    all_goals ((repeat' refine And.intro ?_ ?_) <;> first | rfl | (simp; done) | (simp; rfl) | (simp [*]; done) | (simp [*]; rfl))
  · rw [if_neg hb_130] at h
    have hb_130T := eq_false hb_130
    refine AL_known (d := 5) (v := .p (.bool false)) (by simp only [go_sem, reduceIte, Nat.reduceAdd, Nat.reduceSub, Nat.reduceMul, Nat.reduceEqDiff, Nat.reduceLT, Nat.reduceLeDiff, Nat.reduceBEq, Int.reduceToNat, Int.reduceLT, Int.reduceLE, Int.reduceGT, Int.reduceGE, Int.reduceEq, Int.reduceBEq, Int.reduceBNe, Int.reduceNeg, reduceCtorEq, hb_130T]) ?_
    refine AL_skips (by exact rfl) ?_
    refine AL_upto (by exact rfl) (by simp only [go_sem, reduceIte, Nat.reduceAdd, Nat.reduceSub, Nat.reduceMul, Nat.reduceEqDiff, Nat.reduceLT, Nat.reduceLeDiff, Nat.reduceBEq, Int.reduceToNat, Int.reduceLT, Int.reduceLE, Int.reduceGT, Int.reduceGE, Int.reduceEq, Int.reduceBEq, Int.reduceBNe, Int.reduceNeg, reduceCtorEq, hb_130T]; exact rfl) ?_
    refine AL_nil ?_
    refine thenA_n ?_
    refine awp_ret ?_
    cases h
    refine retQ_ret (by simp only [Try.results26]; simp only [go_sem, reduceIte, Nat.reduceAdd, Nat.reduceSub, Nat.reduceMul, Nat.reduceEqDiff, Nat.reduceLT, Nat.reduceLeDiff, Nat.reduceBEq, Int.reduceToNat, Int.reduceLT, Int.reduceLE, Int.reduceGT, Int.reduceGE, Int.reduceEq, Int.reduceBEq, Int.reduceBNe, Int.reduceNeg, reduceCtorEq, hb_130T]; exact rfl) ?_
    simp only [go_sem, reduceIte, Nat.reduceAdd, Nat.reduceSub, Nat.reduceMul, Nat.reduceEqDiff, Nat.reduceLT, Nat.reduceLeDiff, Nat.reduceBEq, Int.reduceToNat, Int.reduceLT, Int.reduceLE, Int.reduceGT, Int.reduceGE, Int.reduceEq, Int.reduceBEq, Int.reduceBNe, Int.reduceNeg, reduceCtorEq, hb_130T]
    all_goals ((repeat' refine And.intro ?_ ?_) <;> first | rfl | (simp; done) | (simp; rfl) | (simp [*]; done) | (simp [*]; rfl))
end Go.Proofs.Ytdmddoljldjjeaa
set_option linter.unusedVariables false
set_option linter.unusedSimpArgs false
namespace Go.Proofs.Ytdmddoljldjjeaa
open Go Go.Ab
set_option maxHeartbeats 4000000 in
theorem survivor_count_con (l_132 : List Value) (v_133 : Value) (r_161 : Int) (h : survivor_count l_132 v_133 = some r_161) : Con Try.prog 76 [(.slc (List.map encValue l_132)), (encValue v_133)] (.int .i64 r_161) := by
  refine ⟨Try.call76, ?_⟩
  refine pure_of_awp Try.func76 rfl Try.ntmps76 (by simp) fun X w => ?_
  show AWp _ _ _ ⟨[(0, .p (.slc (List.map encValue l_132))), (1, .p (encValue v_133))], []⟩
  simp only [survivor_count] at h
  refine awp_seq ?_
  refine awp_region ?_
  refine AL_upto (by exact rfl) (by simp only [go_sem, reduceIte, Nat.reduceAdd, Nat.reduceSub, Nat.reduceMul, Nat.reduceEqDiff, Nat.reduceLT, Nat.reduceLeDiff, Nat.reduceBEq, Int.reduceToNat, Int.reduceLT, Int.reduceLE, Int.reduceGT, Int.reduceGE, Int.reduceEq, Int.reduceBEq, Int.reduceBNe, Int.reduceNeg, reduceCtorEq]; exact rfl) ?_
  refine AL_nil ?_
  refine thenA_n ?_
  refine awp_seq ?_
  refine awp_region ?_
  refine AL_upto (by exact rfl) (by simp only [go_sem, reduceIte, Nat.reduceAdd, Nat.reduceSub, Nat.reduceMul, Nat.reduceEqDiff, Nat.reduceLT, Nat.reduceLeDiff, Nat.reduceBEq, Int.reduceToNat, Int.reduceLT, Int.reduceLE, Int.reduceGT, Int.reduceGE, Int.reduceEq, Int.reduceBEq, Int.reduceBNe, Int.reduceNeg, reduceCtorEq]; exact rfl) ?_
  refine AL_nil ?_
  refine thenA_n ?_
  refine awp_seq ?_
  refine awp_seq ?_
  refine awp_region ?_
  refine AL_upto (by exact rfl) (by simp only [go_sem, reduceIte, Nat.reduceAdd, Nat.reduceSub, Nat.reduceMul, Nat.reduceEqDiff, Nat.reduceLT, Nat.reduceLeDiff, Nat.reduceBEq, Int.reduceToNat, Int.reduceLT, Int.reduceLE, Int.reduceGT, Int.reduceGE, Int.reduceEq, Int.reduceBEq, Int.reduceBNe, Int.reduceNeg, reduceCtorEq]; exact rfl) ?_
  refine AL_nil ?_
  refine thenA_n ?_
  refine awp_block ?_
  obtain ⟨o_158, hL_159, h⟩ := Option.bind_eq_some_iff.1 h
  refine awp_loop_L (fun (s : Int × Int) => ⟨[(3, .loc 3 1 0 0), (5, .p (.int .i64 s.1)), (8, .p (.slc (List.map encValue l_132))), (9, .p (.int .i64 (l_132.length : Int))), (10, .p (.int .i64 s.2))], [(3, .arr 25 3 1 [.p (encValue v_133)])]⟩) (fun (o_160 : Int) (e : Exit) (s' : St) => e = (.exit 0) ∧ Le ⟨Try.prog, Try.f76.ntmps, 0, X, [], fun _ => none, w⟩ s' ⟨[(5, .p (.int .i64 o_160))], []⟩) (by intro o s hT; have hh := hT.1; cases hh) hL_159 (by simp only [go_sem, reduceIte, Nat.reduceAdd, Nat.reduceSub, Nat.reduceMul, Nat.reduceEqDiff, Nat.reduceLT, Nat.reduceLeDiff, Nat.reduceBEq, Int.reduceToNat, Int.reduceLT, Int.reduceLE, Int.reduceGT, Int.reduceGE, Int.reduceEq, Int.reduceBEq, Int.reduceBNe, Int.reduceNeg, reduceCtorEq]; all_goals ((repeat' refine And.intro ?_ ?_) <;> first | rfl | (simp; done) | (simp; rfl) | (simp [*]; done) | (simp [*]; rfl))) ?_ ?_
  · clear h
    intro s x h
    obtain ⟨n_141, t10_142⟩ := s
    simp only [survivor_count_l1] at h
    show AWp _ _ _ ⟨[(3, .loc 3 1 0 0), (5, .p (.int .i64 n_141)), (8, .p (.slc (List.map encValue l_132))), (9, .p (.int .i64 (l_132.length : Int))), (10, .p (.int .i64 t10_142))], [(3, .arr 25 3 1 [.p (encValue v_133)])]⟩
    refine awp_seq ?_
    refine awp_region ?_
    refine AL_upto (by exact rfl) (by simp only [go_sem, reduceIte, Nat.reduceAdd, Nat.reduceSub, Nat.reduceMul, Nat.reduceEqDiff, Nat.reduceLT, Nat.reduceLeDiff, Nat.reduceBEq, Int.reduceToNat, Int.reduceLT, Int.reduceLE, Int.reduceGT, Int.reduceGE, Int.reduceEq, Int.reduceBEq, Int.reduceBNe, Int.reduceNeg, reduceCtorEq]; exact rfl) ?_
    refine AL_nil ?_
    refine thenA_n ?_
    refine awp_seq ?_
    by_cases hb_152 : t10_142 < (l_132.length : Int)
    · rw [if_pos hb_152] at h
      have hb_152T := eq_true hb_152
      refine awp_ct (by simp only [go_sem, reduceIte, Nat.reduceAdd, Nat.reduceSub, Nat.reduceMul, Nat.reduceEqDiff, Nat.reduceLT, Nat.reduceLeDiff, Nat.reduceBEq, Int.reduceToNat, Int.reduceLT, Int.reduceLE, Int.reduceGT, Int.reduceGE, Int.reduceEq, Int.reduceBEq, Int.reduceBNe, Int.reduceNeg, reduceCtorEq, hb_152T]) ?_
      refine awp_skip ?_
      refine thenA_n ?_
      refine awp_seq ?_
      refine awp_block ?_
      refine awp_seq ?_
      refine awp_region ?_
      obtain ⟨x_155, hx_156, h⟩ := Option.bind_eq_some_iff.1 h
      obtain ⟨hx_156a, hx_156, hx_156b⟩ := idx_some hx_156
      have hx_156A := eq_true hx_156a
      have hx_156B := eq_true hx_156b
      refine AL_upto (by exact rfl) (by simp only [go_sem, reduceIte, Nat.reduceAdd, Nat.reduceSub, Nat.reduceMul, Nat.reduceEqDiff, Nat.reduceLT, Nat.reduceLeDiff, Nat.reduceBEq, Int.reduceToNat, Int.reduceLT, Int.reduceLE, Int.reduceGT, Int.reduceGE, Int.reduceEq, Int.reduceBEq, Int.reduceBNe, Int.reduceNeg, reduceCtorEq, hb_152T, hx_156, hx_156A, hx_156B]; exact rfl) ?_
      refine AL_nil ?_
      refine thenA_n ?_
      refine awp_seq ?_
      refine awp_region ?_
      refine AL_upto (by exact rfl) (by simp only [go_sem, reduceIte, Nat.reduceAdd, Nat.reduceSub, Nat.reduceMul, Nat.reduceEqDiff, Nat.reduceLT, Nat.reduceLeDiff, Nat.reduceBEq, Int.reduceToNat, Int.reduceLT, Int.reduceLE, Int.reduceGT, Int.reduceGE, Int.reduceEq, Int.reduceBEq, Int.reduceBNe, Int.reduceNeg, reduceCtorEq, hb_152T]; exact rfl) ?_
      refine AL_nil ?_
      refine thenA_n ?_
      by_cases hb_157 : ((x_155.Kind == v_133.Kind) && ((x_155.Num == v_133.Num) && (x_155.Str == v_133.Str))) = true
      · rw [if_pos hb_157] at h
        refine awp_ct (by simp only [go_sem, reduceIte, Nat.reduceAdd, Nat.reduceSub, Nat.reduceMul, Nat.reduceEqDiff, Nat.reduceLT, Nat.reduceLeDiff, Nat.reduceBEq, Int.reduceToNat, Int.reduceLT, Int.reduceLE, Int.reduceGT, Int.reduceGE, Int.reduceEq, Int.reduceBEq, Int.reduceBNe, Int.reduceNeg, reduceCtorEq, hb_152T, hb_157]) ?_
        refine awp_region ?_
        refine AL_upto (by exact rfl) (by simp only [go_sem, reduceIte, Nat.reduceAdd, Nat.reduceSub, Nat.reduceMul, Nat.reduceEqDiff, Nat.reduceLT, Nat.reduceLeDiff, Nat.reduceBEq, Int.reduceToNat, Int.reduceLT, Int.reduceLE, Int.reduceGT, Int.reduceGE, Int.reduceEq, Int.reduceBEq, Int.reduceBNe, Int.reduceNeg, reduceCtorEq, hb_152T, hb_157]; exact rfl) ?_
        refine AL_nil ?_
        refine blockA_n ?_
        refine thenA_n ?_
        refine awp_region ?_
        refine AL_upto (by exact rfl) (by simp only [go_sem, reduceIte, Nat.reduceAdd, Nat.reduceSub, Nat.reduceMul, Nat.reduceEqDiff, Nat.reduceLT, Nat.reduceLeDiff, Nat.reduceBEq, Int.reduceToNat, Int.reduceLT, Int.reduceLE, Int.reduceGT, Int.reduceGE, Int.reduceEq, Int.reduceBEq, Int.reduceBNe, Int.reduceNeg, reduceCtorEq, hb_152T, hb_157]; exact rfl) ?_
        refine AL_nil ?_
        cases h
        refine ⟨rfl, ?_⟩
        simp only [go_sem, reduceIte, Nat.reduceAdd, Nat.reduceSub, Nat.reduceMul, Nat.reduceEqDiff, Nat.reduceLT, Nat.reduceLeDiff, Nat.reduceBEq, Int.reduceToNat, Int.reduceLT, Int.reduceLE, Int.reduceGT, Int.reduceGE, Int.reduceEq, Int.reduceBEq, Int.reduceBNe, Int.reduceNeg, reduceCtorEq, hb_152T, hb_157]
        all_goals ((repeat' refine And.intro ?_ ?_) <;> first | rfl | (simp; done) | (simp; rfl) | (simp [*]; done) | (simp [*]; rfl))
      · rw [if_neg hb_157] at h
        have hb_157F := Bool.eq_false_iff.2 hb_157
        refine awp_cf (by simp only [go_sem, reduceIte, Nat.reduceAdd, Nat.reduceSub, Nat.reduceMul, Nat.reduceEqDiff, Nat.reduceLT, Nat.reduceLeDiff, Nat.reduceBEq, Int.reduceToNat, Int.reduceLT, Int.reduceLE, Int.reduceGT, Int.reduceGE, Int.reduceEq, Int.reduceBEq, Int.reduceBNe, Int.reduceNeg, reduceCtorEq, hb_152T, hb_157F]) ?_
        refine awp_skip ?_
        refine blockA_n ?_
        refine thenA_n ?_
        refine awp_region ?_
        refine AL_upto (by exact rfl) (by simp only [go_sem, reduceIte, Nat.reduceAdd, Nat.reduceSub, Nat.reduceMul, Nat.reduceEqDiff, Nat.reduceLT, Nat.reduceLeDiff, Nat.reduceBEq, Int.reduceToNat, Int.reduceLT, Int.reduceLE, Int.reduceGT, Int.reduceGE, Int.reduceEq, Int.reduceBEq, Int.reduceBNe, Int.reduceNeg, reduceCtorEq, hb_152T, hb_157F]; exact rfl) ?_
        refine AL_nil ?_
        cases h
        refine ⟨rfl, ?_⟩
        simp only [go_sem, reduceIte, Nat.reduceAdd, Nat.reduceSub, Nat.reduceMul, Nat.reduceEqDiff, Nat.reduceLT, Nat.reduceLeDiff, Nat.reduceBEq, Int.reduceToNat, Int.reduceLT, Int.reduceLE, Int.reduceGT, Int.reduceGE, Int.reduceEq, Int.reduceBEq, Int.reduceBNe, Int.reduceNeg, reduceCtorEq, hb_152T, hb_157F]
        all_goals ((repeat' refine And.intro ?_ ?_) <;> first | rfl | (simp; done) | (simp; rfl) | (simp [*]; done) | (simp [*]; rfl))
    · rw [if_neg hb_152] at h
      have hb_152T := eq_false hb_152
      refine awp_cf (by simp only [go_sem, reduceIte, Nat.reduceAdd, Nat.reduceSub, Nat.reduceMul, Nat.reduceEqDiff, Nat.reduceLT, Nat.reduceLeDiff, Nat.reduceBEq, Int.reduceToNat, Int.reduceLT, Int.reduceLE, Int.reduceGT, Int.reduceGE, Int.reduceEq, Int.reduceBEq, Int.reduceBNe, Int.reduceNeg, reduceCtorEq, hb_152T]) ?_
      refine awp_exit ?_
      refine thenA_exit ?_
      cases h
      refine ⟨rfl, ?_⟩
      simp only [go_sem, reduceIte, Nat.reduceAdd, Nat.reduceSub, Nat.reduceMul, Nat.reduceEqDiff, Nat.reduceLT, Nat.reduceLeDiff, Nat.reduceBEq, Int.reduceToNat, Int.reduceLT, Int.reduceLE, Int.reduceGT, Int.reduceGE, Int.reduceEq, Int.reduceBEq, Int.reduceBNe, Int.reduceNeg, reduceCtorEq, hb_152T]
      all_goals ((repeat' refine And.intro ?_ ?_) <;> first | rfl | (simp; done) | (simp; rfl) | (simp [*]; done) | (simp [*]; rfl))
  · intro e s' hT
    obtain ⟨n_150, rfl⟩ : ∃ z, z = o_158 := ⟨_, rfl⟩
    try simp only at h
    try simp only at hT
    obtain ⟨rfl, hle⟩ := hT
    refine Wk.to hle ?_
    clear hle
    refine blockA_here ?_
    refine thenA_n ?_
    refine awp_seq ?_
    refine awp_region ?_
    refine AL_upto (by exact rfl) (by simp only [go_sem, reduceIte, Nat.reduceAdd, Nat.reduceSub, Nat.reduceMul, Nat.reduceEqDiff, Nat.reduceLT, Nat.reduceLeDiff, Nat.reduceBEq, Int.reduceToNat, Int.reduceLT, Int.reduceLE, Int.reduceGT, Int.reduceGE, Int.reduceEq, Int.reduceBEq, Int.reduceBNe, Int.reduceNeg, reduceCtorEq]; exact rfl) ?_
    refine AL_nil ?_
    refine thenA_n ?_
    refine awp_ret ?_
    cases h
    refine retQ_ret (by simp only [Try.results76]; simp only [go_sem, reduceIte, Nat.reduceAdd, Nat.reduceSub, Nat.reduceMul, Nat.reduceEqDiff, Nat.reduceLT, Nat.reduceLeDiff, Nat.reduceBEq, Int.reduceToNat, Int.reduceLT, Int.reduceLE, Int.reduceGT, Int.reduceGE, Int.reduceEq, Int.reduceBEq, Int.reduceBNe, Int.reduceNeg, reduceCtorEq]; exact rfl) ?_
    simp only [go_sem, reduceIte, Nat.reduceAdd, Nat.reduceSub, Nat.reduceMul, Nat.reduceEqDiff, Nat.reduceLT, Nat.reduceLeDiff, Nat.reduceBEq, Int.reduceToNat, Int.reduceLT, Int.reduceLE, Int.reduceGT, Int.reduceGE, Int.reduceEq, Int.reduceBEq, Int.reduceBNe, Int.reduceNeg, reduceCtorEq]
    all_goals ((repeat' refine And.intro ?_ ?_) <;> first | rfl | (simp; done) | (simp; rfl) | (simp [*]; done) | (simp [*]; rfl))
end Go.Proofs.Ytdmddoljldjjeaa
set_option linter.unusedVariables false
set_option linter.unusedSimpArgs false
namespace Go.Proofs.Ytdmddoljldjjeaa
open Go Go.Ab
set_option maxHeartbeats 4000000 in
theorem cmp_Or_int_con (vals_162 : List Int) (r_190 : Int) (h : cmp_Or_int vals_162 = some r_190) : Con Try.prog 90 [(.slc (List.map (PV.int .i64) vals_162))] (.int .i64 r_190) := by
  refine ⟨Try.call90, ?_⟩
  refine pure_of_awp Try.func90 rfl Try.ntmps90 (by simp) fun X w => ?_
  show AWp _ _ _ ⟨[(0, .p (.slc (List.map (PV.int .i64) vals_162)))], []⟩
  simp only [cmp_Or_int] at h
  refine awp_seq ?_
  refine awp_region ?_
  refine AL_upto (by exact rfl) (by simp only [go_sem, reduceIte, Nat.reduceAdd, Nat.reduceSub, Nat.reduceMul, Nat.reduceEqDiff, Nat.reduceLT, Nat.reduceLeDiff, Nat.reduceBEq, Int.reduceToNat, Int.reduceLT, Int.reduceLE, Int.reduceGT, Int.reduceGE, Int.reduceEq, Int.reduceBEq, Int.reduceBNe, Int.reduceNeg, reduceCtorEq]; exact rfl) ?_
  refine AL_nil ?_
  refine thenA_n ?_
  refine awp_seq ?_
  refine awp_region ?_
  refine AL_upto (by exact rfl) (by simp only [go_sem, reduceIte, Nat.reduceAdd, Nat.reduceSub, Nat.reduceMul, Nat.reduceEqDiff, Nat.reduceLT, Nat.reduceLeDiff, Nat.reduceBEq, Int.reduceToNat, Int.reduceLT, Int.reduceLE, Int.reduceGT, Int.reduceGE, Int.reduceEq, Int.reduceBEq, Int.reduceBNe, Int.reduceNeg, reduceCtorEq]; exact rfl) ?_
  refine AL_nil ?_
  refine thenA_n ?_
  refine awp_seq ?_
  refine awp_seq ?_
  refine awp_region ?_
  refine AL_upto (by exact rfl) (by simp only [go_sem, reduceIte, Nat.reduceAdd, Nat.reduceSub, Nat.reduceMul, Nat.reduceEqDiff, Nat.reduceLT, Nat.reduceLeDiff, Nat.reduceBEq, Int.reduceToNat, Int.reduceLT, Int.reduceLE, Int.reduceGT, Int.reduceGE, Int.reduceEq, Int.reduceBEq, Int.reduceBNe, Int.reduceNeg, reduceCtorEq]; exact rfl) ?_
  refine AL_nil ?_
  refine thenA_n ?_
  refine awp_block ?_
  obtain ⟨o_185, hL_186, h⟩ := Option.bind_eq_some_iff.1 h
  refine awp_loop_L (fun (s : Int) => ⟨[(3, .p (.int .i64 0)), (6, .p (.slc (List.map (PV.int .i64) vals_162))), (7, .p (.int .i64 (vals_162.length : Int))), (8, .p (.int .i64 s))], []⟩) (fun (o : (Unit) ⊕ (Int)) (e : Exit) (s' : St) => match o with | .inl o_188 => e = (.exit 0) ∧ Le ⟨Try.prog, Try.f90.ntmps, 0, X, [], fun _ => none, w⟩ s' ⟨[(3, .p (.int .i64 0))], []⟩ | .inr o_189 => e = .ret ∧ retQ Try.prog Try.f90 (.int .i64 o_189) .ret s') (by intro o s hT; rcases o with _ | _ <;> (have hh := hT.1; cases hh)) hL_186 (by simp only [go_sem, reduceIte, Nat.reduceAdd, Nat.reduceSub, Nat.reduceMul, Nat.reduceEqDiff, Nat.reduceLT, Nat.reduceLeDiff, Nat.reduceBEq, Int.reduceToNat, Int.reduceLT, Int.reduceLE, Int.reduceGT, Int.reduceGE, Int.reduceEq, Int.reduceBEq, Int.reduceBNe, Int.reduceNeg, reduceCtorEq]; all_goals ((repeat' refine And.intro ?_ ?_) <;> first | rfl | (simp; done) | (simp; rfl) | (simp [*]; done) | (simp [*]; rfl))) ?_ ?_
  · clear h
    intro t8_170 x h
    simp only [cmp_Or_int_l1] at h
    show AWp _ _ _ ⟨[(3, .p (.int .i64 0)), (6, .p (.slc (List.map (PV.int .i64) vals_162))), (7, .p (.int .i64 (vals_162.length : Int))), (8, .p (.int .i64 t8_170))], []⟩
    refine awp_seq ?_
    refine awp_region ?_
    refine AL_upto (by exact rfl) (by simp only [go_sem, reduceIte, Nat.reduceAdd, Nat.reduceSub, Nat.reduceMul, Nat.reduceEqDiff, Nat.reduceLT, Nat.reduceLeDiff, Nat.reduceBEq, Int.reduceToNat, Int.reduceLT, Int.reduceLE, Int.reduceGT, Int.reduceGE, Int.reduceEq, Int.reduceBEq, Int.reduceBNe, Int.reduceNeg, reduceCtorEq]; exact rfl) ?_
    refine AL_nil ?_
    refine thenA_n ?_
    refine awp_seq ?_
    by_cases hb_179 : t8_170 < (vals_162.length : Int)
    · rw [if_pos hb_179] at h
      have hb_179T := eq_true hb_179
      refine awp_ct (by simp only [go_sem, reduceIte, Nat.reduceAdd, Nat.reduceSub, Nat.reduceMul, Nat.reduceEqDiff, Nat.reduceLT, Nat.reduceLeDiff, Nat.reduceBEq, Int.reduceToNat, Int.reduceLT, Int.reduceLE, Int.reduceGT, Int.reduceGE, Int.reduceEq, Int.reduceBEq, Int.reduceBNe, Int.reduceNeg, reduceCtorEq, hb_179T]) ?_
      refine awp_skip ?_
      refine thenA_n ?_
      refine awp_seq ?_
      refine awp_block ?_
      refine awp_seq ?_
      refine awp_region ?_
      obtain ⟨x_182, hx_183, h⟩ := Option.bind_eq_some_iff.1 h
      obtain ⟨hx_183a, hx_183, hx_183b⟩ := idx_some hx_183
      have hx_183A := eq_true hx_183a
      have hx_183B := eq_true hx_183b
      refine AL_upto (by exact rfl) (by simp only [go_sem, reduceIte, Nat.reduceAdd, Nat.reduceSub, Nat.reduceMul, Nat.reduceEqDiff, Nat.reduceLT, Nat.reduceLeDiff, Nat.reduceBEq, Int.reduceToNat, Int.reduceLT, Int.reduceLE, Int.reduceGT, Int.reduceGE, Int.reduceEq, Int.reduceBEq, Int.reduceBNe, Int.reduceNeg, reduceCtorEq, hb_179T, hx_183, hx_183A, hx_183B]; exact rfl) ?_
      refine AL_nil ?_
      refine thenA_n ?_
      refine awp_seq ?_
      refine awp_region ?_
      refine AL_upto (by exact rfl) (by simp only [go_sem, reduceIte, Nat.reduceAdd, Nat.reduceSub, Nat.reduceMul, Nat.reduceEqDiff, Nat.reduceLT, Nat.reduceLeDiff, Nat.reduceBEq, Int.reduceToNat, Int.reduceLT, Int.reduceLE, Int.reduceGT, Int.reduceGE, Int.reduceEq, Int.reduceBEq, Int.reduceBNe, Int.reduceNeg, reduceCtorEq, hb_179T]; exact rfl) ?_
      refine AL_nil ?_
      refine thenA_n ?_
      by_cases hb_184 : (x_182 != 0) = true
      · rw [if_pos hb_184] at h
        refine awp_ct (by simp only [go_sem, reduceIte, Nat.reduceAdd, Nat.reduceSub, Nat.reduceMul, Nat.reduceEqDiff, Nat.reduceLT, Nat.reduceLeDiff, Nat.reduceBEq, Int.reduceToNat, Int.reduceLT, Int.reduceLE, Int.reduceGT, Int.reduceGE, Int.reduceEq, Int.reduceBEq, Int.reduceBNe, Int.reduceNeg, reduceCtorEq, hb_179T, hb_184]) ?_
        refine awp_seq ?_
        refine awp_region ?_
        refine AL_upto (by exact rfl) (by simp only [go_sem, reduceIte, Nat.reduceAdd, Nat.reduceSub, Nat.reduceMul, Nat.reduceEqDiff, Nat.reduceLT, Nat.reduceLeDiff, Nat.reduceBEq, Int.reduceToNat, Int.reduceLT, Int.reduceLE, Int.reduceGT, Int.reduceGE, Int.reduceEq, Int.reduceBEq, Int.reduceBNe, Int.reduceNeg, reduceCtorEq, hb_179T, hb_184]; exact rfl) ?_
        refine AL_nil ?_
        refine thenA_n ?_
        refine awp_ret ?_
        refine blockA_ret ?_
        refine thenA_ret ?_
        cases h
        refine ⟨rfl, ?_⟩
        refine retQ_ret (by simp only [Try.results90]; simp only [go_sem, reduceIte, Nat.reduceAdd, Nat.reduceSub, Nat.reduceMul, Nat.reduceEqDiff, Nat.reduceLT, Nat.reduceLeDiff, Nat.reduceBEq, Int.reduceToNat, Int.reduceLT, Int.reduceLE, Int.reduceGT, Int.reduceGE, Int.reduceEq, Int.reduceBEq, Int.reduceBNe, Int.reduceNeg, reduceCtorEq, hb_179T, hb_184]; exact rfl) ?_
        simp only [go_sem, reduceIte, Nat.reduceAdd, Nat.reduceSub, Nat.reduceMul, Nat.reduceEqDiff, Nat.reduceLT, Nat.reduceLeDiff, Nat.reduceBEq, Int.reduceToNat, Int.reduceLT, Int.reduceLE, Int.reduceGT, Int.reduceGE, Int.reduceEq, Int.reduceBEq, Int.reduceBNe, Int.reduceNeg, reduceCtorEq, hb_179T, hb_184]
        all_goals ((repeat' refine And.intro ?_ ?_) <;> first | rfl | (simp; done) | (simp; rfl) | (simp [*]; done) | (simp [*]; rfl))
      · rw [if_neg hb_184] at h
        have hb_184F := Bool.eq_false_iff.2 hb_184
        refine awp_cf (by simp only [go_sem, reduceIte, Nat.reduceAdd, Nat.reduceSub, Nat.reduceMul, Nat.reduceEqDiff, Nat.reduceLT, Nat.reduceLeDiff, Nat.reduceBEq, Int.reduceToNat, Int.reduceLT, Int.reduceLE, Int.reduceGT, Int.reduceGE, Int.reduceEq, Int.reduceBEq, Int.reduceBNe, Int.reduceNeg, reduceCtorEq, hb_179T, hb_184F]) ?_
        refine awp_skip ?_
        refine blockA_n ?_
        refine thenA_n ?_
        refine awp_region ?_
        refine AL_upto (by exact rfl) (by simp only [go_sem, reduceIte, Nat.reduceAdd, Nat.reduceSub, Nat.reduceMul, Nat.reduceEqDiff, Nat.reduceLT, Nat.reduceLeDiff, Nat.reduceBEq, Int.reduceToNat, Int.reduceLT, Int.reduceLE, Int.reduceGT, Int.reduceGE, Int.reduceEq, Int.reduceBEq, Int.reduceBNe, Int.reduceNeg, reduceCtorEq, hb_179T, hb_184F]; exact rfl) ?_
        refine AL_nil ?_
        cases h
        refine ⟨rfl, ?_⟩
        simp only [go_sem, reduceIte, Nat.reduceAdd, Nat.reduceSub, Nat.reduceMul, Nat.reduceEqDiff, Nat.reduceLT, Nat.reduceLeDiff, Nat.reduceBEq, Int.reduceToNat, Int.reduceLT, Int.reduceLE, Int.reduceGT, Int.reduceGE, Int.reduceEq, Int.reduceBEq, Int.reduceBNe, Int.reduceNeg, reduceCtorEq, hb_179T, hb_184F]
        all_goals ((repeat' refine And.intro ?_ ?_) <;> first | rfl | (simp; done) | (simp; rfl) | (simp [*]; done) | (simp [*]; rfl))
    · rw [if_neg hb_179] at h
      have hb_179T := eq_false hb_179
      refine awp_cf (by simp only [go_sem, reduceIte, Nat.reduceAdd, Nat.reduceSub, Nat.reduceMul, Nat.reduceEqDiff, Nat.reduceLT, Nat.reduceLeDiff, Nat.reduceBEq, Int.reduceToNat, Int.reduceLT, Int.reduceLE, Int.reduceGT, Int.reduceGE, Int.reduceEq, Int.reduceBEq, Int.reduceBNe, Int.reduceNeg, reduceCtorEq, hb_179T]) ?_
      refine awp_exit ?_
      refine thenA_exit ?_
      cases h
      refine ⟨rfl, ?_⟩
      simp only [go_sem, reduceIte, Nat.reduceAdd, Nat.reduceSub, Nat.reduceMul, Nat.reduceEqDiff, Nat.reduceLT, Nat.reduceLeDiff, Nat.reduceBEq, Int.reduceToNat, Int.reduceLT, Int.reduceLE, Int.reduceGT, Int.reduceGE, Int.reduceEq, Int.reduceBEq, Int.reduceBNe, Int.reduceNeg, reduceCtorEq, hb_179T]
      all_goals ((repeat' refine And.intro ?_ ?_) <;> first | rfl | (simp; done) | (simp; rfl) | (simp [*]; done) | (simp [*]; rfl))
  · intro e s' hT
    rcases o_185 with ⟨⟩ | r_187
    · try simp only at h
      try simp only at hT
      obtain ⟨rfl, hle⟩ := hT
      refine Wk.to hle ?_
      clear hle
      refine blockA_here ?_
      refine thenA_n ?_
      refine awp_seq ?_
      refine awp_region ?_
      refine AL_upto (by exact rfl) (by simp only [go_sem, reduceIte, Nat.reduceAdd, Nat.reduceSub, Nat.reduceMul, Nat.reduceEqDiff, Nat.reduceLT, Nat.reduceLeDiff, Nat.reduceBEq, Int.reduceToNat, Int.reduceLT, Int.reduceLE, Int.reduceGT, Int.reduceGE, Int.reduceEq, Int.reduceBEq, Int.reduceBNe, Int.reduceNeg, reduceCtorEq]; exact rfl) ?_
      refine AL_nil ?_
      refine thenA_n ?_
      refine awp_ret ?_
      cases h
      refine retQ_ret (by simp only [Try.results90]; simp only [go_sem, reduceIte, Nat.reduceAdd, Nat.reduceSub, Nat.reduceMul, Nat.reduceEqDiff, Nat.reduceLT, Nat.reduceLeDiff, Nat.reduceBEq, Int.reduceToNat, Int.reduceLT, Int.reduceLE, Int.reduceGT, Int.reduceGE, Int.reduceEq, Int.reduceBEq, Int.reduceBNe, Int.reduceNeg, reduceCtorEq]; exact rfl) ?_
      simp only [go_sem, reduceIte, Nat.reduceAdd, Nat.reduceSub, Nat.reduceMul, Nat.reduceEqDiff, Nat.reduceLT, Nat.reduceLeDiff, Nat.reduceBEq, Int.reduceToNat, Int.reduceLT, Int.reduceLE, Int.reduceGT, Int.reduceGE, Int.reduceEq, Int.reduceBEq, Int.reduceBNe, Int.reduceNeg, reduceCtorEq]
      all_goals ((repeat' refine And.intro ?_ ?_) <;> first | rfl | (simp; done) | (simp; rfl) | (simp [*]; done) | (simp [*]; rfl))
    · try simp only at h
      try simp only at hT
      obtain ⟨rfl, hq⟩ := hT
      refine Wk.now ?_
      refine blockA_ret ?_
      refine thenA_ret ?_
      cases h
      exact hq
end Go.Proofs.Ytdmddoljldjjeaa
set_option linter.unusedVariables false
set_option linter.unusedSimpArgs false
namespace Go.Proofs.Ytdmddoljldjjeaa
open Go Go.Ab
set_option maxHeartbeats 4000000 in
theorem cmp_isNaN_int_con (x_191 : Int) (r_192 : Bool) (h : cmp_isNaN_int x_191 = some r_192) : Con Try.prog 94 [(.int .i64 x_191)] (.bool r_192) := by
  refine ⟨Try.call94, ?_⟩
  refine pure_of_awp Try.func94 rfl Try.ntmps94 (by simp) fun X w => ?_
  show AWp _ _ _ ⟨[(0, .p (.int .i64 x_191))], []⟩
  simp only [cmp_isNaN_int] at h
  refine awp_seq ?_
  refine awp_region ?_
  refine AL_upto (by exact rfl) (by simp only [go_sem, reduceIte, Nat.reduceAdd, Nat.reduceSub, Nat.reduceMul, Nat.reduceEqDiff, Nat.reduceLT, Nat.reduceLeDiff, Nat.reduceBEq, Int.reduceToNat, Int.reduceLT, Int.reduceLE, Int.reduceGT, Int.reduceGE, Int.reduceEq, Int.reduceBEq, Int.reduceBNe, Int.reduceNeg, reduceCtorEq]; exact rfl) ?_
  refine AL_nil ?_
  refine thenA_n ?_
  refine awp_seq ?_
  refine awp_region ?_
  refine AL_upto (by exact rfl) (by simp only [go_sem, reduceIte, Nat.reduceAdd, Nat.reduceSub, Nat.reduceMul, Nat.reduceEqDiff, Nat.reduceLT, Nat.reduceLeDiff, Nat.reduceBEq, Int.reduceToNat, Int.reduceLT, Int.reduceLE, Int.reduceGT, Int.reduceGE, Int.reduceEq, Int.reduceBEq, Int.reduceBNe, Int.reduceNeg, reduceCtorEq]; exact rfl) ?_
  refine AL_nil ?_
  refine thenA_n ?_
  refine awp_ret ?_
  cases h
  refine retQ_ret (by simp only [Try.results94]; simp only [go_sem, reduceIte, Nat.reduceAdd, Nat.reduceSub, Nat.reduceMul, Nat.reduceEqDiff, Nat.reduceLT, Nat.reduceLeDiff, Nat.reduceBEq, Int.reduceToNat, Int.reduceLT, Int.reduceLE, Int.reduceGT, Int.reduceGE, Int.reduceEq, Int.reduceBEq, Int.reduceBNe, Int.reduceNeg, reduceCtorEq]; exact rfl) ?_
  simp only [go_sem, reduceIte, Nat.reduceAdd, Nat.reduceSub, Nat.reduceMul, Nat.reduceEqDiff, Nat.reduceLT, Nat.reduceLeDiff, Nat.reduceBEq, Int.reduceToNat, Int.reduceLT, Int.reduceLE, Int.reduceGT, Int.reduceGE, Int.reduceEq, Int.reduceBEq, Int.reduceBNe, Int.reduceNeg, reduceCtorEq]
  all_goals ((repeat' refine And.intro ?_ ?_) <;> first | rfl | (simp; done) | (simp; rfl) | (simp [*]; done) | (simp [*]; rfl))
end Go.Proofs.Ytdmddoljldjjeaa
set_option linter.unusedVariables false
set_option linter.unusedSimpArgs false
namespace Go.Proofs.Ytdmddoljldjjeaa
open Go Go.Ab
set_option maxHeartbeats 4000000 in
theorem cmp_Compare_int_con (x_193 : Int) (y_194 : Int) (r_208 : Int) (h : cmp_Compare_int x_193 y_194 = some r_208) : Con Try.prog 91 [(.int .i64 x_193), (.int .i64 y_194)] (.int .i64 r_208) := by
  refine ⟨Try.call91, ?_⟩
  refine pure_of_awp Try.func91 rfl Try.ntmps91 (by simp) fun X w => ?_
  show AWp _ _ _ ⟨[(0, .p (.int .i64 x_193)), (1, .p (.int .i64 y_194))], []⟩
  simp only [cmp_Compare_int] at h
  refine awp_seq ?_
  refine awp_region ?_
  refine AL_upto (by exact rfl) (by simp only [go_sem, reduceIte, Nat.reduceAdd, Nat.reduceSub, Nat.reduceMul, Nat.reduceEqDiff, Nat.reduceLT, Nat.reduceLeDiff, Nat.reduceBEq, Int.reduceToNat, Int.reduceLT, Int.reduceLE, Int.reduceGT, Int.reduceGE, Int.reduceEq, Int.reduceBEq, Int.reduceBNe, Int.reduceNeg, reduceCtorEq]; exact rfl) ?_
  refine AL_nil ?_
  refine thenA_n ?_
  refine awp_seq ?_
  refine awp_region ?_
  refine AL_upto (by exact rfl) (by simp only [go_sem, reduceIte, Nat.reduceAdd, Nat.reduceSub, Nat.reduceMul, Nat.reduceEqDiff, Nat.reduceLT, Nat.reduceLeDiff, Nat.reduceBEq, Int.reduceToNat, Int.reduceLT, Int.reduceLE, Int.reduceGT, Int.reduceGE, Int.reduceEq, Int.reduceBEq, Int.reduceBNe, Int.reduceNeg, reduceCtorEq]; exact rfl) ?_
  obtain ⟨r_197, hr_198, h⟩ := Option.bind_eq_some_iff.1 h
  refine AL_con' rfl (guard_none rfl) rfl (by simp only [go_sem, reduceIte, Nat.reduceAdd, Nat.reduceSub, Nat.reduceMul, Nat.reduceEqDiff, Nat.reduceLT, Nat.reduceLeDiff, Nat.reduceBEq, Int.reduceToNat, Int.reduceLT, Int.reduceLE, Int.reduceGT, Int.reduceGE, Int.reduceEq, Int.reduceBEq, Int.reduceBNe, Int.reduceNeg, reduceCtorEq]; exact rfl) (by simp only [go_sem, reduceIte, Nat.reduceAdd, Nat.reduceSub, Nat.reduceMul, Nat.reduceEqDiff, Nat.reduceLT, Nat.reduceLeDiff, Nat.reduceBEq, Int.reduceToNat, Int.reduceLT, Int.reduceLE, Int.reduceGT, Int.reduceGE, Int.reduceEq, Int.reduceBEq, Int.reduceBNe, Int.reduceNeg, reduceCtorEq]; all_goals ((repeat' refine And.intro ?_ ?_) <;> first | rfl | (simp; done) | (simp; rfl) | (simp [*]; done) | (simp [*]; rfl))) (cmp_isNaN_int_con x_193 _ hr_198) (.inr rfl) rfl ?_
  refine AL_upto (by exact rfl) (by simp only [go_sem, reduceIte, Nat.reduceAdd, Nat.reduceSub, Nat.reduceMul, Nat.reduceEqDiff, Nat.reduceLT, Nat.reduceLeDiff, Nat.reduceBEq, Int.reduceToNat, Int.reduceLT, Int.reduceLE, Int.reduceGT, Int.reduceGE, Int.reduceEq, Int.reduceBEq, Int.reduceBNe, Int.reduceNeg, reduceCtorEq]; exact rfl) ?_
  refine AL_nil ?_
  refine thenA_n ?_
  refine awp_seq ?_
  refine awp_region ?_
  refine AL_upto (by exact rfl) (by simp only [go_sem, reduceIte, Nat.reduceAdd, Nat.reduceSub, Nat.reduceMul, Nat.reduceEqDiff, Nat.reduceLT, Nat.reduceLeDiff, Nat.reduceBEq, Int.reduceToNat, Int.reduceLT, Int.reduceLE, Int.reduceGT, Int.reduceGE, Int.reduceEq, Int.reduceBEq, Int.reduceBNe, Int.reduceNeg, reduceCtorEq]; exact rfl) ?_
  obtain ⟨r_201, hr_202, h⟩ := Option.bind_eq_some_iff.1 h
  refine AL_con' rfl (guard_none rfl) rfl (by simp only [go_sem, reduceIte, Nat.reduceAdd, Nat.reduceSub, Nat.reduceMul, Nat.reduceEqDiff, Nat.reduceLT, Nat.reduceLeDiff, Nat.reduceBEq, Int.reduceToNat, Int.reduceLT, Int.reduceLE, Int.reduceGT, Int.reduceGE, Int.reduceEq, Int.reduceBEq, Int.reduceBNe, Int.reduceNeg, reduceCtorEq]; exact rfl) (by simp only [go_sem, reduceIte, Nat.reduceAdd, Nat.reduceSub, Nat.reduceMul, Nat.reduceEqDiff, Nat.reduceLT, Nat.reduceLeDiff, Nat.reduceBEq, Int.reduceToNat, Int.reduceLT, Int.reduceLE, Int.reduceGT, Int.reduceGE, Int.reduceEq, Int.reduceBEq, Int.reduceBNe, Int.reduceNeg, reduceCtorEq]; all_goals ((repeat' refine And.intro ?_ ?_) <;> first | rfl | (simp; done) | (simp; rfl) | (simp [*]; done) | (simp [*]; rfl))) (cmp_isNaN_int_con y_194 _ hr_202) (.inr rfl) rfl ?_
  refine AL_upto (by exact rfl) (by simp only [go_sem, reduceIte, Nat.reduceAdd, Nat.reduceSub, Nat.reduceMul, Nat.reduceEqDiff, Nat.reduceLT, Nat.reduceLeDiff, Nat.reduceBEq, Int.reduceToNat, Int.reduceLT, Int.reduceLE, Int.reduceGT, Int.reduceGE, Int.reduceEq, Int.reduceBEq, Int.reduceBNe, Int.reduceNeg, reduceCtorEq]; exact rfl) ?_
  refine AL_nil ?_
  refine thenA_n ?_
  refine awp_seq ?_
  refine awp_seq ?_
  refine awp_region ?_
  refine AL_upto (by exact rfl) (by simp only [go_sem, reduceIte, Nat.reduceAdd, Nat.reduceSub, Nat.reduceMul, Nat.reduceEqDiff, Nat.reduceLT, Nat.reduceLeDiff, Nat.reduceBEq, Int.reduceToNat, Int.reduceLT, Int.reduceLE, Int.reduceGT, Int.reduceGE, Int.reduceEq, Int.reduceBEq, Int.reduceBNe, Int.reduceNeg, reduceCtorEq]; exact rfl) ?_
  refine AL_nil ?_
  refine thenA_n ?_
  by_cases hb_203 : r_197 = true
  · rw [if_pos hb_203] at h
    refine awp_ct (by simp only [go_sem, reduceIte, Nat.reduceAdd, Nat.reduceSub, Nat.reduceMul, Nat.reduceEqDiff, Nat.reduceLT, Nat.reduceLeDiff, Nat.reduceBEq, Int.reduceToNat, Int.reduceLT, Int.reduceLE, Int.reduceGT, Int.reduceGE, Int.reduceEq, Int.reduceBEq, Int.reduceBNe, Int.reduceNeg, reduceCtorEq, hb_203]) ?_
    refine awp_seq ?_
    refine awp_seq ?_
    refine awp_region ?_
    refine AL_upto (by exact rfl) (by simp only [go_sem, reduceIte, Nat.reduceAdd, Nat.reduceSub, Nat.reduceMul, Nat.reduceEqDiff, Nat.reduceLT, Nat.reduceLeDiff, Nat.reduceBEq, Int.reduceToNat, Int.reduceLT, Int.reduceLE, Int.reduceGT, Int.reduceGE, Int.reduceEq, Int.reduceBEq, Int.reduceBNe, Int.reduceNeg, reduceCtorEq, hb_203]; exact rfl) ?_
    refine AL_nil ?_
    refine thenA_n ?_
    by_cases hb_204 : r_201 = true
    · rw [if_pos hb_204] at h
      refine awp_ct (by simp only [go_sem, reduceIte, Nat.reduceAdd, Nat.reduceSub, Nat.reduceMul, Nat.reduceEqDiff, Nat.reduceLT, Nat.reduceLeDiff, Nat.reduceBEq, Int.reduceToNat, Int.reduceLT, Int.reduceLE, Int.reduceGT, Int.reduceGE, Int.reduceEq, Int.reduceBEq, Int.reduceBNe, Int.reduceNeg, reduceCtorEq, hb_203, hb_204]) ?_
      refine awp_seq ?_
      refine awp_region ?_
      refine AL_upto (by exact rfl) (by simp only [go_sem, reduceIte, Nat.reduceAdd, Nat.reduceSub, Nat.reduceMul, Nat.reduceEqDiff, Nat.reduceLT, Nat.reduceLeDiff, Nat.reduceBEq, Int.reduceToNat, Int.reduceLT, Int.reduceLE, Int.reduceGT, Int.reduceGE, Int.reduceEq, Int.reduceBEq, Int.reduceBNe, Int.reduceNeg, reduceCtorEq, hb_203, hb_204]; exact rfl) ?_
      refine AL_nil ?_
      refine thenA_n ?_
      refine awp_ret ?_
      refine thenA_ret ?_
      refine thenA_ret ?_
      cases h
      refine retQ_ret (by simp only [Try.results91]; simp only [go_sem, reduceIte, Nat.reduceAdd, Nat.reduceSub, Nat.reduceMul, Nat.reduceEqDiff, Nat.reduceLT, Nat.reduceLeDiff, Nat.reduceBEq, Int.reduceToNat, Int.reduceLT, Int.reduceLE, Int.reduceGT, Int.reduceGE, Int.reduceEq, Int.reduceBEq, Int.reduceBNe, Int.reduceNeg, reduceCtorEq, hb_203, hb_204]; exact rfl) ?_
      simp only [go_sem, reduceIte, Nat.reduceAdd, Nat.reduceSub, Nat.reduceMul, Nat.reduceEqDiff, Nat.reduceLT, Nat.reduceLeDiff, Nat.reduceBEq, Int.reduceToNat, Int.reduceLT, Int.reduceLE, Int.reduceGT, Int.reduceGE, Int.reduceEq, Int.reduceBEq, Int.reduceBNe, Int.reduceNeg, reduceCtorEq, hb_203, hb_204]
      all_goals ((repeat' refine And.intro ?_ ?_) <;> first | rfl | (simp; done) | (simp; rfl) | (simp [*]; done) | (simp [*]; rfl))
    · rw [if_neg hb_204] at h
      have hb_204F := Bool.eq_false_iff.2 hb_204
      refine awp_cf (by simp only [go_sem, reduceIte, Nat.reduceAdd, Nat.reduceSub, Nat.reduceMul, Nat.reduceEqDiff, Nat.reduceLT, Nat.reduceLeDiff, Nat.reduceBEq, Int.reduceToNat, Int.reduceLT, Int.reduceLE, Int.reduceGT, Int.reduceGE, Int.reduceEq, Int.reduceBEq, Int.reduceBNe, Int.reduceNeg, reduceCtorEq, hb_203, hb_204F]) ?_
      refine awp_skip ?_
      refine thenA_n ?_
      refine awp_seq ?_
      refine awp_region ?_
      refine AL_upto (by exact rfl) (by simp only [go_sem, reduceIte, Nat.reduceAdd, Nat.reduceSub, Nat.reduceMul, Nat.reduceEqDiff, Nat.reduceLT, Nat.reduceLeDiff, Nat.reduceBEq, Int.reduceToNat, Int.reduceLT, Int.reduceLE, Int.reduceGT, Int.reduceGE, Int.reduceEq, Int.reduceBEq, Int.reduceBNe, Int.reduceNeg, reduceCtorEq, hb_203, hb_204F]; exact rfl) ?_
      refine AL_nil ?_
      refine thenA_n ?_
      refine awp_ret ?_
      refine thenA_ret ?_
      cases h
      refine retQ_ret (by simp only [Try.results91]; simp only [go_sem, reduceIte, Nat.reduceAdd, Nat.reduceSub, Nat.reduceMul, Nat.reduceEqDiff, Nat.reduceLT, Nat.reduceLeDiff, Nat.reduceBEq, Int.reduceToNat, Int.reduceLT, Int.reduceLE, Int.reduceGT, Int.reduceGE, Int.reduceEq, Int.reduceBEq, Int.reduceBNe, Int.reduceNeg, reduceCtorEq, hb_203, hb_204F]; exact rfl) ?_
      simp only [go_sem, reduceIte, Nat.reduceAdd, Nat.reduceSub, Nat.reduceMul, Nat.reduceEqDiff, Nat.reduceLT, Nat.reduceLeDiff, Nat.reduceBEq, Int.reduceToNat, Int.reduceLT, Int.reduceLE, Int.reduceGT, Int.reduceGE, Int.reduceEq, Int.reduceBEq, Int.reduceBNe, Int.reduceNeg, reduceCtorEq, hb_203, hb_204F]
      all_goals ((repeat' refine And.intro ?_ ?_) <;> first | rfl | (simp; done) | (simp; rfl) | (simp [*]; done) | (simp [*]; rfl))
  · rw [if_neg hb_203] at h
    have hb_203F := Bool.eq_false_iff.2 hb_203
    refine awp_cf (by simp only [go_sem, reduceIte, Nat.reduceAdd, Nat.reduceSub, Nat.reduceMul, Nat.reduceEqDiff, Nat.reduceLT, Nat.reduceLeDiff, Nat.reduceBEq, Int.reduceToNat, Int.reduceLT, Int.reduceLE, Int.reduceGT, Int.reduceGE, Int.reduceEq, Int.reduceBEq, Int.reduceBNe, Int.reduceNeg, reduceCtorEq, hb_203F]) ?_
    refine awp_skip ?_
    refine thenA_n ?_
    refine awp_seq ?_
    refine awp_seq ?_
    refine awp_region ?_
    refine AL_upto (by exact rfl) (by simp only [go_sem, reduceIte, Nat.reduceAdd, Nat.reduceSub, Nat.reduceMul, Nat.reduceEqDiff, Nat.reduceLT, Nat.reduceLeDiff, Nat.reduceBEq, Int.reduceToNat, Int.reduceLT, Int.reduceLE, Int.reduceGT, Int.reduceGE, Int.reduceEq, Int.reduceBEq, Int.reduceBNe, Int.reduceNeg, reduceCtorEq, hb_203F]; exact rfl) ?_
    refine AL_nil ?_
    refine thenA_n ?_
    by_cases hb_205 : r_201 = true
    · rw [if_pos hb_205] at h
      refine awp_ct (by simp only [go_sem, reduceIte, Nat.reduceAdd, Nat.reduceSub, Nat.reduceMul, Nat.reduceEqDiff, Nat.reduceLT, Nat.reduceLeDiff, Nat.reduceBEq, Int.reduceToNat, Int.reduceLT, Int.reduceLE, Int.reduceGT, Int.reduceGE, Int.reduceEq, Int.reduceBEq, Int.reduceBNe, Int.reduceNeg, reduceCtorEq, hb_203F, hb_205]) ?_
      refine awp_seq ?_
      refine awp_region ?_
      refine AL_upto (by exact rfl) (by simp only [go_sem, reduceIte, Nat.reduceAdd, Nat.reduceSub, Nat.reduceMul, Nat.reduceEqDiff, Nat.reduceLT, Nat.reduceLeDiff, Nat.reduceBEq, Int.reduceToNat, Int.reduceLT, Int.reduceLE, Int.reduceGT, Int.reduceGE, Int.reduceEq, Int.reduceBEq, Int.reduceBNe, Int.reduceNeg, reduceCtorEq, hb_203F, hb_205]; exact rfl) ?_
      refine AL_nil ?_
      refine thenA_n ?_
      refine awp_ret ?_
      refine thenA_ret ?_
      cases h
      refine retQ_ret (by simp only [Try.results91]; simp only [go_sem, reduceIte, Nat.reduceAdd, Nat.reduceSub, Nat.reduceMul, Nat.reduceEqDiff, Nat.reduceLT, Nat.reduceLeDiff, Nat.reduceBEq, Int.reduceToNat, Int.reduceLT, Int.reduceLE, Int.reduceGT, Int.reduceGE, Int.reduceEq, Int.reduceBEq, Int.reduceBNe, Int.reduceNeg, reduceCtorEq, hb_203F, hb_205]; exact rfl) ?_
      simp only [go_sem, reduceIte, Nat.reduceAdd, Nat.reduceSub, Nat.reduceMul, Nat.reduceEqDiff, Nat.reduceLT, Nat.reduceLeDiff, Nat.reduceBEq, Int.reduceToNat, Int.reduceLT, Int.reduceLE, Int.reduceGT, Int.reduceGE, Int.reduceEq, Int.reduceBEq, Int.reduceBNe, Int.reduceNeg, reduceCtorEq, hb_203F, hb_205]
      all_goals ((repeat' refine And.intro ?_ ?_) <;> first | rfl | (simp; done) | (simp; rfl) | (simp [*]; done) | (simp [*]; rfl))
    · rw [if_neg hb_205] at h
      have hb_205F := Bool.eq_false_iff.2 hb_205
      refine awp_cf (by simp only [go_sem, reduceIte, Nat.reduceAdd, Nat.reduceSub, Nat.reduceMul, Nat.reduceEqDiff, Nat.reduceLT, Nat.reduceLeDiff, Nat.reduceBEq, Int.reduceToNat, Int.reduceLT, Int.reduceLE, Int.reduceGT, Int.reduceGE, Int.reduceEq, Int.reduceBEq, Int.reduceBNe, Int.reduceNeg, reduceCtorEq, hb_203F, hb_205F]) ?_
      refine awp_skip ?_
      refine thenA_n ?_
      refine awp_seq ?_
      refine awp_seq ?_
      refine awp_region ?_
      refine AL_upto (by exact rfl) (by simp only [go_sem, reduceIte, Nat.reduceAdd, Nat.reduceSub, Nat.reduceMul, Nat.reduceEqDiff, Nat.reduceLT, Nat.reduceLeDiff, Nat.reduceBEq, Int.reduceToNat, Int.reduceLT, Int.reduceLE, Int.reduceGT, Int.reduceGE, Int.reduceEq, Int.reduceBEq, Int.reduceBNe, Int.reduceNeg, reduceCtorEq, hb_203F, hb_205F]; exact rfl) ?_
      refine AL_nil ?_
      refine thenA_n ?_
      by_cases hb_206 : x_193 < y_194
      · rw [if_pos hb_206] at h
        have hb_206T := eq_true hb_206
        refine awp_ct (by simp only [go_sem, reduceIte, Nat.reduceAdd, Nat.reduceSub, Nat.reduceMul, Nat.reduceEqDiff, Nat.reduceLT, Nat.reduceLeDiff, Nat.reduceBEq, Int.reduceToNat, Int.reduceLT, Int.reduceLE, Int.reduceGT, Int.reduceGE, Int.reduceEq, Int.reduceBEq, Int.reduceBNe, Int.reduceNeg, reduceCtorEq, hb_203F, hb_205F, hb_206T]) ?_
        refine awp_seq ?_
        refine awp_region ?_
        refine AL_upto (by exact rfl) (by simp only [go_sem, reduceIte, Nat.reduceAdd, Nat.reduceSub, Nat.reduceMul, Nat.reduceEqDiff, Nat.reduceLT, Nat.reduceLeDiff, Nat.reduceBEq, Int.reduceToNat, Int.reduceLT, Int.reduceLE, Int.reduceGT, Int.reduceGE, Int.reduceEq, Int.reduceBEq, Int.reduceBNe, Int.reduceNeg, reduceCtorEq, hb_203F, hb_205F, hb_206T]; exact rfl) ?_
        refine AL_nil ?_
        refine thenA_n ?_
        refine awp_ret ?_
        refine thenA_ret ?_
        cases h
        refine retQ_ret (by simp only [Try.results91]; simp only [go_sem, reduceIte, Nat.reduceAdd, Nat.reduceSub, Nat.reduceMul, Nat.reduceEqDiff, Nat.reduceLT, Nat.reduceLeDiff, Nat.reduceBEq, Int.reduceToNat, Int.reduceLT, Int.reduceLE, Int.reduceGT, Int.reduceGE, Int.reduceEq, Int.reduceBEq, Int.reduceBNe, Int.reduceNeg, reduceCtorEq, hb_203F, hb_205F, hb_206T]; exact rfl) ?_
        simp only [go_sem, reduceIte, Nat.reduceAdd, Nat.reduceSub, Nat.reduceMul, Nat.reduceEqDiff, Nat.reduceLT, Nat.reduceLeDiff, Nat.reduceBEq, Int.reduceToNat, Int.reduceLT, Int.reduceLE, Int.reduceGT, Int.reduceGE, Int.reduceEq, Int.reduceBEq, Int.reduceBNe, Int.reduceNeg, reduceCtorEq, hb_203F, hb_205F, hb_206T]
        all_goals ((repeat' refine And.intro ?_ ?_) <;> first | rfl | (simp; done) | (simp; rfl) | (simp [*]; done) | (simp [*]; rfl))
      · rw [if_neg hb_206] at h
        have hb_206T := eq_false hb_206
        refine awp_cf (by simp only [go_sem, reduceIte, Nat.reduceAdd, Nat.reduceSub, Nat.reduceMul, Nat.reduceEqDiff, Nat.reduceLT, Nat.reduceLeDiff, Nat.reduceBEq, Int.reduceToNat, Int.reduceLT, Int.reduceLE, Int.reduceGT, Int.reduceGE, Int.reduceEq, Int.reduceBEq, Int.reduceBNe, Int.reduceNeg, reduceCtorEq, hb_203F, hb_205F, hb_206T]) ?_
        refine awp_skip ?_
        refine thenA_n ?_
        refine awp_seq ?_
        refine awp_seq ?_
        refine awp_region ?_
        refine AL_upto (by exact rfl) (by simp only [go_sem, reduceIte, Nat.reduceAdd, Nat.reduceSub, Nat.reduceMul, Nat.reduceEqDiff, Nat.reduceLT, Nat.reduceLeDiff, Nat.reduceBEq, Int.reduceToNat, Int.reduceLT, Int.reduceLE, Int.reduceGT, Int.reduceGE, Int.reduceEq, Int.reduceBEq, Int.reduceBNe, Int.reduceNeg, reduceCtorEq, hb_203F, hb_205F, hb_206T]; exact rfl) ?_
        refine AL_nil ?_
        refine thenA_n ?_
        by_cases hb_207 : x_193 > y_194
        · rw [if_pos hb_207] at h
          have hb_207T := eq_true hb_207
          refine awp_ct (by simp only [go_sem, reduceIte, Nat.reduceAdd, Nat.reduceSub, Nat.reduceMul, Nat.reduceEqDiff, Nat.reduceLT, Nat.reduceLeDiff, Nat.reduceBEq, Int.reduceToNat, Int.reduceLT, Int.reduceLE, Int.reduceGT, Int.reduceGE, Int.reduceEq, Int.reduceBEq, Int.reduceBNe, Int.reduceNeg, reduceCtorEq, hb_203F, hb_205F, hb_206T, hb_207T]) ?_
          refine awp_seq ?_
          refine awp_region ?_
          refine AL_upto (by exact rfl) (by simp only [go_sem, reduceIte, Nat.reduceAdd, Nat.reduceSub, Nat.reduceMul, Nat.reduceEqDiff, Nat.reduceLT, Nat.reduceLeDiff, Nat.reduceBEq, Int.reduceToNat, Int.reduceLT, Int.reduceLE, Int.reduceGT, Int.reduceGE, Int.reduceEq, Int.reduceBEq, Int.reduceBNe, Int.reduceNeg, reduceCtorEq, hb_203F, hb_205F, hb_206T, hb_207T]; exact rfl) ?_
          refine AL_nil ?_
          refine thenA_n ?_
          refine awp_ret ?_
          refine thenA_ret ?_
          cases h
          refine retQ_ret (by simp only [Try.results91]; simp only [go_sem, reduceIte, Nat.reduceAdd, Nat.reduceSub, Nat.reduceMul, Nat.reduceEqDiff, Nat.reduceLT, Nat.reduceLeDiff, Nat.reduceBEq, Int.reduceToNat, Int.reduceLT, Int.reduceLE, Int.reduceGT, Int.reduceGE, Int.reduceEq, Int.reduceBEq, Int.reduceBNe, Int.reduceNeg, reduceCtorEq, hb_203F, hb_205F, hb_206T, hb_207T]; exact rfl) ?_
          simp only [go_sem, reduceIte, Nat.reduceAdd, Nat.reduceSub, Nat.reduceMul, Nat.reduceEqDiff, Nat.reduceLT, Nat.reduceLeDiff, Nat.reduceBEq, Int.reduceToNat, Int.reduceLT, Int.reduceLE, Int.reduceGT, Int.reduceGE, Int.reduceEq, Int.reduceBEq, Int.reduceBNe, Int.reduceNeg, reduceCtorEq, hb_203F, hb_205F, hb_206T, hb_207T]
          all_goals ((repeat' refine And.intro ?_ ?_) <;> first | rfl | (simp; done) | (simp; rfl) | (simp [*]; done) | (simp [*]; rfl))
        · rw [if_neg hb_207] at h
          have hb_207T := eq_false hb_207
          refine awp_cf (by simp only [go_sem, reduceIte, Nat.reduceAdd, Nat.reduceSub, Nat.reduceMul, Nat.reduceEqDiff, Nat.reduceLT, Nat.reduceLeDiff, Nat.reduceBEq, Int.reduceToNat, Int.reduceLT, Int.reduceLE, Int.reduceGT, Int.reduceGE, Int.reduceEq, Int.reduceBEq, Int.reduceBNe, Int.reduceNeg, reduceCtorEq, hb_203F, hb_205F, hb_206T, hb_207T]) ?_
          refine awp_skip ?_
          refine thenA_n ?_
          refine awp_seq ?_
          refine awp_region ?_
          refine AL_upto (by exact rfl) (by simp only [go_sem, reduceIte, Nat.reduceAdd, Nat.reduceSub, Nat.reduceMul, Nat.reduceEqDiff, Nat.reduceLT, Nat.reduceLeDiff, Nat.reduceBEq, Int.reduceToNat, Int.reduceLT, Int.reduceLE, Int.reduceGT, Int.reduceGE, Int.reduceEq, Int.reduceBEq, Int.reduceBNe, Int.reduceNeg, reduceCtorEq, hb_203F, hb_205F, hb_206T, hb_207T]; exact rfl) ?_
          refine AL_nil ?_
          refine thenA_n ?_
          refine awp_ret ?_
          cases h
          refine retQ_ret (by simp only [Try.results91]; simp only [go_sem, reduceIte, Nat.reduceAdd, Nat.reduceSub, Nat.reduceMul, Nat.reduceEqDiff, Nat.reduceLT, Nat.reduceLeDiff, Nat.reduceBEq, Int.reduceToNat, Int.reduceLT, Int.reduceLE, Int.reduceGT, Int.reduceGE, Int.reduceEq, Int.reduceBEq, Int.reduceBNe, Int.reduceNeg, reduceCtorEq, hb_203F, hb_205F, hb_206T, hb_207T]; exact rfl) ?_
          simp only [go_sem, reduceIte, Nat.reduceAdd, Nat.reduceSub, Nat.reduceMul, Nat.reduceEqDiff, Nat.reduceLT, Nat.reduceLeDiff, Nat.reduceBEq, Int.reduceToNat, Int.reduceLT, Int.reduceLE, Int.reduceGT, Int.reduceGE, Int.reduceEq, Int.reduceBEq, Int.reduceBNe, Int.reduceNeg, reduceCtorEq, hb_203F, hb_205F, hb_206T, hb_207T]
          all_goals ((repeat' refine And.intro ?_ ?_) <;> first | rfl | (simp; done) | (simp; rfl) | (simp [*]; done) | (simp [*]; rfl))
end Go.Proofs.Ytdmddoljldjjeaa
set_option linter.unusedVariables false
set_option linter.unusedSimpArgs false
namespace Go.Proofs.Ytdmddoljldjjeaa
open Go Go.Ab
set_option maxHeartbeats 4000000 in
theorem cmp_isNaN_int64_con (x_209 : Int) (r_210 : Bool) (h : cmp_isNaN_int64 x_209 = some r_210) : Con Try.prog 95 [(.int .i64 x_209)] (.bool r_210) := by
  refine ⟨Try.call95, ?_⟩
  refine pure_of_awp Try.func95 rfl Try.ntmps95 (by simp) fun X w => ?_
  show AWp _ _ _ ⟨[(0, .p (.int .i64 x_209))], []⟩
  simp only [cmp_isNaN_int64] at h
  refine awp_seq ?_
  refine awp_region ?_
  refine AL_upto (by exact rfl) (by simp only [go_sem, reduceIte, Nat.reduceAdd, Nat.reduceSub, Nat.reduceMul, Nat.reduceEqDiff, Nat.reduceLT, Nat.reduceLeDiff, Nat.reduceBEq, Int.reduceToNat, Int.reduceLT, Int.reduceLE, Int.reduceGT, Int.reduceGE, Int.reduceEq, Int.reduceBEq, Int.reduceBNe, Int.reduceNeg, reduceCtorEq]; exact rfl) ?_
  refine AL_nil ?_
  refine thenA_n ?_
  refine awp_seq ?_
  refine awp_region ?_
  refine AL_upto (by exact rfl) (by simp only [go_sem, reduceIte, Nat.reduceAdd, Nat.reduceSub, Nat.reduceMul, Nat.reduceEqDiff, Nat.reduceLT, Nat.reduceLeDiff, Nat.reduceBEq, Int.reduceToNat, Int.reduceLT, Int.reduceLE, Int.reduceGT, Int.reduceGE, Int.reduceEq, Int.reduceBEq, Int.reduceBNe, Int.reduceNeg, reduceCtorEq]; exact rfl) ?_
  refine AL_nil ?_
  refine thenA_n ?_
  refine awp_ret ?_
  cases h
  refine retQ_ret (by simp only [Try.results95]; simp only [go_sem, reduceIte, Nat.reduceAdd, Nat.reduceSub, Nat.reduceMul, Nat.reduceEqDiff, Nat.reduceLT, Nat.reduceLeDiff, Nat.reduceBEq, Int.reduceToNat, Int.reduceLT, Int.reduceLE, Int.reduceGT, Int.reduceGE, Int.reduceEq, Int.reduceBEq, Int.reduceBNe, Int.reduceNeg, reduceCtorEq]; exact rfl) ?_
  simp only [go_sem, reduceIte, Nat.reduceAdd, Nat.reduceSub, Nat.reduceMul, Nat.reduceEqDiff, Nat.reduceLT, Nat.reduceLeDiff, Nat.reduceBEq, Int.reduceToNat, Int.reduceLT, Int.reduceLE, Int.reduceGT, Int.reduceGE, Int.reduceEq, Int.reduceBEq, Int.reduceBNe, Int.reduceNeg, reduceCtorEq]
  all_goals ((repeat' refine And.intro ?_ ?_) <;> first | rfl | (simp; done) | (simp; rfl) | (simp [*]; done) | (simp [*]; rfl))
end Go.Proofs.Ytdmddoljldjjeaa
set_option linter.unusedVariables false
set_option linter.unusedSimpArgs false
namespace Go.Proofs.Ytdmddoljldjjeaa
open Go Go.Ab
set_option maxHeartbeats 4000000 in
theorem cmp_Compare_int64_con (x_211 : Int) (y_212 : Int) (r_226 : Int) (h : cmp_Compare_int64 x_211 y_212 = some r_226) : Con Try.prog 92 [(.int .i64 x_211), (.int .i64 y_212)] (.int .i64 r_226) := by
  refine ⟨Try.call92, ?_⟩
  refine pure_of_awp Try.func92 rfl Try.ntmps92 (by simp) fun X w => ?_
  show AWp _ _ _ ⟨[(0, .p (.int .i64 x_211)), (1, .p (.int .i64 y_212))], []⟩
  simp only [cmp_Compare_int64] at h
  refine awp_seq ?_
  refine awp_region ?_
  refine AL_upto (by exact rfl) (by simp only [go_sem, reduceIte, Nat.reduceAdd, Nat.reduceSub, Nat.reduceMul, Nat.reduceEqDiff, Nat.reduceLT, Nat.reduceLeDiff, Nat.reduceBEq, Int.reduceToNat, Int.reduceLT, Int.reduceLE, Int.reduceGT, Int.reduceGE, Int.reduceEq, Int.reduceBEq, Int.reduceBNe, Int.reduceNeg, reduceCtorEq]; exact rfl) ?_
  refine AL_nil ?_
  refine thenA_n ?_
  refine awp_seq ?_
  refine awp_region ?_
  refine AL_upto (by exact rfl) (by simp only [go_sem, reduceIte, Nat.reduceAdd, Nat.reduceSub, Nat.reduceMul, Nat.reduceEqDiff, Nat.reduceLT, Nat.reduceLeDiff, Nat.reduceBEq, Int.reduceToNat, Int.reduceLT, Int.reduceLE, Int.reduceGT, Int.reduceGE, Int.reduceEq, Int.reduceBEq, Int.reduceBNe, Int.reduceNeg, reduceCtorEq]; exact rfl) ?_
  obtain ⟨r_215, hr_216, h⟩ := Option.bind_eq_some_iff.1 h
  refine AL_con' rfl (guard_none rfl) rfl (by simp only [go_sem, reduceIte, Nat.reduceAdd, Nat.reduceSub, Nat.reduceMul, Nat.reduceEqDiff, Nat.reduceLT, Nat.reduceLeDiff, Nat.reduceBEq, Int.reduceToNat, Int.reduceLT, Int.reduceLE, Int.reduceGT, Int.reduceGE, Int.reduceEq, Int.reduceBEq, Int.reduceBNe, Int.reduceNeg, reduceCtorEq]; exact rfl) (by simp only [go_sem, reduceIte, Nat.reduceAdd, Nat.reduceSub, Nat.reduceMul, Nat.reduceEqDiff, Nat.reduceLT, Nat.reduceLeDiff, Nat.reduceBEq, Int.reduceToNat, Int.reduceLT, Int.reduceLE, Int.reduceGT, Int.reduceGE, Int.reduceEq, Int.reduceBEq, Int.reduceBNe, Int.reduceNeg, reduceCtorEq]; all_goals ((repeat' refine And.intro ?_ ?_) <;> first | rfl | (simp; done) | (simp; rfl) | (simp [*]; done) | (simp [*]; rfl))) (cmp_isNaN_int64_con x_211 _ hr_216) (.inr rfl) rfl ?_
  refine AL_upto (by exact rfl) (by simp only [go_sem, reduceIte, Nat.reduceAdd, Nat.reduceSub, Nat.reduceMul, Nat.reduceEqDiff, Nat.reduceLT, Nat.reduceLeDiff, Nat.reduceBEq, Int.reduceToNat, Int.reduceLT, Int.reduceLE, Int.reduceGT, Int.reduceGE, Int.reduceEq, Int.reduceBEq, Int.reduceBNe, Int.reduceNeg, reduceCtorEq]; exact rfl) ?_
  refine AL_nil ?_
  refine thenA_n ?_
  refine awp_seq ?_
  refine awp_region ?_
  refine AL_upto (by exact rfl) (by simp only [go_sem, reduceIte, Nat.reduceAdd, Nat.reduceSub, Nat.reduceMul, Nat.reduceEqDiff, Nat.reduceLT, Nat.reduceLeDiff, Nat.reduceBEq, Int.reduceToNat, Int.reduceLT, Int.reduceLE, Int.reduceGT, Int.reduceGE, Int.reduceEq, Int.reduceBEq, Int.reduceBNe, Int.reduceNeg, reduceCtorEq]; exact rfl) ?_
  obtain ⟨r_219, hr_220, h⟩ := Option.bind_eq_some_iff.1 h
  refine AL_con' rfl (guard_none rfl) rfl (by simp only [go_sem, reduceIte, Nat.reduceAdd, Nat.reduceSub, Nat.reduceMul, Nat.reduceEqDiff, Nat.reduceLT, Nat.reduceLeDiff, Nat.reduceBEq, Int.reduceToNat, Int.reduceLT, Int.reduceLE, Int.reduceGT, Int.reduceGE, Int.reduceEq, Int.reduceBEq, Int.reduceBNe, Int.reduceNeg, reduceCtorEq]; exact rfl) (by simp only [go_sem, reduceIte, Nat.reduceAdd, Nat.reduceSub, Nat.reduceMul, Nat.reduceEqDiff, Nat.reduceLT, Nat.reduceLeDiff, Nat.reduceBEq, Int.reduceToNat, Int.reduceLT, Int.reduceLE, Int.reduceGT, Int.reduceGE, Int.reduceEq, Int.reduceBEq, Int.reduceBNe, Int.reduceNeg, reduceCtorEq]; all_goals ((repeat' refine And.intro ?_ ?_) <;> first | rfl | (simp; done) | (simp; rfl) | (simp [*]; done) | (simp [*]; rfl))) (cmp_isNaN_int64_con y_212 _ hr_220) (.inr rfl) rfl ?_
  refine AL_upto (by exact rfl) (by simp only [go_sem, reduceIte, Nat.reduceAdd, Nat.reduceSub, Nat.reduceMul, Nat.reduceEqDiff, Nat.reduceLT, Nat.reduceLeDiff, Nat.reduceBEq, Int.reduceToNat, Int.reduceLT, Int.reduceLE, Int.reduceGT, Int.reduceGE, Int.reduceEq, Int.reduceBEq, Int.reduceBNe, Int.reduceNeg, reduceCtorEq]; exact rfl) ?_
  refine AL_nil ?_
  refine thenA_n ?_
  refine awp_seq ?_
  refine awp_seq ?_
  refine awp_region ?_
  refine AL_upto (by exact rfl) (by simp only [go_sem, reduceIte, Nat.reduceAdd, Nat.reduceSub, Nat.reduceMul, Nat.reduceEqDiff, Nat.reduceLT, Nat.reduceLeDiff, Nat.reduceBEq, Int.reduceToNat, Int.reduceLT, Int.reduceLE, Int.reduceGT, Int.reduceGE, Int.reduceEq, Int.reduceBEq, Int.reduceBNe, Int.reduceNeg, reduceCtorEq]; exact rfl) ?_
  refine AL_nil ?_
  refine thenA_n ?_
  by_cases hb_221 : r_215 = true
  · rw [if_pos hb_221] at h
    refine awp_ct (by simp only [go_sem, reduceIte, Nat.reduceAdd, Nat.reduceSub, Nat.reduceMul, Nat.reduceEqDiff, Nat.reduceLT, Nat.reduceLeDiff, Nat.reduceBEq, Int.reduceToNat, Int.reduceLT, Int.reduceLE, Int.reduceGT, Int.reduceGE, Int.reduceEq, Int.reduceBEq, Int.reduceBNe, Int.reduceNeg, reduceCtorEq, hb_221]) ?_
    refine awp_seq ?_
    refine awp_seq ?_
    refine awp_region ?_
    refine AL_upto (by exact rfl) (by simp only [go_sem, reduceIte, Nat.reduceAdd, Nat.reduceSub, Nat.reduceMul, Nat.reduceEqDiff, Nat.reduceLT, Nat.reduceLeDiff, Nat.reduceBEq, Int.reduceToNat, Int.reduceLT, Int.reduceLE, Int.reduceGT, Int.reduceGE, Int.reduceEq, Int.reduceBEq, Int.reduceBNe, Int.reduceNeg, reduceCtorEq, hb_221]; exact rfl) ?_
    refine AL_nil ?_
    refine thenA_n ?_
    by_cases hb_222 : r_219 = true
    · rw [if_pos hb_222] at h
      refine awp_ct (by simp only [go_sem, reduceIte, Nat.reduceAdd, Nat.reduceSub, Nat.reduceMul, Nat.reduceEqDiff, Nat.reduceLT, Nat.reduceLeDiff, Nat.reduceBEq, Int.reduceToNat, Int.reduceLT, Int.reduceLE, Int.reduceGT, Int.reduceGE, Int.reduceEq, Int.reduceBEq, Int.reduceBNe, Int.reduceNeg, reduceCtorEq, hb_221, hb_222]) ?_
      refine awp_seq ?_
      refine awp_region ?_
      refine AL_upto (by exact rfl) (by simp only [go_sem, reduceIte, Nat.reduceAdd, Nat.reduceSub, Nat.reduceMul, Nat.reduceEqDiff, Nat.reduceLT, Nat.reduceLeDiff, Nat.reduceBEq, Int.reduceToNat, Int.reduceLT, Int.reduceLE, Int.reduceGT, Int.reduceGE, Int.reduceEq, Int.reduceBEq, Int.reduceBNe, Int.reduceNeg, reduceCtorEq, hb_221, hb_222]; exact rfl) ?_
      refine AL_nil ?_
      refine thenA_n ?_
      refine awp_ret ?_
      refine thenA_ret ?_
      refine thenA_ret ?_
      cases h
      refine retQ_ret (by simp only [Try.results92]; simp only [go_sem, reduceIte, Nat.reduceAdd, Nat.reduceSub, Nat.reduceMul, Nat.reduceEqDiff, Nat.reduceLT, Nat.reduceLeDiff, Nat.reduceBEq, Int.reduceToNat, Int.reduceLT, Int.reduceLE, Int.reduceGT, Int.reduceGE, Int.reduceEq, Int.reduceBEq, Int.reduceBNe, Int.reduceNeg, reduceCtorEq, hb_221, hb_222]; exact rfl) ?_
      simp only [go_sem, reduceIte, Nat.reduceAdd, Nat.reduceSub, Nat.reduceMul, Nat.reduceEqDiff, Nat.reduceLT, Nat.reduceLeDiff, Nat.reduceBEq, Int.reduceToNat, Int.reduceLT, Int.reduceLE, Int.reduceGT, Int.reduceGE, Int.reduceEq, Int.reduceBEq, Int.reduceBNe, Int.reduceNeg, reduceCtorEq, hb_221, hb_222]
      all_goals ((repeat' refine And.intro ?_ ?_) <;> first | rfl | (simp; done) | (simp; rfl) | (simp [*]; done) | (simp [*]; rfl))
    · rw [if_neg hb_222] at h
      have hb_222F := Bool.eq_false_iff.2 hb_222
      refine awp_cf (by simp only [go_sem, reduceIte, Nat.reduceAdd, Nat.reduceSub, Nat.reduceMul, Nat.reduceEqDiff, Nat.reduceLT, Nat.reduceLeDiff, Nat.reduceBEq, Int.reduceToNat, Int.reduceLT, Int.reduceLE, Int.reduceGT, Int.reduceGE, Int.reduceEq, Int.reduceBEq, Int.reduceBNe, Int.reduceNeg, reduceCtorEq, hb_221, hb_222F]) ?_
      refine awp_skip ?_
      refine thenA_n ?_
      refine awp_seq ?_
      refine awp_region ?_
      refine AL_upto (by exact rfl) (by simp only [go_sem, reduceIte, Nat.reduceAdd, Nat.reduceSub, Nat.reduceMul, Nat.reduceEqDiff, Nat.reduceLT, Nat.reduceLeDiff, Nat.reduceBEq, Int.reduceToNat, Int.reduceLT, Int.reduceLE, Int.reduceGT, Int.reduceGE, Int.reduceEq, Int.reduceBEq, Int.reduceBNe, Int.reduceNeg, reduceCtorEq, hb_221, hb_222F]; exact rfl) ?_
      refine AL_nil ?_
      refine thenA_n ?_
      refine awp_ret ?_
      refine thenA_ret ?_
      cases h
      refine retQ_ret (by simp only [Try.results92]; simp only [go_sem, reduceIte, Nat.reduceAdd, Nat.reduceSub, Nat.reduceMul, Nat.reduceEqDiff, Nat.reduceLT, Nat.reduceLeDiff, Nat.reduceBEq, Int.reduceToNat, Int.reduceLT, Int.reduceLE, Int.reduceGT, Int.reduceGE, Int.reduceEq, Int.reduceBEq, Int.reduceBNe, Int.reduceNeg, reduceCtorEq, hb_221, hb_222F]; exact rfl) ?_
      simp only [go_sem, reduceIte, Nat.reduceAdd, Nat.reduceSub, Nat.reduceMul, Nat.reduceEqDiff, Nat.reduceLT, Nat.reduceLeDiff, Nat.reduceBEq, Int.reduceToNat, Int.reduceLT, Int.reduceLE, Int.reduceGT, Int.reduceGE, Int.reduceEq, Int.reduceBEq, Int.reduceBNe, Int.reduceNeg, reduceCtorEq, hb_221, hb_222F]
      all_goals ((repeat' refine And.intro ?_ ?_) <;> first | rfl | (simp; done) | (simp; rfl) | (simp [*]; done) | (simp [*]; rfl))
  · rw [if_neg hb_221] at h
    have hb_221F := Bool.eq_false_iff.2 hb_221
    refine awp_cf (by simp only [go_sem, reduceIte, Nat.reduceAdd, Nat.reduceSub, Nat.reduceMul, Nat.reduceEqDiff, Nat.reduceLT, Nat.reduceLeDiff, Nat.reduceBEq, Int.reduceToNat, Int.reduceLT, Int.reduceLE, Int.reduceGT, Int.reduceGE, Int.reduceEq, Int.reduceBEq, Int.reduceBNe, Int.reduceNeg, reduceCtorEq, hb_221F]) ?_
    refine awp_skip ?_
    refine thenA_n ?_
    refine awp_seq ?_
    refine awp_seq ?_
    refine awp_region ?_
    refine AL_upto (by exact rfl) (by simp only [go_sem, reduceIte, Nat.reduceAdd, Nat.reduceSub, Nat.reduceMul, Nat.reduceEqDiff, Nat.reduceLT, Nat.reduceLeDiff, Nat.reduceBEq, Int.reduceToNat, Int.reduceLT, Int.reduceLE, Int.reduceGT, Int.reduceGE, Int.reduceEq, Int.reduceBEq, Int.reduceBNe, Int.reduceNeg, reduceCtorEq, hb_221F]; exact rfl) ?_
    refine AL_nil ?_
    refine thenA_n ?_
    by_cases hb_223 : r_219 = true
    · rw [if_pos hb_223] at h
      refine awp_ct (by simp only [go_sem, reduceIte, Nat.reduceAdd, Nat.reduceSub, Nat.reduceMul, Nat.reduceEqDiff, Nat.reduceLT, Nat.reduceLeDiff, Nat.reduceBEq, Int.reduceToNat, Int.reduceLT, Int.reduceLE, Int.reduceGT, Int.reduceGE, Int.reduceEq, Int.reduceBEq, Int.reduceBNe, Int.reduceNeg, reduceCtorEq, hb_221F, hb_223]) ?_
      refine awp_seq ?_
      refine awp_region ?_
      refine AL_upto (by exact rfl) (by simp only [go_sem, reduceIte, Nat.reduceAdd, Nat.reduceSub, Nat.reduceMul, Nat.reduceEqDiff, Nat.reduceLT, Nat.reduceLeDiff, Nat.reduceBEq, Int.reduceToNat, Int.reduceLT, Int.reduceLE, Int.reduceGT, Int.reduceGE, Int.reduceEq, Int.reduceBEq, Int.reduceBNe, Int.reduceNeg, reduceCtorEq, hb_221F, hb_223]; exact rfl) ?_
      refine AL_nil ?_
      refine thenA_n ?_
      refine awp_ret ?_
      refine thenA_ret ?_
      cases h
      refine retQ_ret (by simp only [Try.results92]; simp only [go_sem, reduceIte, Nat.reduceAdd, Nat.reduceSub, Nat.reduceMul, Nat.reduceEqDiff, Nat.reduceLT, Nat.reduceLeDiff, Nat.reduceBEq, Int.reduceToNat, Int.reduceLT, Int.reduceLE, Int.reduceGT, Int.reduceGE, Int.reduceEq, Int.reduceBEq, Int.reduceBNe, Int.reduceNeg, reduceCtorEq, hb_221F, hb_223]; exact rfl) ?_
      simp only [go_sem, reduceIte, Nat.reduceAdd, Nat.reduceSub, Nat.reduceMul, Nat.reduceEqDiff, Nat.reduceLT, Nat.reduceLeDiff, Nat.reduceBEq, Int.reduceToNat, Int.reduceLT, Int.reduceLE, Int.reduceGT, Int.reduceGE, Int.reduceEq, Int.reduceBEq, Int.reduceBNe, Int.reduceNeg, reduceCtorEq, hb_221F, hb_223]
      all_goals ((repeat' refine And.intro ?_ ?_) <;> first | rfl | (simp; done) | (simp; rfl) | (simp [*]; done) | (simp [*]; rfl))
    · rw [if_neg hb_223] at h
      have hb_223F := Bool.eq_false_iff.2 hb_223
      refine awp_cf (by simp only [go_sem, reduceIte, Nat.reduceAdd, Nat.reduceSub, Nat.reduceMul, Nat.reduceEqDiff, Nat.reduceLT, Nat.reduceLeDiff, Nat.reduceBEq, Int.reduceToNat, Int.reduceLT, Int.reduceLE, Int.reduceGT, Int.reduceGE, Int.reduceEq, Int.reduceBEq, Int.reduceBNe, Int.reduceNeg, reduceCtorEq, hb_221F, hb_223F]) ?_
      refine awp_skip ?_
      refine thenA_n ?_
      refine awp_seq ?_
      refine awp_seq ?_
      refine awp_region ?_
      refine AL_upto (by exact rfl) (by simp only [go_sem, reduceIte, Nat.reduceAdd, Nat.reduceSub, Nat.reduceMul, Nat.reduceEqDiff, Nat.reduceLT, Nat.reduceLeDiff, Nat.reduceBEq, Int.reduceToNat, Int.reduceLT, Int.reduceLE, Int.reduceGT, Int.reduceGE, Int.reduceEq, Int.reduceBEq, Int.reduceBNe, Int.reduceNeg, reduceCtorEq, hb_221F, hb_223F]; exact rfl) ?_
      refine AL_nil ?_
      refine thenA_n ?_
      by_cases hb_224 : x_211 < y_212
      · rw [if_pos hb_224] at h
        have hb_224T := eq_true hb_224
        refine awp_ct (by simp only [go_sem, reduceIte, Nat.reduceAdd, Nat.reduceSub, Nat.reduceMul, Nat.reduceEqDiff, Nat.reduceLT, Nat.reduceLeDiff, Nat.reduceBEq, Int.reduceToNat, Int.reduceLT, Int.reduceLE, Int.reduceGT, Int.reduceGE, Int.reduceEq, Int.reduceBEq, Int.reduceBNe, Int.reduceNeg, reduceCtorEq, hb_221F, hb_223F, hb_224T]) ?_
        refine awp_seq ?_
        refine awp_region ?_
        refine AL_upto (by exact rfl) (by simp only [go_sem, reduceIte, Nat.reduceAdd, Nat.reduceSub, Nat.reduceMul, Nat.reduceEqDiff, Nat.reduceLT, Nat.reduceLeDiff, Nat.reduceBEq, Int.reduceToNat, Int.reduceLT, Int.reduceLE, Int.reduceGT, Int.reduceGE, Int.reduceEq, Int.reduceBEq, Int.reduceBNe, Int.reduceNeg, reduceCtorEq, hb_221F, hb_223F, hb_224T]; exact rfl) ?_
        refine AL_nil ?_
        refine thenA_n ?_
        refine awp_ret ?_
        refine thenA_ret ?_
        cases h
        refine retQ_ret (by simp only [Try.results92]; simp only [go_sem, reduceIte, Nat.reduceAdd, Nat.reduceSub, Nat.reduceMul, Nat.reduceEqDiff, Nat.reduceLT, Nat.reduceLeDiff, Nat.reduceBEq, Int.reduceToNat, Int.reduceLT, Int.reduceLE, Int.reduceGT, Int.reduceGE, Int.reduceEq, Int.reduceBEq, Int.reduceBNe, Int.reduceNeg, reduceCtorEq, hb_221F, hb_223F, hb_224T]; exact rfl) ?_
        simp only [go_sem, reduceIte, Nat.reduceAdd, Nat.reduceSub, Nat.reduceMul, Nat.reduceEqDiff, Nat.reduceLT, Nat.reduceLeDiff, Nat.reduceBEq, Int.reduceToNat, Int.reduceLT, Int.reduceLE, Int.reduceGT, Int.reduceGE, Int.reduceEq, Int.reduceBEq, Int.reduceBNe, Int.reduceNeg, reduceCtorEq, hb_221F, hb_223F, hb_224T]
        all_goals ((repeat' refine And.intro ?_ ?_) <;> first | rfl | (simp; done) | (simp; rfl) | (simp [*]; done) | (simp [*]; rfl))
      · rw [if_neg hb_224] at h
        have hb_224T := eq_false hb_224
        refine awp_cf (by simp only [go_sem, reduceIte, Nat.reduceAdd, Nat.reduceSub, Nat.reduceMul, Nat.reduceEqDiff, Nat.reduceLT, Nat.reduceLeDiff, Nat.reduceBEq, Int.reduceToNat, Int.reduceLT, Int.reduceLE, Int.reduceGT, Int.reduceGE, Int.reduceEq, Int.reduceBEq, Int.reduceBNe, Int.reduceNeg, reduceCtorEq, hb_221F, hb_223F, hb_224T]) ?_
        refine awp_skip ?_
        refine thenA_n ?_
        refine awp_seq ?_
        refine awp_seq ?_
        refine awp_region ?_
        refine AL_upto (by exact rfl) (by simp only [go_sem, reduceIte, Nat.reduceAdd, Nat.reduceSub, Nat.reduceMul, Nat.reduceEqDiff, Nat.reduceLT, Nat.reduceLeDiff, Nat.reduceBEq, Int.reduceToNat, Int.reduceLT, Int.reduceLE, Int.reduceGT, Int.reduceGE, Int.reduceEq, Int.reduceBEq, Int.reduceBNe, Int.reduceNeg, reduceCtorEq, hb_221F, hb_223F, hb_224T]; exact rfl) ?_
        refine AL_nil ?_
        refine thenA_n ?_
        by_cases hb_225 : x_211 > y_212
        · rw [if_pos hb_225] at h
          have hb_225T := eq_true hb_225
          refine awp_ct (by simp only [go_sem, reduceIte, Nat.reduceAdd, Nat.reduceSub, Nat.reduceMul, Nat.reduceEqDiff, Nat.reduceLT, Nat.reduceLeDiff, Nat.reduceBEq, Int.reduceToNat, Int.reduceLT, Int.reduceLE, Int.reduceGT, Int.reduceGE, Int.reduceEq, Int.reduceBEq, Int.reduceBNe, Int.reduceNeg, reduceCtorEq, hb_221F, hb_223F, hb_224T, hb_225T]) ?_
          refine awp_seq ?_
          refine awp_region ?_
          refine AL_upto (by exact rfl) (by simp only [go_sem, reduceIte, Nat.reduceAdd, Nat.reduceSub, Nat.reduceMul, Nat.reduceEqDiff, Nat.reduceLT, Nat.reduceLeDiff, Nat.reduceBEq, Int.reduceToNat, Int.reduceLT, Int.reduceLE, Int.reduceGT, Int.reduceGE, Int.reduceEq, Int.reduceBEq, Int.reduceBNe, Int.reduceNeg, reduceCtorEq, hb_221F, hb_223F, hb_224T, hb_225T]; exact rfl) ?_
          refine AL_nil ?_
          refine thenA_n ?_
          refine awp_ret ?_
          refine thenA_ret ?_
          cases h
          refine retQ_ret (by simp only [Try.results92]; simp only [go_sem, reduceIte, Nat.reduceAdd, Nat.reduceSub, Nat.reduceMul, Nat.reduceEqDiff, Nat.reduceLT, Nat.reduceLeDiff, Nat.reduceBEq, Int.reduceToNat, Int.reduceLT, Int.reduceLE, Int.reduceGT, Int.reduceGE, Int.reduceEq, Int.reduceBEq, Int.reduceBNe, Int.reduceNeg, reduceCtorEq, hb_221F, hb_223F, hb_224T, hb_225T]; exact rfl) ?_
          simp only [go_sem, reduceIte, Nat.reduceAdd, Nat.reduceSub, Nat.reduceMul, Nat.reduceEqDiff, Nat.reduceLT, Nat.reduceLeDiff, Nat.reduceBEq, Int.reduceToNat, Int.reduceLT, Int.reduceLE, Int.reduceGT, Int.reduceGE, Int.reduceEq, Int.reduceBEq, Int.reduceBNe, Int.reduceNeg, reduceCtorEq, hb_221F, hb_223F, hb_224T, hb_225T]
          all_goals ((repeat' refine And.intro ?_ ?_) <;> first | rfl | (simp; done) | (simp; rfl) | (simp [*]; done) | (simp [*]; rfl))
        · rw [if_neg hb_225] at h
          have hb_225T := eq_false hb_225
          refine awp_cf (by simp only [go_sem, reduceIte, Nat.reduceAdd, Nat.reduceSub, Nat.reduceMul, Nat.reduceEqDiff, Nat.reduceLT, Nat.reduceLeDiff, Nat.reduceBEq, Int.reduceToNat, Int.reduceLT, Int.reduceLE, Int.reduceGT, Int.reduceGE, Int.reduceEq, Int.reduceBEq, Int.reduceBNe, Int.reduceNeg, reduceCtorEq, hb_221F, hb_223F, hb_224T, hb_225T]) ?_
          refine awp_skip ?_
          refine thenA_n ?_
          refine awp_seq ?_
          refine awp_region ?_
          refine AL_upto (by exact rfl) (by simp only [go_sem, reduceIte, Nat.reduceAdd, Nat.reduceSub, Nat.reduceMul, Nat.reduceEqDiff, Nat.reduceLT, Nat.reduceLeDiff, Nat.reduceBEq, Int.reduceToNat, Int.reduceLT, Int.reduceLE, Int.reduceGT, Int.reduceGE, Int.reduceEq, Int.reduceBEq, Int.reduceBNe, Int.reduceNeg, reduceCtorEq, hb_221F, hb_223F, hb_224T, hb_225T]; exact rfl) ?_
          refine AL_nil ?_
          refine thenA_n ?_
          refine awp_ret ?_
          cases h
          refine retQ_ret (by simp only [Try.results92]; simp only [go_sem, reduceIte, Nat.reduceAdd, Nat.reduceSub, Nat.reduceMul, Nat.reduceEqDiff, Nat.reduceLT, Nat.reduceLeDiff, Nat.reduceBEq, Int.reduceToNat, Int.reduceLT, Int.reduceLE, Int.reduceGT, Int.reduceGE, Int.reduceEq, Int.reduceBEq, Int.reduceBNe, Int.reduceNeg, reduceCtorEq, hb_221F, hb_223F, hb_224T, hb_225T]; exact rfl) ?_
          simp only [go_sem, reduceIte, Nat.reduceAdd, Nat.reduceSub, Nat.reduceMul, Nat.reduceEqDiff, Nat.reduceLT, Nat.reduceLeDiff, Nat.reduceBEq, Int.reduceToNat, Int.reduceLT, Int.reduceLE, Int.reduceGT, Int.reduceGE, Int.reduceEq, Int.reduceBEq, Int.reduceBNe, Int.reduceNeg, reduceCtorEq, hb_221F, hb_223F, hb_224T, hb_225T]
          all_goals ((repeat' refine And.intro ?_ ?_) <;> first | rfl | (simp; done) | (simp; rfl) | (simp [*]; done) | (simp [*]; rfl))
end Go.Proofs.Ytdmddoljldjjeaa
namespace Go.Proofs.Ytdmddoljldjjeaa
open Go Go.Ab
theorem ext97 (a b : List UInt8) (w : World) : (callFunc 97 #[.string ⟨a.toArray⟩, .string ⟨b.toArray⟩]).run Try.prog w = .ok (.value (.int .i64 (Lib.compareBytes a b))) w := by
  rw [run_callFunc_extern Try.func97 (by kernel_rfl) (by kernel_rfl) (by kernel_rfl) (e := Extern.BytealgCompare.compare) (by kernel_rfl), Lib.run_compareString]
  rfl
end Go.Proofs.Ytdmddoljldjjeaa
set_option linter.unusedVariables false
set_option linter.unusedSimpArgs false
namespace Go.Proofs.Ytdmddoljldjjeaa
open Go Go.Ab
set_option maxHeartbeats 4000000 in
theorem bytealg_CompareString_con (a_227 : List UInt8) (b_228 : List UInt8) (r_231 : Int) (h : bytealg_CompareString a_227 b_228 = some r_231) : Con Try.prog 96 [(.str a_227), (.str b_228)] (.int .i64 r_231) := by
  refine ⟨Try.call96, ?_⟩
  refine pure_of_awp Try.func96 rfl Try.ntmps96 (by simp) fun X w => ?_
  show AWp _ _ _ ⟨[(0, .p (.str a_227)), (1, .p (.str b_228))], []⟩
  simp only [bytealg_CompareString] at h
  refine awp_seq ?_
  refine awp_region ?_
  refine AL_upto (by exact rfl) (by simp only [go_sem, reduceIte, Nat.reduceAdd, Nat.reduceSub, Nat.reduceMul, Nat.reduceEqDiff, Nat.reduceLT, Nat.reduceLeDiff, Nat.reduceBEq, Int.reduceToNat, Int.reduceLT, Int.reduceLE, Int.reduceGT, Int.reduceGE, Int.reduceEq, Int.reduceBEq, Int.reduceBNe, Int.reduceNeg, reduceCtorEq]; exact rfl) ?_
  refine AL_nil ?_
  refine thenA_n ?_
  refine awp_seq ?_
  refine awp_region ?_
  refine AL_upto (by exact rfl) (by simp only [go_sem, reduceIte, Nat.reduceAdd, Nat.reduceSub, Nat.reduceMul, Nat.reduceEqDiff, Nat.reduceLT, Nat.reduceLeDiff, Nat.reduceBEq, Int.reduceToNat, Int.reduceLT, Int.reduceLE, Int.reduceGT, Int.reduceGE, Int.reduceEq, Int.reduceBEq, Int.reduceBNe, Int.reduceNeg, reduceCtorEq]; exact rfl) ?_
  refine AL_ext2 (ext97 a_227 b_228) (by simp only [go_sem, reduceIte, Nat.reduceAdd, Nat.reduceSub, Nat.reduceMul, Nat.reduceEqDiff, Nat.reduceLT, Nat.reduceLeDiff, Nat.reduceBEq, Int.reduceToNat, Int.reduceLT, Int.reduceLE, Int.reduceGT, Int.reduceGE, Int.reduceEq, Int.reduceBEq, Int.reduceBNe, Int.reduceNeg, reduceCtorEq]; all_goals ((repeat' refine And.intro ?_ ?_) <;> first | rfl | (simp; done) | (simp; rfl) | (simp [*]; done) | (simp [*]; rfl))) (by simp only [go_sem, reduceIte, Nat.reduceAdd, Nat.reduceSub, Nat.reduceMul, Nat.reduceEqDiff, Nat.reduceLT, Nat.reduceLeDiff, Nat.reduceBEq, Int.reduceToNat, Int.reduceLT, Int.reduceLE, Int.reduceGT, Int.reduceGE, Int.reduceEq, Int.reduceBEq, Int.reduceBNe, Int.reduceNeg, reduceCtorEq]; all_goals ((repeat' refine And.intro ?_ ?_) <;> first | rfl | (simp; done) | (simp; rfl) | (simp [*]; done) | (simp [*]; rfl))) rfl ?_
  refine AL_upto (by exact rfl) (by simp only [go_sem, reduceIte, Nat.reduceAdd, Nat.reduceSub, Nat.reduceMul, Nat.reduceEqDiff, Nat.reduceLT, Nat.reduceLeDiff, Nat.reduceBEq, Int.reduceToNat, Int.reduceLT, Int.reduceLE, Int.reduceGT, Int.reduceGE, Int.reduceEq, Int.reduceBEq, Int.reduceBNe, Int.reduceNeg, reduceCtorEq]; exact rfl) ?_
  refine AL_nil ?_
  refine thenA_n ?_
  refine awp_ret ?_
  cases h
  refine retQ_ret (by simp only [Try.results96]; simp only [go_sem, reduceIte, Nat.reduceAdd, Nat.reduceSub, Nat.reduceMul, Nat.reduceEqDiff, Nat.reduceLT, Nat.reduceLeDiff, Nat.reduceBEq, Int.reduceToNat, Int.reduceLT, Int.reduceLE, Int.reduceGT, Int.reduceGE, Int.reduceEq, Int.reduceBEq, Int.reduceBNe, Int.reduceNeg, reduceCtorEq]; exact rfl) ?_
  simp only [go_sem, reduceIte, Nat.reduceAdd, Nat.reduceSub, Nat.reduceMul, Nat.reduceEqDiff, Nat.reduceLT, Nat.reduceLeDiff, Nat.reduceBEq, Int.reduceToNat, Int.reduceLT, Int.reduceLE, Int.reduceGT, Int.reduceGE, Int.reduceEq, Int.reduceBEq, Int.reduceBNe, Int.reduceNeg, reduceCtorEq]
  all_goals ((repeat' refine And.intro ?_ ?_) <;> first | rfl | (simp; done) | (simp; rfl) | (simp [*]; done) | (simp [*]; rfl))
end Go.Proofs.Ytdmddoljldjjeaa
set_option linter.unusedVariables false
set_option linter.unusedSimpArgs false
namespace Go.Proofs.Ytdmddoljldjjeaa
open Go Go.Ab
set_option maxHeartbeats 4000000 in
theorem strings_Compare_con (a_232 : List UInt8) (b_233 : List UInt8) (r_236 : Int) (h : strings_Compare a_232 b_233 = some r_236) : Con Try.prog 93 [(.str a_232), (.str b_233)] (.int .i64 r_236) := by
  refine ⟨Try.call93, ?_⟩
  refine pure_of_awp Try.func93 rfl Try.ntmps93 (by simp) fun X w => ?_
  show AWp _ _ _ ⟨[(0, .p (.str a_232)), (1, .p (.str b_233))], []⟩
  simp only [strings_Compare] at h
  refine awp_seq ?_
  refine awp_region ?_
  refine AL_upto (by exact rfl) (by simp only [go_sem, reduceIte, Nat.reduceAdd, Nat.reduceSub, Nat.reduceMul, Nat.reduceEqDiff, Nat.reduceLT, Nat.reduceLeDiff, Nat.reduceBEq, Int.reduceToNat, Int.reduceLT, Int.reduceLE, Int.reduceGT, Int.reduceGE, Int.reduceEq, Int.reduceBEq, Int.reduceBNe, Int.reduceNeg, reduceCtorEq]; exact rfl) ?_
  refine AL_nil ?_
  refine thenA_n ?_
  refine awp_seq ?_
  refine awp_region ?_
  refine AL_upto (by exact rfl) (by simp only [go_sem, reduceIte, Nat.reduceAdd, Nat.reduceSub, Nat.reduceMul, Nat.reduceEqDiff, Nat.reduceLT, Nat.reduceLeDiff, Nat.reduceBEq, Int.reduceToNat, Int.reduceLT, Int.reduceLE, Int.reduceGT, Int.reduceGE, Int.reduceEq, Int.reduceBEq, Int.reduceBNe, Int.reduceNeg, reduceCtorEq]; exact rfl) ?_
  obtain ⟨r_234, hr_235, h⟩ := Option.bind_eq_some_iff.1 h
  refine AL_con' rfl (guard_none rfl) rfl (by simp only [go_sem, reduceIte, Nat.reduceAdd, Nat.reduceSub, Nat.reduceMul, Nat.reduceEqDiff, Nat.reduceLT, Nat.reduceLeDiff, Nat.reduceBEq, Int.reduceToNat, Int.reduceLT, Int.reduceLE, Int.reduceGT, Int.reduceGE, Int.reduceEq, Int.reduceBEq, Int.reduceBNe, Int.reduceNeg, reduceCtorEq]; exact rfl) (by simp only [go_sem, reduceIte, Nat.reduceAdd, Nat.reduceSub, Nat.reduceMul, Nat.reduceEqDiff, Nat.reduceLT, Nat.reduceLeDiff, Nat.reduceBEq, Int.reduceToNat, Int.reduceLT, Int.reduceLE, Int.reduceGT, Int.reduceGE, Int.reduceEq, Int.reduceBEq, Int.reduceBNe, Int.reduceNeg, reduceCtorEq]; all_goals ((repeat' refine And.intro ?_ ?_) <;> first | rfl | (simp; done) | (simp; rfl) | (simp [*]; done) | (simp [*]; rfl))) (bytealg_CompareString_con a_232 b_233 _ hr_235) (.inr rfl) rfl ?_
  refine AL_upto (by exact rfl) (by simp only [go_sem, reduceIte, Nat.reduceAdd, Nat.reduceSub, Nat.reduceMul, Nat.reduceEqDiff, Nat.reduceLT, Nat.reduceLeDiff, Nat.reduceBEq, Int.reduceToNat, Int.reduceLT, Int.reduceLE, Int.reduceGT, Int.reduceGE, Int.reduceEq, Int.reduceBEq, Int.reduceBNe, Int.reduceNeg, reduceCtorEq]; exact rfl) ?_
  refine AL_nil ?_
  refine thenA_n ?_
  refine awp_ret ?_
  cases h
  refine retQ_ret (by simp only [Try.results93]; simp only [go_sem, reduceIte, Nat.reduceAdd, Nat.reduceSub, Nat.reduceMul, Nat.reduceEqDiff, Nat.reduceLT, Nat.reduceLeDiff, Nat.reduceBEq, Int.reduceToNat, Int.reduceLT, Int.reduceLE, Int.reduceGT, Int.reduceGE, Int.reduceEq, Int.reduceBEq, Int.reduceBNe, Int.reduceNeg, reduceCtorEq]; exact rfl) ?_
  simp only [go_sem, reduceIte, Nat.reduceAdd, Nat.reduceSub, Nat.reduceMul, Nat.reduceEqDiff, Nat.reduceLT, Nat.reduceLeDiff, Nat.reduceBEq, Int.reduceToNat, Int.reduceLT, Int.reduceLE, Int.reduceGT, Int.reduceGE, Int.reduceEq, Int.reduceBEq, Int.reduceBNe, Int.reduceNeg, reduceCtorEq]
  all_goals ((repeat' refine And.intro ?_ ?_) <;> first | rfl | (simp; done) | (simp; rfl) | (simp [*]; done) | (simp [*]; rfl))
end Go.Proofs.Ytdmddoljldjjeaa
set_option linter.unusedVariables false
set_option linter.unusedSimpArgs false
namespace Go.Proofs.Ytdmddoljldjjeaa
open Go Go.Ab
set_option maxHeartbeats 4000000 in
theorem value_Compare_con (a_237 : Value) (b_238 : Value) (r_247 : Int) (h : value_Compare a_237 b_238 = some r_247) : Con Try.prog 77 [(encValue a_237), (encValue b_238)] (.int .i64 r_247) := by
  refine ⟨Try.call77, ?_⟩
  refine pure_of_awp Try.func77 rfl Try.ntmps77 (by simp) fun X w => ?_
  show AWp _ _ _ ⟨[(0, .p (encValue a_237)), (1, .p (encValue b_238))], []⟩
  simp only [value_Compare] at h
  refine awp_seq ?_
  refine awp_region ?_
  refine AL_upto (by exact rfl) (by simp only [go_sem, reduceIte, Nat.reduceAdd, Nat.reduceSub, Nat.reduceMul, Nat.reduceEqDiff, Nat.reduceLT, Nat.reduceLeDiff, Nat.reduceBEq, Int.reduceToNat, Int.reduceLT, Int.reduceLE, Int.reduceGT, Int.reduceGE, Int.reduceEq, Int.reduceBEq, Int.reduceBNe, Int.reduceNeg, reduceCtorEq]; exact rfl) ?_
  refine AL_nil ?_
  refine thenA_n ?_
  refine awp_seq ?_
  refine awp_drawn_walk mixed (by decide) ?_
  refine DGo.upto (by exact rfl) (by simp only [go_sem, reduceIte, Nat.reduceAdd, Nat.reduceSub, Nat.reduceMul, Nat.reduceEqDiff, Nat.reduceLT, Nat.reduceLeDiff, Nat.reduceBEq, Int.reduceToNat, Int.reduceLT, Int.reduceLE, Int.reduceGT, Int.reduceGE, Int.reduceEq, Int.reduceBEq, Int.reduceBNe, Int.reduceNeg, reduceCtorEq]; exact ⟨rfl, rfl⟩) ?_
  obtain ⟨r_239, hr_240, h⟩ := Option.bind_eq_some_iff.1 h
  refine DGo.con' rfl (guard_none rfl) rfl (by simp only [go_sem, reduceIte, Nat.reduceAdd, Nat.reduceSub, Nat.reduceMul, Nat.reduceEqDiff, Nat.reduceLT, Nat.reduceLeDiff, Nat.reduceBEq, Int.reduceToNat, Int.reduceLT, Int.reduceLE, Int.reduceGT, Int.reduceGE, Int.reduceEq, Int.reduceBEq, Int.reduceBNe, Int.reduceNeg, reduceCtorEq]; exact rfl) (by simp only [go_sem, reduceIte, Nat.reduceAdd, Nat.reduceSub, Nat.reduceMul, Nat.reduceEqDiff, Nat.reduceLT, Nat.reduceLeDiff, Nat.reduceBEq, Int.reduceToNat, Int.reduceLT, Int.reduceLE, Int.reduceGT, Int.reduceGE, Int.reduceEq, Int.reduceBEq, Int.reduceBNe, Int.reduceNeg, reduceCtorEq]; all_goals ((repeat' refine And.intro ?_ ?_) <;> first | rfl | (simp; done) | (simp; rfl) | (simp [*]; done) | (simp [*]; rfl))) (by simp only [go_sem, reduceIte, Nat.reduceAdd, Nat.reduceSub, Nat.reduceMul, Nat.reduceEqDiff, Nat.reduceLT, Nat.reduceLeDiff, Nat.reduceBEq, Int.reduceToNat, Int.reduceLT, Int.reduceLE, Int.reduceGT, Int.reduceGE, Int.reduceEq, Int.reduceBEq, Int.reduceBNe, Int.reduceNeg, reduceCtorEq]; exact rfl) (cmp_Compare_int_con a_237.Kind b_238.Kind _ hr_240) (.inr rfl) rfl ?_
  refine DGo.upto (by exact rfl) (by simp only [go_sem, reduceIte, Nat.reduceAdd, Nat.reduceSub, Nat.reduceMul, Nat.reduceEqDiff, Nat.reduceLT, Nat.reduceLeDiff, Nat.reduceBEq, Int.reduceToNat, Int.reduceLT, Int.reduceLE, Int.reduceGT, Int.reduceGE, Int.reduceEq, Int.reduceBEq, Int.reduceBNe, Int.reduceNeg, reduceCtorEq]; exact ⟨rfl, rfl⟩) ?_
  obtain ⟨r_241, hr_242, h⟩ := Option.bind_eq_some_iff.1 h
  refine DGo.con' rfl (guard_none rfl) rfl (by simp only [go_sem, reduceIte, Nat.reduceAdd, Nat.reduceSub, Nat.reduceMul, Nat.reduceEqDiff, Nat.reduceLT, Nat.reduceLeDiff, Nat.reduceBEq, Int.reduceToNat, Int.reduceLT, Int.reduceLE, Int.reduceGT, Int.reduceGE, Int.reduceEq, Int.reduceBEq, Int.reduceBNe, Int.reduceNeg, reduceCtorEq]; exact rfl) (by simp only [go_sem, reduceIte, Nat.reduceAdd, Nat.reduceSub, Nat.reduceMul, Nat.reduceEqDiff, Nat.reduceLT, Nat.reduceLeDiff, Nat.reduceBEq, Int.reduceToNat, Int.reduceLT, Int.reduceLE, Int.reduceGT, Int.reduceGE, Int.reduceEq, Int.reduceBEq, Int.reduceBNe, Int.reduceNeg, reduceCtorEq]; all_goals ((repeat' refine And.intro ?_ ?_) <;> first | rfl | (simp; done) | (simp; rfl) | (simp [*]; done) | (simp [*]; rfl))) (by simp only [go_sem, reduceIte, Nat.reduceAdd, Nat.reduceSub, Nat.reduceMul, Nat.reduceEqDiff, Nat.reduceLT, Nat.reduceLeDiff, Nat.reduceBEq, Int.reduceToNat, Int.reduceLT, Int.reduceLE, Int.reduceGT, Int.reduceGE, Int.reduceEq, Int.reduceBEq, Int.reduceBNe, Int.reduceNeg, reduceCtorEq]; exact rfl) (cmp_Compare_int64_con a_237.Num b_238.Num _ hr_242) (.inr rfl) rfl ?_
  refine DGo.upto (by exact rfl) (by simp only [go_sem, reduceIte, Nat.reduceAdd, Nat.reduceSub, Nat.reduceMul, Nat.reduceEqDiff, Nat.reduceLT, Nat.reduceLeDiff, Nat.reduceBEq, Int.reduceToNat, Int.reduceLT, Int.reduceLE, Int.reduceGT, Int.reduceGE, Int.reduceEq, Int.reduceBEq, Int.reduceBNe, Int.reduceNeg, reduceCtorEq]; exact ⟨rfl, rfl⟩) ?_
  obtain ⟨r_243, hr_244, h⟩ := Option.bind_eq_some_iff.1 h
  refine DGo.con' rfl (guard_none rfl) rfl (by simp only [go_sem, reduceIte, Nat.reduceAdd, Nat.reduceSub, Nat.reduceMul, Nat.reduceEqDiff, Nat.reduceLT, Nat.reduceLeDiff, Nat.reduceBEq, Int.reduceToNat, Int.reduceLT, Int.reduceLE, Int.reduceGT, Int.reduceGE, Int.reduceEq, Int.reduceBEq, Int.reduceBNe, Int.reduceNeg, reduceCtorEq]; exact rfl) (by simp only [go_sem, reduceIte, Nat.reduceAdd, Nat.reduceSub, Nat.reduceMul, Nat.reduceEqDiff, Nat.reduceLT, Nat.reduceLeDiff, Nat.reduceBEq, Int.reduceToNat, Int.reduceLT, Int.reduceLE, Int.reduceGT, Int.reduceGE, Int.reduceEq, Int.reduceBEq, Int.reduceBNe, Int.reduceNeg, reduceCtorEq]; all_goals ((repeat' refine And.intro ?_ ?_) <;> first | rfl | (simp; done) | (simp; rfl) | (simp [*]; done) | (simp [*]; rfl))) (by simp only [go_sem, reduceIte, Nat.reduceAdd, Nat.reduceSub, Nat.reduceMul, Nat.reduceEqDiff, Nat.reduceLT, Nat.reduceLeDiff, Nat.reduceBEq, Int.reduceToNat, Int.reduceLT, Int.reduceLE, Int.reduceGT, Int.reduceGE, Int.reduceEq, Int.reduceBEq, Int.reduceBNe, Int.reduceNeg, reduceCtorEq]; exact rfl) (strings_Compare_con a_237.Str b_238.Str _ hr_244) (.inr rfl) rfl ?_
  refine DGo.upto (by exact rfl) (by simp only [go_sem, reduceIte, Nat.reduceAdd, Nat.reduceSub, Nat.reduceMul, Nat.reduceEqDiff, Nat.reduceLT, Nat.reduceLeDiff, Nat.reduceBEq, Int.reduceToNat, Int.reduceLT, Int.reduceLE, Int.reduceGT, Int.reduceGE, Int.reduceEq, Int.reduceBEq, Int.reduceBNe, Int.reduceNeg, reduceCtorEq]; exact ⟨rfl, rfl⟩) ?_
  obtain ⟨r_245, hr_246, h⟩ := Option.bind_eq_some_iff.1 h
  refine DGo.con' rfl (guard_none rfl) rfl (by simp only [go_sem, reduceIte, Nat.reduceAdd, Nat.reduceSub, Nat.reduceMul, Nat.reduceEqDiff, Nat.reduceLT, Nat.reduceLeDiff, Nat.reduceBEq, Int.reduceToNat, Int.reduceLT, Int.reduceLE, Int.reduceGT, Int.reduceGE, Int.reduceEq, Int.reduceBEq, Int.reduceBNe, Int.reduceNeg, reduceCtorEq]; exact rfl) (by simp only [go_sem, reduceIte, Nat.reduceAdd, Nat.reduceSub, Nat.reduceMul, Nat.reduceEqDiff, Nat.reduceLT, Nat.reduceLeDiff, Nat.reduceBEq, Int.reduceToNat, Int.reduceLT, Int.reduceLE, Int.reduceGT, Int.reduceGE, Int.reduceEq, Int.reduceBEq, Int.reduceBNe, Int.reduceNeg, reduceCtorEq]; all_goals ((repeat' refine And.intro ?_ ?_) <;> first | rfl | (simp; done) | (simp; rfl) | (simp [*]; done) | (simp [*]; rfl))) (by simp only [go_sem, reduceIte, Nat.reduceAdd, Nat.reduceSub, Nat.reduceMul, Nat.reduceEqDiff, Nat.reduceLT, Nat.reduceLeDiff, Nat.reduceBEq, Int.reduceToNat, Int.reduceLT, Int.reduceLE, Int.reduceGT, Int.reduceGE, Int.reduceEq, Int.reduceBEq, Int.reduceBNe, Int.reduceNeg, reduceCtorEq]; exact rfl) (cmp_Or_int_con [r_239, r_241, r_243] _ hr_246) (.inr rfl) rfl ?_
  refine DGo.upto (by exact rfl) (by simp only [go_sem, reduceIte, Nat.reduceAdd, Nat.reduceSub, Nat.reduceMul, Nat.reduceEqDiff, Nat.reduceLT, Nat.reduceLeDiff, Nat.reduceBEq, Int.reduceToNat, Int.reduceLT, Int.reduceLE, Int.reduceGT, Int.reduceGE, Int.reduceEq, Int.reduceBEq, Int.reduceBNe, Int.reduceNeg, reduceCtorEq]; exact ⟨rfl, rfl⟩) ?_
  refine DGo.fin rfl ?_
  refine thenA_n ?_
  refine awp_ret ?_
  cases h
  refine retQ_ret (by simp only [Try.results77]; simp only [go_sem, reduceIte, Nat.reduceAdd, Nat.reduceSub, Nat.reduceMul, Nat.reduceEqDiff, Nat.reduceLT, Nat.reduceLeDiff, Nat.reduceBEq, Int.reduceToNat, Int.reduceLT, Int.reduceLE, Int.reduceGT, Int.reduceGE, Int.reduceEq, Int.reduceBEq, Int.reduceBNe, Int.reduceNeg, reduceCtorEq]; exact rfl) ?_
  simp only [go_sem, reduceIte, Nat.reduceAdd, Nat.reduceSub, Nat.reduceMul, Nat.reduceEqDiff, Nat.reduceLT, Nat.reduceLeDiff, Nat.reduceBEq, Int.reduceToNat, Int.reduceLT, Int.reduceLE, Int.reduceGT, Int.reduceGE, Int.reduceEq, Int.reduceBEq, Int.reduceBNe, Int.reduceNeg, reduceCtorEq]
  all_goals ((repeat' refine And.intro ?_ ?_) <;> first | rfl | (simp; done) | (simp; rfl) | (simp [*]; done) | (simp [*]; rfl))
end Go.Proofs.Ytdmddoljldjjeaa
set_option linter.unusedVariables false
set_option linter.unusedSimpArgs false
namespace Go.Proofs.Ytdmddoljldjjeaa
open Go Go.Ab
set_option maxHeartbeats 4000000 in
theorem survivor_better_con (l_248 : List Value) (v_249 : Value) (best_250 : Value) (rule_251 : Int) (r_266 : Bool) (h : survivor_better l_248 v_249 best_250 rule_251 = some r_266) : Con Try.prog 51 [(.slc (List.map encValue l_248)), (encValue v_249), (encValue best_250), (.int .i64 rule_251)] (.bool r_266) := by
  refine ⟨Try.call51, ?_⟩
  refine pure_of_awp Try.func51 rfl Try.ntmps51 (by simp) fun X w => ?_
  show AWp _ _ _ ⟨[(0, .p (.slc (List.map encValue l_248))), (1, .p (encValue v_249)), (2, .p (encValue best_250)), (3, .p (.int .i64 rule_251))], []⟩
  simp only [survivor_better] at h
  refine awp_seq ?_
  refine awp_region ?_
  refine AL_upto (by exact rfl) (by simp only [go_sem, reduceIte, Nat.reduceAdd, Nat.reduceSub, Nat.reduceMul, Nat.reduceEqDiff, Nat.reduceLT, Nat.reduceLeDiff, Nat.reduceBEq, Int.reduceToNat, Int.reduceLT, Int.reduceLE, Int.reduceGT, Int.reduceGE, Int.reduceEq, Int.reduceBEq, Int.reduceBNe, Int.reduceNeg, reduceCtorEq]; exact rfl) ?_
  refine AL_nil ?_
  refine thenA_n ?_
  refine awp_seq ?_
  refine awp_seq ?_
  refine awp_region ?_
  refine AL_upto (by exact rfl) (by simp only [go_sem, reduceIte, Nat.reduceAdd, Nat.reduceSub, Nat.reduceMul, Nat.reduceEqDiff, Nat.reduceLT, Nat.reduceLeDiff, Nat.reduceBEq, Int.reduceToNat, Int.reduceLT, Int.reduceLE, Int.reduceGT, Int.reduceGE, Int.reduceEq, Int.reduceBEq, Int.reduceBNe, Int.reduceNeg, reduceCtorEq]; exact rfl) ?_
  refine AL_nil ?_
  refine thenA_n ?_
  refine awp_block ?_
  refine awp_seq ?_
  refine awp_region ?_
  refine AL_upto (by exact rfl) (by simp only [go_sem, reduceIte, Nat.reduceAdd, Nat.reduceSub, Nat.reduceMul, Nat.reduceEqDiff, Nat.reduceLT, Nat.reduceLeDiff, Nat.reduceBEq, Int.reduceToNat, Int.reduceLT, Int.reduceLE, Int.reduceGT, Int.reduceGE, Int.reduceEq, Int.reduceBEq, Int.reduceBNe, Int.reduceNeg, reduceCtorEq]; exact rfl) ?_
  refine AL_nil ?_
  refine thenA_n ?_
  by_cases hb_252 : (rule_251 == 2) = true
  · rw [if_pos hb_252] at h
    refine awp_ct (by simp only [go_sem, reduceIte, Nat.reduceAdd, Nat.reduceSub, Nat.reduceMul, Nat.reduceEqDiff, Nat.reduceLT, Nat.reduceLeDiff, Nat.reduceBEq, Int.reduceToNat, Int.reduceLT, Int.reduceLE, Int.reduceGT, Int.reduceGE, Int.reduceEq, Int.reduceBEq, Int.reduceBNe, Int.reduceNeg, reduceCtorEq, hb_252]) ?_
    refine awp_seq ?_
    refine awp_drawn_walk mixed (by decide) ?_
    refine DGo.upto (by exact rfl) (by simp only [go_sem, reduceIte, Nat.reduceAdd, Nat.reduceSub, Nat.reduceMul, Nat.reduceEqDiff, Nat.reduceLT, Nat.reduceLeDiff, Nat.reduceBEq, Int.reduceToNat, Int.reduceLT, Int.reduceLE, Int.reduceGT, Int.reduceGE, Int.reduceEq, Int.reduceBEq, Int.reduceBNe, Int.reduceNeg, reduceCtorEq, hb_252]; exact ⟨rfl, rfl⟩) ?_
    obtain ⟨r_253, hr_254, h⟩ := Option.bind_eq_some_iff.1 h
    refine DGo.con' rfl (guard_none rfl) rfl (by simp only [go_sem, reduceIte, Nat.reduceAdd, Nat.reduceSub, Nat.reduceMul, Nat.reduceEqDiff, Nat.reduceLT, Nat.reduceLeDiff, Nat.reduceBEq, Int.reduceToNat, Int.reduceLT, Int.reduceLE, Int.reduceGT, Int.reduceGE, Int.reduceEq, Int.reduceBEq, Int.reduceBNe, Int.reduceNeg, reduceCtorEq, hb_252]; exact rfl) (by simp only [go_sem, reduceIte, Nat.reduceAdd, Nat.reduceSub, Nat.reduceMul, Nat.reduceEqDiff, Nat.reduceLT, Nat.reduceLeDiff, Nat.reduceBEq, Int.reduceToNat, Int.reduceLT, Int.reduceLE, Int.reduceGT, Int.reduceGE, Int.reduceEq, Int.reduceBEq, Int.reduceBNe, Int.reduceNeg, reduceCtorEq, hb_252]; all_goals ((repeat' refine And.intro ?_ ?_) <;> first | rfl | (simp; done) | (simp; rfl) | (simp [*]; done) | (simp [*]; rfl))) (by simp only [go_sem, reduceIte, Nat.reduceAdd, Nat.reduceSub, Nat.reduceMul, Nat.reduceEqDiff, Nat.reduceLT, Nat.reduceLeDiff, Nat.reduceBEq, Int.reduceToNat, Int.reduceLT, Int.reduceLE, Int.reduceGT, Int.reduceGE, Int.reduceEq, Int.reduceBEq, Int.reduceBNe, Int.reduceNeg, reduceCtorEq, hb_252]; exact rfl) (survivor_count_con l_248 v_249 _ hr_254) (.inr rfl) rfl ?_
    refine DGo.upto (by exact rfl) (by simp only [go_sem, reduceIte, Nat.reduceAdd, Nat.reduceSub, Nat.reduceMul, Nat.reduceEqDiff, Nat.reduceLT, Nat.reduceLeDiff, Nat.reduceBEq, Int.reduceToNat, Int.reduceLT, Int.reduceLE, Int.reduceGT, Int.reduceGE, Int.reduceEq, Int.reduceBEq, Int.reduceBNe, Int.reduceNeg, reduceCtorEq, hb_252]; exact ⟨rfl, rfl⟩) ?_
    obtain ⟨r_255, hr_256, h⟩ := Option.bind_eq_some_iff.1 h
    refine DGo.con' rfl (guard_none rfl) rfl (by simp only [go_sem, reduceIte, Nat.reduceAdd, Nat.reduceSub, Nat.reduceMul, Nat.reduceEqDiff, Nat.reduceLT, Nat.reduceLeDiff, Nat.reduceBEq, Int.reduceToNat, Int.reduceLT, Int.reduceLE, Int.reduceGT, Int.reduceGE, Int.reduceEq, Int.reduceBEq, Int.reduceBNe, Int.reduceNeg, reduceCtorEq, hb_252]; exact rfl) (by simp only [go_sem, reduceIte, Nat.reduceAdd, Nat.reduceSub, Nat.reduceMul, Nat.reduceEqDiff, Nat.reduceLT, Nat.reduceLeDiff, Nat.reduceBEq, Int.reduceToNat, Int.reduceLT, Int.reduceLE, Int.reduceGT, Int.reduceGE, Int.reduceEq, Int.reduceBEq, Int.reduceBNe, Int.reduceNeg, reduceCtorEq, hb_252]; all_goals ((repeat' refine And.intro ?_ ?_) <;> first | rfl | (simp; done) | (simp; rfl) | (simp [*]; done) | (simp [*]; rfl))) (by simp only [go_sem, reduceIte, Nat.reduceAdd, Nat.reduceSub, Nat.reduceMul, Nat.reduceEqDiff, Nat.reduceLT, Nat.reduceLeDiff, Nat.reduceBEq, Int.reduceToNat, Int.reduceLT, Int.reduceLE, Int.reduceGT, Int.reduceGE, Int.reduceEq, Int.reduceBEq, Int.reduceBNe, Int.reduceNeg, reduceCtorEq, hb_252]; exact rfl) (survivor_count_con l_248 best_250 _ hr_256) (.inr rfl) rfl ?_
    refine DGo.upto (by exact rfl) (by simp only [go_sem, reduceIte, Nat.reduceAdd, Nat.reduceSub, Nat.reduceMul, Nat.reduceEqDiff, Nat.reduceLT, Nat.reduceLeDiff, Nat.reduceBEq, Int.reduceToNat, Int.reduceLT, Int.reduceLE, Int.reduceGT, Int.reduceGE, Int.reduceEq, Int.reduceBEq, Int.reduceBNe, Int.reduceNeg, reduceCtorEq, hb_252]; exact ⟨rfl, rfl⟩) ?_
    refine DGo.fin rfl ?_
    refine thenA_n ?_
    refine awp_ret ?_
    refine blockA_ret ?_
    refine thenA_ret ?_
    cases h
    refine retQ_ret (by simp only [Try.results51]; simp only [go_sem, reduceIte, Nat.reduceAdd, Nat.reduceSub, Nat.reduceMul, Nat.reduceEqDiff, Nat.reduceLT, Nat.reduceLeDiff, Nat.reduceBEq, Int.reduceToNat, Int.reduceLT, Int.reduceLE, Int.reduceGT, Int.reduceGE, Int.reduceEq, Int.reduceBEq, Int.reduceBNe, Int.reduceNeg, reduceCtorEq, hb_252]; exact rfl) ?_
    simp only [go_sem, reduceIte, Nat.reduceAdd, Nat.reduceSub, Nat.reduceMul, Nat.reduceEqDiff, Nat.reduceLT, Nat.reduceLeDiff, Nat.reduceBEq, Int.reduceToNat, Int.reduceLT, Int.reduceLE, Int.reduceGT, Int.reduceGE, Int.reduceEq, Int.reduceBEq, Int.reduceBNe, Int.reduceNeg, reduceCtorEq, hb_252]
    all_goals ((repeat' refine And.intro ?_ ?_) <;> first | rfl | (simp; done) | (simp; rfl) | (simp [*]; done) | (simp [*]; rfl))
  · rw [if_neg hb_252] at h
    have hb_252F := Bool.eq_false_iff.2 hb_252
    refine awp_cf (by simp only [go_sem, reduceIte, Nat.reduceAdd, Nat.reduceSub, Nat.reduceMul, Nat.reduceEqDiff, Nat.reduceLT, Nat.reduceLeDiff, Nat.reduceBEq, Int.reduceToNat, Int.reduceLT, Int.reduceLE, Int.reduceGT, Int.reduceGE, Int.reduceEq, Int.reduceBEq, Int.reduceBNe, Int.reduceNeg, reduceCtorEq, hb_252F]) ?_
    refine awp_seq ?_
    refine awp_region ?_
    refine AL_upto (by exact rfl) (by simp only [go_sem, reduceIte, Nat.reduceAdd, Nat.reduceSub, Nat.reduceMul, Nat.reduceEqDiff, Nat.reduceLT, Nat.reduceLeDiff, Nat.reduceBEq, Int.reduceToNat, Int.reduceLT, Int.reduceLE, Int.reduceGT, Int.reduceGE, Int.reduceEq, Int.reduceBEq, Int.reduceBNe, Int.reduceNeg, reduceCtorEq, hb_252F]; exact rfl) ?_
    refine AL_nil ?_
    refine thenA_n ?_
    by_cases hb_257 : (rule_251 == 3) = true
    · rw [if_pos hb_257] at h
      refine awp_ct (by simp only [go_sem, reduceIte, Nat.reduceAdd, Nat.reduceSub, Nat.reduceMul, Nat.reduceEqDiff, Nat.reduceLT, Nat.reduceLeDiff, Nat.reduceBEq, Int.reduceToNat, Int.reduceLT, Int.reduceLE, Int.reduceGT, Int.reduceGE, Int.reduceEq, Int.reduceBEq, Int.reduceBNe, Int.reduceNeg, reduceCtorEq, hb_252F, hb_257]) ?_
      refine awp_seq ?_
      refine awp_region ?_
      refine AL_upto (by exact rfl) (by simp only [go_sem, reduceIte, Nat.reduceAdd, Nat.reduceSub, Nat.reduceMul, Nat.reduceEqDiff, Nat.reduceLT, Nat.reduceLeDiff, Nat.reduceBEq, Int.reduceToNat, Int.reduceLT, Int.reduceLE, Int.reduceGT, Int.reduceGE, Int.reduceEq, Int.reduceBEq, Int.reduceBNe, Int.reduceNeg, reduceCtorEq, hb_252F, hb_257]; exact rfl) ?_
      by_cases hb_258 : (v_249.Kind == 2) = true
      · rw [if_pos hb_258] at h
        refine AL_known (d := 24) (v := .p (.bool true)) (by simp only [go_sem, reduceIte, Nat.reduceAdd, Nat.reduceSub, Nat.reduceMul, Nat.reduceEqDiff, Nat.reduceLT, Nat.reduceLeDiff, Nat.reduceBEq, Int.reduceToNat, Int.reduceLT, Int.reduceLE, Int.reduceGT, Int.reduceGE, Int.reduceEq, Int.reduceBEq, Int.reduceBNe, Int.reduceNeg, reduceCtorEq, hb_252F, hb_257, hb_258]) ?_
        refine AL_gt' (guard_true' rfl rfl (by exact rfl) (by exact rfl)) rfl (by simp only [go_sem, reduceIte, Nat.reduceAdd, Nat.reduceSub, Nat.reduceMul, Nat.reduceEqDiff, Nat.reduceLT, Nat.reduceLeDiff, Nat.reduceBEq, Int.reduceToNat, Int.reduceLT, Int.reduceLE, Int.reduceGT, Int.reduceGE, Int.reduceEq, Int.reduceBEq, Int.reduceBNe, Int.reduceNeg, reduceCtorEq, hb_252F, hb_257, hb_258]; exact rfl) ?_
        refine AL_gt' (guard_true' rfl rfl (by exact rfl) (by exact rfl)) rfl (by simp only [go_sem, reduceIte, Nat.reduceAdd, Nat.reduceSub, Nat.reduceMul, Nat.reduceEqDiff, Nat.reduceLT, Nat.reduceLeDiff, Nat.reduceBEq, Int.reduceToNat, Int.reduceLT, Int.reduceLE, Int.reduceGT, Int.reduceGE, Int.reduceEq, Int.reduceBEq, Int.reduceBNe, Int.reduceNeg, reduceCtorEq, hb_252F, hb_257, hb_258]; exact rfl) ?_
        refine AL_gt' (guard_true' rfl rfl (by exact rfl) (by exact rfl)) rfl (by simp only [go_sem, reduceIte, Nat.reduceAdd, Nat.reduceSub, Nat.reduceMul, Nat.reduceEqDiff, Nat.reduceLT, Nat.reduceLeDiff, Nat.reduceBEq, Int.reduceToNat, Int.reduceLT, Int.reduceLE, Int.reduceGT, Int.reduceGE, Int.reduceEq, Int.reduceBEq, Int.reduceBNe, Int.reduceNeg, reduceCtorEq, hb_252F, hb_257, hb_258]; exact rfl) ?_
        refine AL_gt' (guard_true' rfl rfl (by exact rfl) (by exact rfl)) rfl (by simp only [go_sem, reduceIte, Nat.reduceAdd, Nat.reduceSub, Nat.reduceMul, Nat.reduceEqDiff, Nat.reduceLT, Nat.reduceLeDiff, Nat.reduceBEq, Int.reduceToNat, Int.reduceLT, Int.reduceLE, Int.reduceGT, Int.reduceGE, Int.reduceEq, Int.reduceBEq, Int.reduceBNe, Int.reduceNeg, reduceCtorEq, hb_252F, hb_257, hb_258]; exact rfl) ?_
        by_cases hb_259 : (best_250.Kind != 2) = true
        · rw [if_pos hb_259] at h
          refine AL_known (d := 28) (v := .p (.bool true)) (by simp only [go_sem, reduceIte, Nat.reduceAdd, Nat.reduceSub, Nat.reduceMul, Nat.reduceEqDiff, Nat.reduceLT, Nat.reduceLeDiff, Nat.reduceBEq, Int.reduceToNat, Int.reduceLT, Int.reduceLE, Int.reduceGT, Int.reduceGE, Int.reduceEq, Int.reduceBEq, Int.reduceBNe, Int.reduceNeg, reduceCtorEq, hb_252F, hb_257, hb_258, hb_259]) ?_
          refine AL_skips (by exact rfl) ?_
          refine AL_gt' (guard_true' rfl rfl (by exact rfl) (by exact rfl)) rfl (by simp only [go_sem, reduceIte, Nat.reduceAdd, Nat.reduceSub, Nat.reduceMul, Nat.reduceEqDiff, Nat.reduceLT, Nat.reduceLeDiff, Nat.reduceBEq, Int.reduceToNat, Int.reduceLT, Int.reduceLE, Int.reduceGT, Int.reduceGE, Int.reduceEq, Int.reduceBEq, Int.reduceBNe, Int.reduceNeg, reduceCtorEq, hb_252F, hb_257, hb_258, hb_259]; exact rfl) ?_
          refine AL_upto (by exact rfl) (by simp only [go_sem, reduceIte, Nat.reduceAdd, Nat.reduceSub, Nat.reduceMul, Nat.reduceEqDiff, Nat.reduceLT, Nat.reduceLeDiff, Nat.reduceBEq, Int.reduceToNat, Int.reduceLT, Int.reduceLE, Int.reduceGT, Int.reduceGE, Int.reduceEq, Int.reduceBEq, Int.reduceBNe, Int.reduceNeg, reduceCtorEq, hb_252F, hb_257, hb_258, hb_259]; exact rfl) ?_
          refine AL_nil ?_
          refine thenA_n ?_
          refine awp_ret ?_
          refine blockA_ret ?_
          refine thenA_ret ?_
          cases h
          refine retQ_ret (by simp only [Try.results51]; simp only [go_sem, reduceIte, Nat.reduceAdd, Nat.reduceSub, Nat.reduceMul, Nat.reduceEqDiff, Nat.reduceLT, Nat.reduceLeDiff, Nat.reduceBEq, Int.reduceToNat, Int.reduceLT, Int.reduceLE, Int.reduceGT, Int.reduceGE, Int.reduceEq, Int.reduceBEq, Int.reduceBNe, Int.reduceNeg, reduceCtorEq, hb_252F, hb_257, hb_258, hb_259]; exact rfl) ?_
          simp only [go_sem, reduceIte, Nat.reduceAdd, Nat.reduceSub, Nat.reduceMul, Nat.reduceEqDiff, Nat.reduceLT, Nat.reduceLeDiff, Nat.reduceBEq, Int.reduceToNat, Int.reduceLT, Int.reduceLE, Int.reduceGT, Int.reduceGE, Int.reduceEq, Int.reduceBEq, Int.reduceBNe, Int.reduceNeg, reduceCtorEq, hb_252F, hb_257, hb_258, hb_259]
          all_goals ((repeat' refine And.intro ?_ ?_) <;> first | rfl | (simp; done) | (simp; rfl) | (simp [*]; done) | (simp [*]; rfl))
        · rw [if_neg hb_259] at h
          have hb_259F := Bool.eq_false_iff.2 hb_259
          refine AL_known (d := 28) (v := .p (.bool false)) (by simp only [go_sem, reduceIte, Nat.reduceAdd, Nat.reduceSub, Nat.reduceMul, Nat.reduceEqDiff, Nat.reduceLT, Nat.reduceLeDiff, Nat.reduceBEq, Int.reduceToNat, Int.reduceLT, Int.reduceLE, Int.reduceGT, Int.reduceGE, Int.reduceEq, Int.reduceBEq, Int.reduceBNe, Int.reduceNeg, reduceCtorEq, hb_252F, hb_257, hb_258, hb_259F]) ?_
          refine AL_gt' (guard_true' rfl rfl (by exact rfl) (by exact rfl)) rfl (by simp only [go_sem, reduceIte, Nat.reduceAdd, Nat.reduceSub, Nat.reduceMul, Nat.reduceEqDiff, Nat.reduceLT, Nat.reduceLeDiff, Nat.reduceBEq, Int.reduceToNat, Int.reduceLT, Int.reduceLE, Int.reduceGT, Int.reduceGE, Int.reduceEq, Int.reduceBEq, Int.reduceBNe, Int.reduceNeg, reduceCtorEq, hb_252F, hb_257, hb_258, hb_259F]; exact rfl) ?_
          refine AL_gt' (guard_true' rfl rfl (by exact rfl) (by exact rfl)) rfl (by simp only [go_sem, reduceIte, Nat.reduceAdd, Nat.reduceSub, Nat.reduceMul, Nat.reduceEqDiff, Nat.reduceLT, Nat.reduceLeDiff, Nat.reduceBEq, Int.reduceToNat, Int.reduceLT, Int.reduceLE, Int.reduceGT, Int.reduceGE, Int.reduceEq, Int.reduceBEq, Int.reduceBNe, Int.reduceNeg, reduceCtorEq, hb_252F, hb_257, hb_258, hb_259F]; exact rfl) ?_
          refine AL_gt' (guard_true' rfl rfl (by exact rfl) (by exact rfl)) rfl (by simp only [go_sem, reduceIte, Nat.reduceAdd, Nat.reduceSub, Nat.reduceMul, Nat.reduceEqDiff, Nat.reduceLT, Nat.reduceLeDiff, Nat.reduceBEq, Int.reduceToNat, Int.reduceLT, Int.reduceLE, Int.reduceGT, Int.reduceGE, Int.reduceEq, Int.reduceBEq, Int.reduceBNe, Int.reduceNeg, reduceCtorEq, hb_252F, hb_257, hb_258, hb_259F]; exact rfl) ?_
          refine AL_gt' (guard_true' rfl rfl (by exact rfl) (by exact rfl)) rfl (by simp only [go_sem, reduceIte, Nat.reduceAdd, Nat.reduceSub, Nat.reduceMul, Nat.reduceEqDiff, Nat.reduceLT, Nat.reduceLeDiff, Nat.reduceBEq, Int.reduceToNat, Int.reduceLT, Int.reduceLE, Int.reduceGT, Int.reduceGE, Int.reduceEq, Int.reduceBEq, Int.reduceBNe, Int.reduceNeg, reduceCtorEq, hb_252F, hb_257, hb_258, hb_259F]; exact rfl) ?_
          refine AL_gt' (guard_true' rfl rfl (by exact rfl) (by exact rfl)) rfl (by simp only [go_sem, reduceIte, Nat.reduceAdd, Nat.reduceSub, Nat.reduceMul, Nat.reduceEqDiff, Nat.reduceLT, Nat.reduceLeDiff, Nat.reduceBEq, Int.reduceToNat, Int.reduceLT, Int.reduceLE, Int.reduceGT, Int.reduceGE, Int.reduceEq, Int.reduceBEq, Int.reduceBNe, Int.reduceNeg, reduceCtorEq, hb_252F, hb_257, hb_258, hb_259F]; exact rfl) ?_
          refine AL_gt' (guard_true' rfl rfl (by exact rfl) (by exact rfl)) rfl (by simp only [go_sem, reduceIte, Nat.reduceAdd, Nat.reduceSub, Nat.reduceMul, Nat.reduceEqDiff, Nat.reduceLT, Nat.reduceLeDiff, Nat.reduceBEq, Int.reduceToNat, Int.reduceLT, Int.reduceLE, Int.reduceGT, Int.reduceGE, Int.reduceEq, Int.reduceBEq, Int.reduceBNe, Int.reduceNeg, reduceCtorEq, hb_252F, hb_257, hb_258, hb_259F]; exact rfl) ?_
          refine AL_gt' (guard_true' rfl rfl (by exact rfl) (by exact rfl)) rfl (by simp only [go_sem, reduceIte, Nat.reduceAdd, Nat.reduceSub, Nat.reduceMul, Nat.reduceEqDiff, Nat.reduceLT, Nat.reduceLeDiff, Nat.reduceBEq, Int.reduceToNat, Int.reduceLT, Int.reduceLE, Int.reduceGT, Int.reduceGE, Int.reduceEq, Int.reduceBEq, Int.reduceBNe, Int.reduceNeg, reduceCtorEq, hb_252F, hb_257, hb_258, hb_259F]; exact rfl) ?_
          refine AL_gt' (guard_true' rfl rfl (by exact rfl) (by exact rfl)) rfl (by simp only [go_sem, reduceIte, Nat.reduceAdd, Nat.reduceSub, Nat.reduceMul, Nat.reduceEqDiff, Nat.reduceLT, Nat.reduceLeDiff, Nat.reduceBEq, Int.reduceToNat, Int.reduceLT, Int.reduceLE, Int.reduceGT, Int.reduceGE, Int.reduceEq, Int.reduceBEq, Int.reduceBNe, Int.reduceNeg, reduceCtorEq, hb_252F, hb_257, hb_258, hb_259F]; exact rfl) ?_
          refine AL_upto (by exact rfl) (by simp only [go_sem, reduceIte, Nat.reduceAdd, Nat.reduceSub, Nat.reduceMul, Nat.reduceEqDiff, Nat.reduceLT, Nat.reduceLeDiff, Nat.reduceBEq, Int.reduceToNat, Int.reduceLT, Int.reduceLE, Int.reduceGT, Int.reduceGE, Int.reduceEq, Int.reduceBEq, Int.reduceBNe, Int.reduceNeg, reduceCtorEq, hb_252F, hb_257, hb_258, hb_259F]; exact rfl) ?_
          refine AL_nil ?_
          refine thenA_n ?_
          refine awp_ret ?_
          refine blockA_ret ?_
          refine thenA_ret ?_
          cases h
          refine retQ_ret (by simp only [Try.results51]; simp only [go_sem, reduceIte, Nat.reduceAdd, Nat.reduceSub, Nat.reduceMul, Nat.reduceEqDiff, Nat.reduceLT, Nat.reduceLeDiff, Nat.reduceBEq, Int.reduceToNat, Int.reduceLT, Int.reduceLE, Int.reduceGT, Int.reduceGE, Int.reduceEq, Int.reduceBEq, Int.reduceBNe, Int.reduceNeg, reduceCtorEq, hb_252F, hb_257, hb_258, hb_259F]; exact rfl) ?_
          simp only [go_sem, reduceIte, Nat.reduceAdd, Nat.reduceSub, Nat.reduceMul, Nat.reduceEqDiff, Nat.reduceLT, Nat.reduceLeDiff, Nat.reduceBEq, Int.reduceToNat, Int.reduceLT, Int.reduceLE, Int.reduceGT, Int.reduceGE, Int.reduceEq, Int.reduceBEq, Int.reduceBNe, Int.reduceNeg, reduceCtorEq, hb_252F, hb_257, hb_258, hb_259F]
          all_goals ((repeat' refine And.intro ?_ ?_) <;> first | rfl | (simp; done) | (simp; rfl) | (simp [*]; done) | (simp [*]; rfl))
      · rw [if_neg hb_258] at h
        have hb_258F := Bool.eq_false_iff.2 hb_258
        refine AL_known (d := 24) (v := .p (.bool false)) (by simp only [go_sem, reduceIte, Nat.reduceAdd, Nat.reduceSub, Nat.reduceMul, Nat.reduceEqDiff, Nat.reduceLT, Nat.reduceLeDiff, Nat.reduceBEq, Int.reduceToNat, Int.reduceLT, Int.reduceLE, Int.reduceGT, Int.reduceGE, Int.reduceEq, Int.reduceBEq, Int.reduceBNe, Int.reduceNeg, reduceCtorEq, hb_252F, hb_257, hb_258F]) ?_
        refine AL_skips (by exact rfl) ?_
        refine AL_upto (by exact rfl) (by simp only [go_sem, reduceIte, Nat.reduceAdd, Nat.reduceSub, Nat.reduceMul, Nat.reduceEqDiff, Nat.reduceLT, Nat.reduceLeDiff, Nat.reduceBEq, Int.reduceToNat, Int.reduceLT, Int.reduceLE, Int.reduceGT, Int.reduceGE, Int.reduceEq, Int.reduceBEq, Int.reduceBNe, Int.reduceNeg, reduceCtorEq, hb_252F, hb_257, hb_258F]; exact rfl) ?_
        refine AL_nil ?_
        refine thenA_n ?_
        refine awp_ret ?_
        refine blockA_ret ?_
        refine thenA_ret ?_
        cases h
        refine retQ_ret (by simp only [Try.results51]; simp only [go_sem, reduceIte, Nat.reduceAdd, Nat.reduceSub, Nat.reduceMul, Nat.reduceEqDiff, Nat.reduceLT, Nat.reduceLeDiff, Nat.reduceBEq, Int.reduceToNat, Int.reduceLT, Int.reduceLE, Int.reduceGT, Int.reduceGE, Int.reduceEq, Int.reduceBEq, Int.reduceBNe, Int.reduceNeg, reduceCtorEq, hb_252F, hb_257, hb_258F]; exact rfl) ?_
        simp only [go_sem, reduceIte, Nat.reduceAdd, Nat.reduceSub, Nat.reduceMul, Nat.reduceEqDiff, Nat.reduceLT, Nat.reduceLeDiff, Nat.reduceBEq, Int.reduceToNat, Int.reduceLT, Int.reduceLE, Int.reduceGT, Int.reduceGE, Int.reduceEq, Int.reduceBEq, Int.reduceBNe, Int.reduceNeg, reduceCtorEq, hb_252F, hb_257, hb_258F]
        all_goals ((repeat' refine And.intro ?_ ?_) <;> first | rfl | (simp; done) | (simp; rfl) | (simp [*]; done) | (simp [*]; rfl))
    · rw [if_neg hb_257] at h
      have hb_257F := Bool.eq_false_iff.2 hb_257
      refine awp_cf (by simp only [go_sem, reduceIte, Nat.reduceAdd, Nat.reduceSub, Nat.reduceMul, Nat.reduceEqDiff, Nat.reduceLT, Nat.reduceLeDiff, Nat.reduceBEq, Int.reduceToNat, Int.reduceLT, Int.reduceLE, Int.reduceGT, Int.reduceGE, Int.reduceEq, Int.reduceBEq, Int.reduceBNe, Int.reduceNeg, reduceCtorEq, hb_252F, hb_257F]) ?_
      refine awp_seq ?_
      refine awp_region ?_
      refine AL_upto (by exact rfl) (by simp only [go_sem, reduceIte, Nat.reduceAdd, Nat.reduceSub, Nat.reduceMul, Nat.reduceEqDiff, Nat.reduceLT, Nat.reduceLeDiff, Nat.reduceBEq, Int.reduceToNat, Int.reduceLT, Int.reduceLE, Int.reduceGT, Int.reduceGE, Int.reduceEq, Int.reduceBEq, Int.reduceBNe, Int.reduceNeg, reduceCtorEq, hb_252F, hb_257F]; exact rfl) ?_
      refine AL_nil ?_
      refine thenA_n ?_
      by_cases hb_260 : (rule_251 == 4) = true
      · rw [if_pos hb_260] at h
        refine awp_ct (by simp only [go_sem, reduceIte, Nat.reduceAdd, Nat.reduceSub, Nat.reduceMul, Nat.reduceEqDiff, Nat.reduceLT, Nat.reduceLeDiff, Nat.reduceBEq, Int.reduceToNat, Int.reduceLT, Int.reduceLE, Int.reduceGT, Int.reduceGE, Int.reduceEq, Int.reduceBEq, Int.reduceBNe, Int.reduceNeg, reduceCtorEq, hb_252F, hb_257F, hb_260]) ?_
        refine awp_seq ?_
        refine awp_region ?_
        refine AL_upto (by exact rfl) (by simp only [go_sem, reduceIte, Nat.reduceAdd, Nat.reduceSub, Nat.reduceMul, Nat.reduceEqDiff, Nat.reduceLT, Nat.reduceLeDiff, Nat.reduceBEq, Int.reduceToNat, Int.reduceLT, Int.reduceLE, Int.reduceGT, Int.reduceGE, Int.reduceEq, Int.reduceBEq, Int.reduceBNe, Int.reduceNeg, reduceCtorEq, hb_252F, hb_257F, hb_260]; exact rfl) ?_
        obtain ⟨r_261, hr_262, h⟩ := Option.bind_eq_some_iff.1 h
        refine AL_con' rfl (guard_none rfl) rfl (by simp only [go_sem, reduceIte, Nat.reduceAdd, Nat.reduceSub, Nat.reduceMul, Nat.reduceEqDiff, Nat.reduceLT, Nat.reduceLeDiff, Nat.reduceBEq, Int.reduceToNat, Int.reduceLT, Int.reduceLE, Int.reduceGT, Int.reduceGE, Int.reduceEq, Int.reduceBEq, Int.reduceBNe, Int.reduceNeg, reduceCtorEq, hb_252F, hb_257F, hb_260]; exact rfl) (by simp only [go_sem, reduceIte, Nat.reduceAdd, Nat.reduceSub, Nat.reduceMul, Nat.reduceEqDiff, Nat.reduceLT, Nat.reduceLeDiff, Nat.reduceBEq, Int.reduceToNat, Int.reduceLT, Int.reduceLE, Int.reduceGT, Int.reduceGE, Int.reduceEq, Int.reduceBEq, Int.reduceBNe, Int.reduceNeg, reduceCtorEq, hb_252F, hb_257F, hb_260]; all_goals ((repeat' refine And.intro ?_ ?_) <;> first | rfl | (simp; done) | (simp; rfl) | (simp [*]; done) | (simp [*]; rfl))) (value_Compare_con v_249 best_250 _ hr_262) (.inr rfl) rfl ?_
        refine AL_upto (by exact rfl) (by simp only [go_sem, reduceIte, Nat.reduceAdd, Nat.reduceSub, Nat.reduceMul, Nat.reduceEqDiff, Nat.reduceLT, Nat.reduceLeDiff, Nat.reduceBEq, Int.reduceToNat, Int.reduceLT, Int.reduceLE, Int.reduceGT, Int.reduceGE, Int.reduceEq, Int.reduceBEq, Int.reduceBNe, Int.reduceNeg, reduceCtorEq, hb_252F, hb_257F, hb_260]; exact rfl) ?_
        refine AL_nil ?_
        refine thenA_n ?_
        refine awp_ret ?_
        refine blockA_ret ?_
        refine thenA_ret ?_
        cases h
        refine retQ_ret (by simp only [Try.results51]; simp only [go_sem, reduceIte, Nat.reduceAdd, Nat.reduceSub, Nat.reduceMul, Nat.reduceEqDiff, Nat.reduceLT, Nat.reduceLeDiff, Nat.reduceBEq, Int.reduceToNat, Int.reduceLT, Int.reduceLE, Int.reduceGT, Int.reduceGE, Int.reduceEq, Int.reduceBEq, Int.reduceBNe, Int.reduceNeg, reduceCtorEq, hb_252F, hb_257F, hb_260]; exact rfl) ?_
        simp only [go_sem, reduceIte, Nat.reduceAdd, Nat.reduceSub, Nat.reduceMul, Nat.reduceEqDiff, Nat.reduceLT, Nat.reduceLeDiff, Nat.reduceBEq, Int.reduceToNat, Int.reduceLT, Int.reduceLE, Int.reduceGT, Int.reduceGE, Int.reduceEq, Int.reduceBEq, Int.reduceBNe, Int.reduceNeg, reduceCtorEq, hb_252F, hb_257F, hb_260]
        all_goals ((repeat' refine And.intro ?_ ?_) <;> first | rfl | (simp; done) | (simp; rfl) | (simp [*]; done) | (simp [*]; rfl))
      · rw [if_neg hb_260] at h
        have hb_260F := Bool.eq_false_iff.2 hb_260
        refine awp_cf (by simp only [go_sem, reduceIte, Nat.reduceAdd, Nat.reduceSub, Nat.reduceMul, Nat.reduceEqDiff, Nat.reduceLT, Nat.reduceLeDiff, Nat.reduceBEq, Int.reduceToNat, Int.reduceLT, Int.reduceLE, Int.reduceGT, Int.reduceGE, Int.reduceEq, Int.reduceBEq, Int.reduceBNe, Int.reduceNeg, reduceCtorEq, hb_252F, hb_257F, hb_260F]) ?_
        refine awp_seq ?_
        refine awp_region ?_
        refine AL_upto (by exact rfl) (by simp only [go_sem, reduceIte, Nat.reduceAdd, Nat.reduceSub, Nat.reduceMul, Nat.reduceEqDiff, Nat.reduceLT, Nat.reduceLeDiff, Nat.reduceBEq, Int.reduceToNat, Int.reduceLT, Int.reduceLE, Int.reduceGT, Int.reduceGE, Int.reduceEq, Int.reduceBEq, Int.reduceBNe, Int.reduceNeg, reduceCtorEq, hb_252F, hb_257F, hb_260F]; exact rfl) ?_
        refine AL_nil ?_
        refine thenA_n ?_
        by_cases hb_263 : (rule_251 == 5) = true
        · rw [if_pos hb_263] at h
          refine awp_ct (by simp only [go_sem, reduceIte, Nat.reduceAdd, Nat.reduceSub, Nat.reduceMul, Nat.reduceEqDiff, Nat.reduceLT, Nat.reduceLeDiff, Nat.reduceBEq, Int.reduceToNat, Int.reduceLT, Int.reduceLE, Int.reduceGT, Int.reduceGE, Int.reduceEq, Int.reduceBEq, Int.reduceBNe, Int.reduceNeg, reduceCtorEq, hb_252F, hb_257F, hb_260F, hb_263]) ?_
          refine awp_seq ?_
          refine awp_region ?_
          refine AL_upto (by exact rfl) (by simp only [go_sem, reduceIte, Nat.reduceAdd, Nat.reduceSub, Nat.reduceMul, Nat.reduceEqDiff, Nat.reduceLT, Nat.reduceLeDiff, Nat.reduceBEq, Int.reduceToNat, Int.reduceLT, Int.reduceLE, Int.reduceGT, Int.reduceGE, Int.reduceEq, Int.reduceBEq, Int.reduceBNe, Int.reduceNeg, reduceCtorEq, hb_252F, hb_257F, hb_260F, hb_263]; exact rfl) ?_
          obtain ⟨r_264, hr_265, h⟩ := Option.bind_eq_some_iff.1 h
          refine AL_con' rfl (guard_none rfl) rfl (by simp only [go_sem, reduceIte, Nat.reduceAdd, Nat.reduceSub, Nat.reduceMul, Nat.reduceEqDiff, Nat.reduceLT, Nat.reduceLeDiff, Nat.reduceBEq, Int.reduceToNat, Int.reduceLT, Int.reduceLE, Int.reduceGT, Int.reduceGE, Int.reduceEq, Int.reduceBEq, Int.reduceBNe, Int.reduceNeg, reduceCtorEq, hb_252F, hb_257F, hb_260F, hb_263]; exact rfl) (by simp only [go_sem, reduceIte, Nat.reduceAdd, Nat.reduceSub, Nat.reduceMul, Nat.reduceEqDiff, Nat.reduceLT, Nat.reduceLeDiff, Nat.reduceBEq, Int.reduceToNat, Int.reduceLT, Int.reduceLE, Int.reduceGT, Int.reduceGE, Int.reduceEq, Int.reduceBEq, Int.reduceBNe, Int.reduceNeg, reduceCtorEq, hb_252F, hb_257F, hb_260F, hb_263]; all_goals ((repeat' refine And.intro ?_ ?_) <;> first | rfl | (simp; done) | (simp; rfl) | (simp [*]; done) | (simp [*]; rfl))) (value_Compare_con v_249 best_250 _ hr_265) (.inr rfl) rfl ?_
          refine AL_upto (by exact rfl) (by simp only [go_sem, reduceIte, Nat.reduceAdd, Nat.reduceSub, Nat.reduceMul, Nat.reduceEqDiff, Nat.reduceLT, Nat.reduceLeDiff, Nat.reduceBEq, Int.reduceToNat, Int.reduceLT, Int.reduceLE, Int.reduceGT, Int.reduceGE, Int.reduceEq, Int.reduceBEq, Int.reduceBNe, Int.reduceNeg, reduceCtorEq, hb_252F, hb_257F, hb_260F, hb_263]; exact rfl) ?_
          refine AL_nil ?_
          refine thenA_n ?_
          refine awp_ret ?_
          refine blockA_ret ?_
          refine thenA_ret ?_
          cases h
          refine retQ_ret (by simp only [Try.results51]; simp only [go_sem, reduceIte, Nat.reduceAdd, Nat.reduceSub, Nat.reduceMul, Nat.reduceEqDiff, Nat.reduceLT, Nat.reduceLeDiff, Nat.reduceBEq, Int.reduceToNat, Int.reduceLT, Int.reduceLE, Int.reduceGT, Int.reduceGE, Int.reduceEq, Int.reduceBEq, Int.reduceBNe, Int.reduceNeg, reduceCtorEq, hb_252F, hb_257F, hb_260F, hb_263]; exact rfl) ?_
          simp only [go_sem, reduceIte, Nat.reduceAdd, Nat.reduceSub, Nat.reduceMul, Nat.reduceEqDiff, Nat.reduceLT, Nat.reduceLeDiff, Nat.reduceBEq, Int.reduceToNat, Int.reduceLT, Int.reduceLE, Int.reduceGT, Int.reduceGE, Int.reduceEq, Int.reduceBEq, Int.reduceBNe, Int.reduceNeg, reduceCtorEq, hb_252F, hb_257F, hb_260F, hb_263]
          all_goals ((repeat' refine And.intro ?_ ?_) <;> first | rfl | (simp; done) | (simp; rfl) | (simp [*]; done) | (simp [*]; rfl))
        · rw [if_neg hb_263] at h
          have hb_263F := Bool.eq_false_iff.2 hb_263
          refine awp_cf (by simp only [go_sem, reduceIte, Nat.reduceAdd, Nat.reduceSub, Nat.reduceMul, Nat.reduceEqDiff, Nat.reduceLT, Nat.reduceLeDiff, Nat.reduceBEq, Int.reduceToNat, Int.reduceLT, Int.reduceLE, Int.reduceGT, Int.reduceGE, Int.reduceEq, Int.reduceBEq, Int.reduceBNe, Int.reduceNeg, reduceCtorEq, hb_252F, hb_257F, hb_260F, hb_263F]) ?_
          refine awp_skip ?_
          refine blockA_n ?_
          refine thenA_n ?_
          refine awp_seq ?_
          refine awp_region ?_
          refine AL_upto (by exact rfl) (by simp only [go_sem, reduceIte, Nat.reduceAdd, Nat.reduceSub, Nat.reduceMul, Nat.reduceEqDiff, Nat.reduceLT, Nat.reduceLeDiff, Nat.reduceBEq, Int.reduceToNat, Int.reduceLT, Int.reduceLE, Int.reduceGT, Int.reduceGE, Int.reduceEq, Int.reduceBEq, Int.reduceBNe, Int.reduceNeg, reduceCtorEq, hb_252F, hb_257F, hb_260F, hb_263F]; exact rfl) ?_
          refine AL_nil ?_
          refine thenA_n ?_
          refine awp_ret ?_
          cases h
          refine retQ_ret (by simp only [Try.results51]; simp only [go_sem, reduceIte, Nat.reduceAdd, Nat.reduceSub, Nat.reduceMul, Nat.reduceEqDiff, Nat.reduceLT, Nat.reduceLeDiff, Nat.reduceBEq, Int.reduceToNat, Int.reduceLT, Int.reduceLE, Int.reduceGT, Int.reduceGE, Int.reduceEq, Int.reduceBEq, Int.reduceBNe, Int.reduceNeg, reduceCtorEq, hb_252F, hb_257F, hb_260F, hb_263F]; exact rfl) ?_
          simp only [go_sem, reduceIte, Nat.reduceAdd, Nat.reduceSub, Nat.reduceMul, Nat.reduceEqDiff, Nat.reduceLT, Nat.reduceLeDiff, Nat.reduceBEq, Int.reduceToNat, Int.reduceLT, Int.reduceLE, Int.reduceGT, Int.reduceGE, Int.reduceEq, Int.reduceBEq, Int.reduceBNe, Int.reduceNeg, reduceCtorEq, hb_252F, hb_257F, hb_260F, hb_263F]
          all_goals ((repeat' refine And.intro ?_ ?_) <;> first | rfl | (simp; done) | (simp; rfl) | (simp [*]; done) | (simp [*]; rfl))
end Go.Proofs.Ytdmddoljldjjeaa
set_option linter.unusedVariables false
set_option linter.unusedSimpArgs false
namespace Go.Proofs.Ytdmddoljldjjeaa
open Go Go.Ab
set_option maxHeartbeats 4000000 in
theorem slices_IndexFunc_Row_con (s_267 : List Row) (f_268 : Row → Option (Bool)) (f_268_k : FuncId) (f_268_cs : List PV) (f_268_h : ∀ (y_269 : Row) (r_270 : Bool), f_268 y_269 = some r_270 → Con Try.prog f_268_k ((encRow y_269) :: f_268_cs) (.bool r_270)) (r_298 : Int) (h : slices_IndexFunc_Row s_267 f_268 = some r_298) : Con Try.prog 52 [(.slc (List.map encRow s_267)), .func (.func f_268_k) f_268_cs] (.int .i64 r_298) := by
  refine ⟨Try.call52, ?_⟩
  refine pure_of_awp Try.func52 rfl Try.ntmps52 (by simp) fun X w => ?_
  show AWp _ _ _ ⟨[(0, .p (.slc (List.map encRow s_267))), (1, .p (.func (.func f_268_k) f_268_cs))], []⟩
  simp only [slices_IndexFunc_Row] at h
  refine awp_seq ?_
  refine awp_region ?_
  refine AL_upto (by exact rfl) (by simp only [go_sem, reduceIte, Nat.reduceAdd, Nat.reduceSub, Nat.reduceMul, Nat.reduceEqDiff, Nat.reduceLT, Nat.reduceLeDiff, Nat.reduceBEq, Int.reduceToNat, Int.reduceLT, Int.reduceLE, Int.reduceGT, Int.reduceGE, Int.reduceEq, Int.reduceBEq, Int.reduceBNe, Int.reduceNeg, reduceCtorEq]; exact rfl) ?_
  refine AL_nil ?_
  refine thenA_n ?_
  refine awp_seq ?_
  refine awp_seq ?_
  refine awp_region ?_
  refine AL_upto (by exact rfl) (by simp only [go_sem, reduceIte, Nat.reduceAdd, Nat.reduceSub, Nat.reduceMul, Nat.reduceEqDiff, Nat.reduceLT, Nat.reduceLeDiff, Nat.reduceBEq, Int.reduceToNat, Int.reduceLT, Int.reduceLE, Int.reduceGT, Int.reduceGE, Int.reduceEq, Int.reduceBEq, Int.reduceBNe, Int.reduceNeg, reduceCtorEq]; exact rfl) ?_
  refine AL_nil ?_
  refine thenA_n ?_
  refine awp_block ?_
  obtain ⟨o_293, hL_294, h⟩ := Option.bind_eq_some_iff.1 h
  refine awp_loop_L (fun (s : Int) => ⟨[(0, .p (.slc (List.map encRow s_267))), (1, .p (.func (.func f_268_k) f_268_cs)), (7, .p (.int .i64 (s_267.length : Int))), (8, .p (.int .i64 s))], []⟩) (fun (o : (Unit) ⊕ (Int)) (e : Exit) (s' : St) => match o with | .inl o_296 => e = (.exit 0) ∧ Le ⟨Try.prog, Try.f52.ntmps, 0, X, [], fun _ => none, w⟩ s' ⟨[], []⟩ | .inr o_297 => e = .ret ∧ retQ Try.prog Try.f52 (.int .i64 o_297) .ret s') (by intro o s hT; rcases o with _ | _ <;> (have hh := hT.1; cases hh)) hL_294 (by simp only [go_sem, reduceIte, Nat.reduceAdd, Nat.reduceSub, Nat.reduceMul, Nat.reduceEqDiff, Nat.reduceLT, Nat.reduceLeDiff, Nat.reduceBEq, Int.reduceToNat, Int.reduceLT, Int.reduceLE, Int.reduceGT, Int.reduceGE, Int.reduceEq, Int.reduceBEq, Int.reduceBNe, Int.reduceNeg, reduceCtorEq]; all_goals ((repeat' refine And.intro ?_ ?_) <;> first | rfl | (simp; done) | (simp; rfl) | (simp [*]; done) | (simp [*]; rfl))) ?_ ?_
  · clear h
    intro t8_278 x h
    simp only [slices_IndexFunc_Row_l1] at h
    show AWp _ _ _ ⟨[(0, .p (.slc (List.map encRow s_267))), (1, .p (.func (.func f_268_k) f_268_cs)), (7, .p (.int .i64 (s_267.length : Int))), (8, .p (.int .i64 t8_278))], []⟩
    refine awp_seq ?_
    refine awp_region ?_
    refine AL_upto (by exact rfl) (by simp only [go_sem, reduceIte, Nat.reduceAdd, Nat.reduceSub, Nat.reduceMul, Nat.reduceEqDiff, Nat.reduceLT, Nat.reduceLeDiff, Nat.reduceBEq, Int.reduceToNat, Int.reduceLT, Int.reduceLE, Int.reduceGT, Int.reduceGE, Int.reduceEq, Int.reduceBEq, Int.reduceBNe, Int.reduceNeg, reduceCtorEq]; exact rfl) ?_
    refine AL_nil ?_
    refine thenA_n ?_
    refine awp_seq ?_
    by_cases hb_287 : t8_278 < (s_267.length : Int)
    · rw [if_pos hb_287] at h
      have hb_287T := eq_true hb_287
      refine awp_ct (by simp only [go_sem, reduceIte, Nat.reduceAdd, Nat.reduceSub, Nat.reduceMul, Nat.reduceEqDiff, Nat.reduceLT, Nat.reduceLeDiff, Nat.reduceBEq, Int.reduceToNat, Int.reduceLT, Int.reduceLE, Int.reduceGT, Int.reduceGE, Int.reduceEq, Int.reduceBEq, Int.reduceBNe, Int.reduceNeg, reduceCtorEq, hb_287T]) ?_
      refine awp_skip ?_
      refine thenA_n ?_
      refine awp_seq ?_
      refine awp_block ?_
      refine awp_seq ?_
      refine awp_region ?_
      refine AL_upto (by exact rfl) (by simp only [go_sem, reduceIte, Nat.reduceAdd, Nat.reduceSub, Nat.reduceMul, Nat.reduceEqDiff, Nat.reduceLT, Nat.reduceLeDiff, Nat.reduceBEq, Int.reduceToNat, Int.reduceLT, Int.reduceLE, Int.reduceGT, Int.reduceGE, Int.reduceEq, Int.reduceBEq, Int.reduceBNe, Int.reduceNeg, reduceCtorEq, hb_287T]; exact rfl) ?_
      refine AL_nil ?_
      refine thenA_n ?_
      refine awp_seq ?_
      refine awp_region ?_
      obtain ⟨x_288, hx_289, h⟩ := Option.bind_eq_some_iff.1 h
      obtain ⟨hx_289a, hx_289, hx_289b⟩ := idx_some hx_289
      have hx_289A := eq_true hx_289a
      have hx_289B := eq_true hx_289b
      refine AL_upto (by exact rfl) (by simp only [go_sem, reduceIte, Nat.reduceAdd, Nat.reduceSub, Nat.reduceMul, Nat.reduceEqDiff, Nat.reduceLT, Nat.reduceLeDiff, Nat.reduceBEq, Int.reduceToNat, Int.reduceLT, Int.reduceLE, Int.reduceGT, Int.reduceGE, Int.reduceEq, Int.reduceBEq, Int.reduceBNe, Int.reduceNeg, reduceCtorEq, hb_287T, hx_289, hx_289A, hx_289B]; exact rfl) ?_
      obtain ⟨r_290, hr_291, h⟩ := Option.bind_eq_some_iff.1 h
      refine AL_con' rfl (guard_none rfl) rfl (by simp only [go_sem, reduceIte, Nat.reduceAdd, Nat.reduceSub, Nat.reduceMul, Nat.reduceEqDiff, Nat.reduceLT, Nat.reduceLeDiff, Nat.reduceBEq, Int.reduceToNat, Int.reduceLT, Int.reduceLE, Int.reduceGT, Int.reduceGE, Int.reduceEq, Int.reduceBEq, Int.reduceBNe, Int.reduceNeg, reduceCtorEq, hb_287T]; exact rfl) (by simp only [go_sem, reduceIte, Nat.reduceAdd, Nat.reduceSub, Nat.reduceMul, Nat.reduceEqDiff, Nat.reduceLT, Nat.reduceLeDiff, Nat.reduceBEq, Int.reduceToNat, Int.reduceLT, Int.reduceLE, Int.reduceGT, Int.reduceGE, Int.reduceEq, Int.reduceBEq, Int.reduceBNe, Int.reduceNeg, reduceCtorEq, hb_287T]; all_goals ((repeat' refine And.intro ?_ ?_) <;> first | rfl | (simp; done) | (simp; rfl) | (simp [*]; done) | (simp [*]; rfl))) (f_268_h x_288 _ hr_291) (.inr rfl) rfl ?_
      refine AL_nil ?_
      refine thenA_n ?_
      by_cases hb_292 : r_290 = true
      · rw [if_pos hb_292] at h
        refine awp_ct (by simp only [go_sem, reduceIte, Nat.reduceAdd, Nat.reduceSub, Nat.reduceMul, Nat.reduceEqDiff, Nat.reduceLT, Nat.reduceLeDiff, Nat.reduceBEq, Int.reduceToNat, Int.reduceLT, Int.reduceLE, Int.reduceGT, Int.reduceGE, Int.reduceEq, Int.reduceBEq, Int.reduceBNe, Int.reduceNeg, reduceCtorEq, hb_287T, hb_292]) ?_
        refine awp_seq ?_
        refine awp_region ?_
        refine AL_upto (by exact rfl) (by simp only [go_sem, reduceIte, Nat.reduceAdd, Nat.reduceSub, Nat.reduceMul, Nat.reduceEqDiff, Nat.reduceLT, Nat.reduceLeDiff, Nat.reduceBEq, Int.reduceToNat, Int.reduceLT, Int.reduceLE, Int.reduceGT, Int.reduceGE, Int.reduceEq, Int.reduceBEq, Int.reduceBNe, Int.reduceNeg, reduceCtorEq, hb_287T, hb_292]; exact rfl) ?_
        refine AL_nil ?_
        refine thenA_n ?_
        refine awp_ret ?_
        refine blockA_ret ?_
        refine thenA_ret ?_
        cases h
        refine ⟨rfl, ?_⟩
        refine retQ_ret (by simp only [Try.results52]; simp only [go_sem, reduceIte, Nat.reduceAdd, Nat.reduceSub, Nat.reduceMul, Nat.reduceEqDiff, Nat.reduceLT, Nat.reduceLeDiff, Nat.reduceBEq, Int.reduceToNat, Int.reduceLT, Int.reduceLE, Int.reduceGT, Int.reduceGE, Int.reduceEq, Int.reduceBEq, Int.reduceBNe, Int.reduceNeg, reduceCtorEq, hb_287T, hb_292]; exact rfl) ?_
        simp only [go_sem, reduceIte, Nat.reduceAdd, Nat.reduceSub, Nat.reduceMul, Nat.reduceEqDiff, Nat.reduceLT, Nat.reduceLeDiff, Nat.reduceBEq, Int.reduceToNat, Int.reduceLT, Int.reduceLE, Int.reduceGT, Int.reduceGE, Int.reduceEq, Int.reduceBEq, Int.reduceBNe, Int.reduceNeg, reduceCtorEq, hb_287T, hb_292]
        all_goals ((repeat' refine And.intro ?_ ?_) <;> first | rfl | (simp; done) | (simp; rfl) | (simp [*]; done) | (simp [*]; rfl))
      · rw [if_neg hb_292] at h
        have hb_292F := Bool.eq_false_iff.2 hb_292
        refine awp_cf (by simp only [go_sem, reduceIte, Nat.reduceAdd, Nat.reduceSub, Nat.reduceMul, Nat.reduceEqDiff, Nat.reduceLT, Nat.reduceLeDiff, Nat.reduceBEq, Int.reduceToNat, Int.reduceLT, Int.reduceLE, Int.reduceGT, Int.reduceGE, Int.reduceEq, Int.reduceBEq, Int.reduceBNe, Int.reduceNeg, reduceCtorEq, hb_287T, hb_292F]) ?_
        refine awp_skip ?_
        refine blockA_n ?_
        refine thenA_n ?_
        refine awp_region ?_
        refine AL_upto (by exact rfl) (by simp only [go_sem, reduceIte, Nat.reduceAdd, Nat.reduceSub, Nat.reduceMul, Nat.reduceEqDiff, Nat.reduceLT, Nat.reduceLeDiff, Nat.reduceBEq, Int.reduceToNat, Int.reduceLT, Int.reduceLE, Int.reduceGT, Int.reduceGE, Int.reduceEq, Int.reduceBEq, Int.reduceBNe, Int.reduceNeg, reduceCtorEq, hb_287T, hb_292F]; exact rfl) ?_
        refine AL_nil ?_
        cases h
        refine ⟨rfl, ?_⟩
        simp only [go_sem, reduceIte, Nat.reduceAdd, Nat.reduceSub, Nat.reduceMul, Nat.reduceEqDiff, Nat.reduceLT, Nat.reduceLeDiff, Nat.reduceBEq, Int.reduceToNat, Int.reduceLT, Int.reduceLE, Int.reduceGT, Int.reduceGE, Int.reduceEq, Int.reduceBEq, Int.reduceBNe, Int.reduceNeg, reduceCtorEq, hb_287T, hb_292F]
        all_goals ((repeat' refine And.intro ?_ ?_) <;> first | rfl | (simp; done) | (simp; rfl) | (simp [*]; done) | (simp [*]; rfl))
    · rw [if_neg hb_287] at h
      have hb_287T := eq_false hb_287
      refine awp_cf (by simp only [go_sem, reduceIte, Nat.reduceAdd, Nat.reduceSub, Nat.reduceMul, Nat.reduceEqDiff, Nat.reduceLT, Nat.reduceLeDiff, Nat.reduceBEq, Int.reduceToNat, Int.reduceLT, Int.reduceLE, Int.reduceGT, Int.reduceGE, Int.reduceEq, Int.reduceBEq, Int.reduceBNe, Int.reduceNeg, reduceCtorEq, hb_287T]) ?_
      refine awp_exit ?_
      refine thenA_exit ?_
      cases h
      refine ⟨rfl, ?_⟩
      simp only [go_sem, reduceIte, Nat.reduceAdd, Nat.reduceSub, Nat.reduceMul, Nat.reduceEqDiff, Nat.reduceLT, Nat.reduceLeDiff, Nat.reduceBEq, Int.reduceToNat, Int.reduceLT, Int.reduceLE, Int.reduceGT, Int.reduceGE, Int.reduceEq, Int.reduceBEq, Int.reduceBNe, Int.reduceNeg, reduceCtorEq, hb_287T]
      all_goals ((repeat' refine And.intro ?_ ?_) <;> first | rfl | (simp; done) | (simp; rfl) | (simp [*]; done) | (simp [*]; rfl))
  · intro e s' hT
    rcases o_293 with ⟨⟩ | r_295
    · try simp only at h
      try simp only at hT
      obtain ⟨rfl, hle⟩ := hT
      refine Wk.to hle ?_
      clear hle
      refine blockA_here ?_
      refine thenA_n ?_
      refine awp_seq ?_
      refine awp_region ?_
      refine AL_upto (by exact rfl) (by simp only [go_sem, reduceIte, Nat.reduceAdd, Nat.reduceSub, Nat.reduceMul, Nat.reduceEqDiff, Nat.reduceLT, Nat.reduceLeDiff, Nat.reduceBEq, Int.reduceToNat, Int.reduceLT, Int.reduceLE, Int.reduceGT, Int.reduceGE, Int.reduceEq, Int.reduceBEq, Int.reduceBNe, Int.reduceNeg, reduceCtorEq]; exact rfl) ?_
      refine AL_nil ?_
      refine thenA_n ?_
      refine awp_ret ?_
      cases h
      refine retQ_ret (by simp only [Try.results52]; simp only [go_sem, reduceIte, Nat.reduceAdd, Nat.reduceSub, Nat.reduceMul, Nat.reduceEqDiff, Nat.reduceLT, Nat.reduceLeDiff, Nat.reduceBEq, Int.reduceToNat, Int.reduceLT, Int.reduceLE, Int.reduceGT, Int.reduceGE, Int.reduceEq, Int.reduceBEq, Int.reduceBNe, Int.reduceNeg, reduceCtorEq]; exact rfl) ?_
      simp only [go_sem, reduceIte, Nat.reduceAdd, Nat.reduceSub, Nat.reduceMul, Nat.reduceEqDiff, Nat.reduceLT, Nat.reduceLeDiff, Nat.reduceBEq, Int.reduceToNat, Int.reduceLT, Int.reduceLE, Int.reduceGT, Int.reduceGE, Int.reduceEq, Int.reduceBEq, Int.reduceBNe, Int.reduceNeg, reduceCtorEq]
      all_goals ((repeat' refine And.intro ?_ ?_) <;> first | rfl | (simp; done) | (simp; rfl) | (simp [*]; done) | (simp [*]; rfl))
    · try simp only at h
      try simp only at hT
      obtain ⟨rfl, hq⟩ := hT
      refine Wk.now ?_
      refine blockA_ret ?_
      refine thenA_ret ?_
      cases h
      exact hq
end Go.Proofs.Ytdmddoljldjjeaa
set_option linter.unusedVariables false
set_option linter.unusedSimpArgs false
namespace Go.Proofs.Ytdmddoljldjjeaa
open Go Go.Ab
set_option maxHeartbeats 4000000 in
theorem survivor_choose_1_con (r_299 : Row) (c_300 : Int) (c_301 : Value) (r_304 : Bool) (h : survivor_choose_1 r_299 c_300 c_301 = some r_304) : Con Try.prog 53 [(encRow r_299), .imm [.int .i64 c_300], .imm [.int .i64 c_301.Kind, .int .i64 c_301.Num, .str c_301.Str]] (.bool r_304) := by
  refine ⟨Try.call53, ?_⟩
  refine pure_of_awp Try.func53 rfl Try.ntmps53 (by simp) fun X w => ?_
  show AWp _ _ _ ⟨[(0, .p (encRow r_299)), (1, .p (.imm [.int .i64 c_300])), (2, .p (.imm [.int .i64 c_301.Kind, .int .i64 c_301.Num, .str c_301.Str]))], []⟩
  simp only [survivor_choose_1] at h
  refine awp_seq ?_
  refine awp_region ?_
  refine AL_upto (by exact rfl) (by simp only [go_sem, reduceIte, Nat.reduceAdd, Nat.reduceSub, Nat.reduceMul, Nat.reduceEqDiff, Nat.reduceLT, Nat.reduceLeDiff, Nat.reduceBEq, Int.reduceToNat, Int.reduceLT, Int.reduceLE, Int.reduceGT, Int.reduceGE, Int.reduceEq, Int.reduceBEq, Int.reduceBNe, Int.reduceNeg, reduceCtorEq]; exact rfl) ?_
  refine AL_nil ?_
  refine thenA_n ?_
  refine awp_seq ?_
  refine awp_drawn_walk mixed (by decide) ?_
  obtain ⟨x_302, hx_303, h⟩ := Option.bind_eq_some_iff.1 h
  obtain ⟨hx_303a, hx_303, hx_303b⟩ := idx_some hx_303
  have hx_303A := eq_true hx_303a
  have hx_303B := eq_true hx_303b
  refine DGo.upto (by exact rfl) (by simp only [go_sem, reduceIte, Nat.reduceAdd, Nat.reduceSub, Nat.reduceMul, Nat.reduceEqDiff, Nat.reduceLT, Nat.reduceLeDiff, Nat.reduceBEq, Int.reduceToNat, Int.reduceLT, Int.reduceLE, Int.reduceGT, Int.reduceGE, Int.reduceEq, Int.reduceBEq, Int.reduceBNe, Int.reduceNeg, reduceCtorEq, hx_303, hx_303A, hx_303B]; exact ⟨rfl, rfl⟩) ?_
  refine DGo.fin rfl ?_
  refine thenA_n ?_
  refine awp_ret ?_
  cases h
  refine retQ_ret (by simp only [Try.results53]; simp only [go_sem, reduceIte, Nat.reduceAdd, Nat.reduceSub, Nat.reduceMul, Nat.reduceEqDiff, Nat.reduceLT, Nat.reduceLeDiff, Nat.reduceBEq, Int.reduceToNat, Int.reduceLT, Int.reduceLE, Int.reduceGT, Int.reduceGE, Int.reduceEq, Int.reduceBEq, Int.reduceBNe, Int.reduceNeg, reduceCtorEq]; exact rfl) ?_
  simp only [go_sem, reduceIte, Nat.reduceAdd, Nat.reduceSub, Nat.reduceMul, Nat.reduceEqDiff, Nat.reduceLT, Nat.reduceLeDiff, Nat.reduceBEq, Int.reduceToNat, Int.reduceLT, Int.reduceLE, Int.reduceGT, Int.reduceGE, Int.reduceEq, Int.reduceBEq, Int.reduceBNe, Int.reduceNeg, reduceCtorEq]
  all_goals ((repeat' refine And.intro ?_ ?_) <;> first | rfl | (simp; done) | (simp; rfl) | (simp [*]; done) | (simp [*]; rfl))
end Go.Proofs.Ytdmddoljldjjeaa
set_option linter.unusedVariables false
set_option linter.unusedSimpArgs false
namespace Go.Proofs.Ytdmddoljldjjeaa
open Go Go.Ab
set_option maxHeartbeats 4000000 in
theorem survivor_choose_con (rows_305 : List Row) (attr_306 : Int) (rule_307 : Int) (r_406 : Value × Int) (h : survivor_choose rows_305 attr_306 rule_307 = some r_406) : Con Try.prog 27 [(.slc (List.map encRow rows_305)), (.int .i64 attr_306), (.int .i64 rule_307)] (.tup [(encValue r_406.1), (.int .i64 r_406.2)]) := by
  refine ⟨Try.call27, ?_⟩
  refine pure_of_awp Try.func27 rfl Try.ntmps27 (by simp) fun X w => ?_
  show AWp _ _ _ ⟨[(0, .p (.slc (List.map encRow rows_305))), (1, .p (.int .i64 attr_306)), (2, .p (.int .i64 rule_307))], []⟩
  simp only [survivor_choose] at h
  refine awp_seq ?_
  refine awp_region ?_
  refine AL_upto (by exact rfl) (by simp only [go_sem, reduceIte, Nat.reduceAdd, Nat.reduceSub, Nat.reduceMul, Nat.reduceEqDiff, Nat.reduceLT, Nat.reduceLeDiff, Nat.reduceBEq, Int.reduceToNat, Int.reduceLT, Int.reduceLE, Int.reduceGT, Int.reduceGE, Int.reduceEq, Int.reduceBEq, Int.reduceBNe, Int.reduceNeg, reduceCtorEq]; exact rfl) ?_
  refine AL_nil ?_
  refine thenA_n ?_
  refine awp_seq ?_
  refine awp_region ?_
  refine AL_upto (by exact rfl) (by simp only [go_sem, reduceIte, Nat.reduceAdd, Nat.reduceSub, Nat.reduceMul, Nat.reduceEqDiff, Nat.reduceLT, Nat.reduceLeDiff, Nat.reduceBEq, Int.reduceToNat, Int.reduceLT, Int.reduceLE, Int.reduceGT, Int.reduceGE, Int.reduceEq, Int.reduceBEq, Int.reduceBNe, Int.reduceNeg, reduceCtorEq]; exact rfl) ?_
  refine AL_nil ?_
  refine thenA_n ?_
  refine awp_seq ?_
  refine awp_seq ?_
  refine awp_region ?_
  refine AL_upto (by exact rfl) (by simp only [go_sem, reduceIte, Nat.reduceAdd, Nat.reduceSub, Nat.reduceMul, Nat.reduceEqDiff, Nat.reduceLT, Nat.reduceLeDiff, Nat.reduceBEq, Int.reduceToNat, Int.reduceLT, Int.reduceLE, Int.reduceGT, Int.reduceGE, Int.reduceEq, Int.reduceBEq, Int.reduceBNe, Int.reduceNeg, reduceCtorEq]; exact rfl) ?_
  refine AL_nil ?_
  refine thenA_n ?_
  refine awp_block ?_
  obtain ⟨o_347, hL_348, h⟩ := Option.bind_eq_some_iff.1 h
  refine awp_loop_L (fun (s : List Value × Int) => ⟨[(0, .p (.slc (List.map encRow rows_305))), (2, .p (.int .i64 rule_307)), (4, .loc 4 1 0 0), (6, .loc 6 1 0 0), (8, .own 33 1 0 s.1.length), (16, .p (.slc (List.map encRow rows_305))), (17, .p (.int .i64 (rows_305.length : Int))), (18, .p (.int .i64 s.2))], [(4, .arr 3 1 1 [.p (.int .i64 attr_306)]), (6, .arr 25 3 1 [.p (.agg [.int .i64 0, .int .i64 0, .str []])]), (33, .arr 25 3 1 (List.map AV.p (List.map encValue s.1)))]⟩) (fun (o_405 : List Value) (e : Exit) (s' : St) => e = (.exit 0) ∧ Le ⟨Try.prog, Try.f27.ntmps, 0, X, [], fun _ => none, w⟩ s' ⟨[(0, .p (.slc (List.map encRow rows_305))), (2, .p (.int .i64 rule_307)), (4, .loc 4 1 0 0), (6, .loc 6 1 0 0), (8, .own 33 1 0 o_405.length)], [(4, .arr 3 1 1 [.p (.int .i64 attr_306)]), (6, .arr 25 3 1 [.p (.agg [.int .i64 0, .int .i64 0, .str []])]), (33, .arr 25 3 1 (List.map AV.p (List.map encValue o_405)))]⟩) (by intro o s hT; have hh := hT.1; cases hh) hL_348 (by simp only [go_sem, reduceIte, Nat.reduceAdd, Nat.reduceSub, Nat.reduceMul, Nat.reduceEqDiff, Nat.reduceLT, Nat.reduceLeDiff, Nat.reduceBEq, Int.reduceToNat, Int.reduceLT, Int.reduceLE, Int.reduceGT, Int.reduceGE, Int.reduceEq, Int.reduceBEq, Int.reduceBNe, Int.reduceNeg, reduceCtorEq]; all_goals ((repeat' refine And.intro ?_ ?_) <;> first | rfl | (simp; done) | (simp; rfl) | (simp [*]; done) | (simp [*]; rfl))) ?_ ?_
  · clear h
    intro s x h
    obtain ⟨l_320, t18_321⟩ := s
    simp only [survivor_choose_l1] at h
    show AWp _ _ _ ⟨[(0, .p (.slc (List.map encRow rows_305))), (2, .p (.int .i64 rule_307)), (4, .loc 4 1 0 0), (6, .loc 6 1 0 0), (8, .own 33 1 0 l_320.length), (16, .p (.slc (List.map encRow rows_305))), (17, .p (.int .i64 (rows_305.length : Int))), (18, .p (.int .i64 t18_321))], [(4, .arr 3 1 1 [.p (.int .i64 attr_306)]), (6, .arr 25 3 1 [.p (.agg [.int .i64 0, .int .i64 0, .str []])]), (33, .arr 25 3 1 (List.map AV.p (List.map encValue l_320)))]⟩
    refine awp_seq ?_
    refine awp_region ?_
    refine AL_upto (by exact rfl) (by simp only [go_sem, reduceIte, Nat.reduceAdd, Nat.reduceSub, Nat.reduceMul, Nat.reduceEqDiff, Nat.reduceLT, Nat.reduceLeDiff, Nat.reduceBEq, Int.reduceToNat, Int.reduceLT, Int.reduceLE, Int.reduceGT, Int.reduceGE, Int.reduceEq, Int.reduceBEq, Int.reduceBNe, Int.reduceNeg, reduceCtorEq]; exact rfl) ?_
    refine AL_nil ?_
    refine thenA_n ?_
    refine awp_seq ?_
    by_cases hb_336 : t18_321 < (rows_305.length : Int)
    · rw [if_pos hb_336] at h
      have hb_336T := eq_true hb_336
      refine awp_ct (by simp only [go_sem, reduceIte, Nat.reduceAdd, Nat.reduceSub, Nat.reduceMul, Nat.reduceEqDiff, Nat.reduceLT, Nat.reduceLeDiff, Nat.reduceBEq, Int.reduceToNat, Int.reduceLT, Int.reduceLE, Int.reduceGT, Int.reduceGE, Int.reduceEq, Int.reduceBEq, Int.reduceBNe, Int.reduceNeg, reduceCtorEq, hb_336T]) ?_
      refine awp_skip ?_
      refine thenA_n ?_
      refine awp_seq ?_
      refine awp_block ?_
      refine awp_seq ?_
      refine awp_region ?_
      obtain ⟨x_339, hx_340, h⟩ := Option.bind_eq_some_iff.1 h
      obtain ⟨hx_340a, hx_340, hx_340b⟩ := idx_some hx_340
      have hx_340A := eq_true hx_340a
      have hx_340B := eq_true hx_340b
      refine AL_upto (by exact rfl) (by simp only [go_sem, reduceIte, Nat.reduceAdd, Nat.reduceSub, Nat.reduceMul, Nat.reduceEqDiff, Nat.reduceLT, Nat.reduceLeDiff, Nat.reduceBEq, Int.reduceToNat, Int.reduceLT, Int.reduceLE, Int.reduceGT, Int.reduceGE, Int.reduceEq, Int.reduceBEq, Int.reduceBNe, Int.reduceNeg, reduceCtorEq, hb_336T, hx_340, hx_340A, hx_340B]; exact rfl) ?_
      refine AL_nil ?_
      refine thenA_n ?_
      refine awp_seq ?_
      refine awp_region ?_
      obtain ⟨x_343, hx_344, h⟩ := Option.bind_eq_some_iff.1 h
      obtain ⟨hx_344a, hx_344, hx_344b⟩ := idx_some hx_344
      have hx_344A := eq_true hx_344a
      have hx_344B := eq_true hx_344b
      refine AL_upto (by exact rfl) (by simp only [go_sem, reduceIte, Nat.reduceAdd, Nat.reduceSub, Nat.reduceMul, Nat.reduceEqDiff, Nat.reduceLT, Nat.reduceLeDiff, Nat.reduceBEq, Int.reduceToNat, Int.reduceLT, Int.reduceLE, Int.reduceGT, Int.reduceGE, Int.reduceEq, Int.reduceBEq, Int.reduceBNe, Int.reduceNeg, reduceCtorEq, hb_336T, hx_344, hx_344A, hx_344B]; exact rfl) ?_
      refine AL_nil ?_
      refine thenA_n ?_
      refine awp_seq ?_
      refine awp_region ?_
      refine AL_upto (by exact rfl) (by simp only [go_sem, reduceIte, Nat.reduceAdd, Nat.reduceSub, Nat.reduceMul, Nat.reduceEqDiff, Nat.reduceLT, Nat.reduceLeDiff, Nat.reduceBEq, Int.reduceToNat, Int.reduceLT, Int.reduceLE, Int.reduceGT, Int.reduceGE, Int.reduceEq, Int.reduceBEq, Int.reduceBNe, Int.reduceNeg, reduceCtorEq, hb_336T]; exact rfl) ?_
      refine AL_nil ?_
      refine thenA_n ?_
      by_cases hb_345 : (x_343.Kind != 0) = true
      · rw [if_pos hb_345] at h
        refine awp_ct (by simp only [go_sem, reduceIte, Nat.reduceAdd, Nat.reduceSub, Nat.reduceMul, Nat.reduceEqDiff, Nat.reduceLT, Nat.reduceLeDiff, Nat.reduceBEq, Int.reduceToNat, Int.reduceLT, Int.reduceLE, Int.reduceGT, Int.reduceGE, Int.reduceEq, Int.reduceBEq, Int.reduceBNe, Int.reduceNeg, reduceCtorEq, hb_336T, hb_345]) ?_
        refine awp_region ?_
        obtain ⟨hc_346, h⟩ := ite_some h
        refine AL_upto (by exact rfl) (by simp only [go_sem, reduceIte, Nat.reduceAdd, Nat.reduceSub, Nat.reduceMul, Nat.reduceEqDiff, Nat.reduceLT, Nat.reduceLeDiff, Nat.reduceBEq, Int.reduceToNat, Int.reduceLT, Int.reduceLE, Int.reduceGT, Int.reduceGE, Int.reduceEq, Int.reduceBEq, Int.reduceBNe, Int.reduceNeg, reduceCtorEq, hb_336T, hb_345, hc_346]; exact rfl) ?_
        refine AL_nil ?_
        refine blockA_n ?_
        refine thenA_n ?_
        refine awp_region ?_
        refine AL_upto (by exact rfl) (by simp only [go_sem, reduceIte, Nat.reduceAdd, Nat.reduceSub, Nat.reduceMul, Nat.reduceEqDiff, Nat.reduceLT, Nat.reduceLeDiff, Nat.reduceBEq, Int.reduceToNat, Int.reduceLT, Int.reduceLE, Int.reduceGT, Int.reduceGE, Int.reduceEq, Int.reduceBEq, Int.reduceBNe, Int.reduceNeg, reduceCtorEq, hb_336T, hb_345]; exact rfl) ?_
        refine AL_nil ?_
        cases h
        refine ⟨rfl, ?_⟩
        simp only [go_sem, reduceIte, Nat.reduceAdd, Nat.reduceSub, Nat.reduceMul, Nat.reduceEqDiff, Nat.reduceLT, Nat.reduceLeDiff, Nat.reduceBEq, Int.reduceToNat, Int.reduceLT, Int.reduceLE, Int.reduceGT, Int.reduceGE, Int.reduceEq, Int.reduceBEq, Int.reduceBNe, Int.reduceNeg, reduceCtorEq, hb_336T, hb_345]
        all_goals ((repeat' refine And.intro ?_ ?_) <;> first | rfl | (simp; done) | (simp; rfl) | (simp [*]; done) | (simp [*]; rfl))
      · rw [if_neg hb_345] at h
        have hb_345F := Bool.eq_false_iff.2 hb_345
        refine awp_cf (by simp only [go_sem, reduceIte, Nat.reduceAdd, Nat.reduceSub, Nat.reduceMul, Nat.reduceEqDiff, Nat.reduceLT, Nat.reduceLeDiff, Nat.reduceBEq, Int.reduceToNat, Int.reduceLT, Int.reduceLE, Int.reduceGT, Int.reduceGE, Int.reduceEq, Int.reduceBEq, Int.reduceBNe, Int.reduceNeg, reduceCtorEq, hb_336T, hb_345F]) ?_
        refine awp_skip ?_
        refine blockA_n ?_
        refine thenA_n ?_
        refine awp_region ?_
        refine AL_upto (by exact rfl) (by simp only [go_sem, reduceIte, Nat.reduceAdd, Nat.reduceSub, Nat.reduceMul, Nat.reduceEqDiff, Nat.reduceLT, Nat.reduceLeDiff, Nat.reduceBEq, Int.reduceToNat, Int.reduceLT, Int.reduceLE, Int.reduceGT, Int.reduceGE, Int.reduceEq, Int.reduceBEq, Int.reduceBNe, Int.reduceNeg, reduceCtorEq, hb_336T, hb_345F]; exact rfl) ?_
        refine AL_nil ?_
        cases h
        refine ⟨rfl, ?_⟩
        simp only [go_sem, reduceIte, Nat.reduceAdd, Nat.reduceSub, Nat.reduceMul, Nat.reduceEqDiff, Nat.reduceLT, Nat.reduceLeDiff, Nat.reduceBEq, Int.reduceToNat, Int.reduceLT, Int.reduceLE, Int.reduceGT, Int.reduceGE, Int.reduceEq, Int.reduceBEq, Int.reduceBNe, Int.reduceNeg, reduceCtorEq, hb_336T, hb_345F]
        all_goals ((repeat' refine And.intro ?_ ?_) <;> first | rfl | (simp; done) | (simp; rfl) | (simp [*]; done) | (simp [*]; rfl))
    · rw [if_neg hb_336] at h
      have hb_336T := eq_false hb_336
      refine awp_cf (by simp only [go_sem, reduceIte, Nat.reduceAdd, Nat.reduceSub, Nat.reduceMul, Nat.reduceEqDiff, Nat.reduceLT, Nat.reduceLeDiff, Nat.reduceBEq, Int.reduceToNat, Int.reduceLT, Int.reduceLE, Int.reduceGT, Int.reduceGE, Int.reduceEq, Int.reduceBEq, Int.reduceBNe, Int.reduceNeg, reduceCtorEq, hb_336T]) ?_
      refine awp_exit ?_
      refine thenA_exit ?_
      cases h
      refine ⟨rfl, ?_⟩
      simp only [go_sem, reduceIte, Nat.reduceAdd, Nat.reduceSub, Nat.reduceMul, Nat.reduceEqDiff, Nat.reduceLT, Nat.reduceLeDiff, Nat.reduceBEq, Int.reduceToNat, Int.reduceLT, Int.reduceLE, Int.reduceGT, Int.reduceGE, Int.reduceEq, Int.reduceBEq, Int.reduceBNe, Int.reduceNeg, reduceCtorEq, hb_336T]
      all_goals ((repeat' refine And.intro ?_ ?_) <;> first | rfl | (simp; done) | (simp; rfl) | (simp [*]; done) | (simp [*]; rfl))
  · intro e s' hT
    obtain ⟨l_334, rfl⟩ : ∃ z, z = o_347 := ⟨_, rfl⟩
    try simp only at h
    try simp only at hT
    obtain ⟨rfl, hle⟩ := hT
    refine Wk.to hle ?_
    clear hle
    refine blockA_here ?_
    refine thenA_n ?_
    refine awp_seq ?_
    refine awp_seq ?_
    refine awp_region ?_
    refine AL_upto (by exact rfl) (by simp only [go_sem, reduceIte, Nat.reduceAdd, Nat.reduceSub, Nat.reduceMul, Nat.reduceEqDiff, Nat.reduceLT, Nat.reduceLeDiff, Nat.reduceBEq, Int.reduceToNat, Int.reduceLT, Int.reduceLE, Int.reduceGT, Int.reduceGE, Int.reduceEq, Int.reduceBEq, Int.reduceBNe, Int.reduceNeg, reduceCtorEq]; exact rfl) ?_
    refine AL_nil ?_
    refine thenA_n ?_
    by_cases hb_349 : (((l_334.length : Nat) : Int) == 0) = true
    · rw [if_pos hb_349] at h
      refine awp_ct (by simp only [go_sem, reduceIte, Nat.reduceAdd, Nat.reduceSub, Nat.reduceMul, Nat.reduceEqDiff, Nat.reduceLT, Nat.reduceLeDiff, Nat.reduceBEq, Int.reduceToNat, Int.reduceLT, Int.reduceLE, Int.reduceGT, Int.reduceGE, Int.reduceEq, Int.reduceBEq, Int.reduceBNe, Int.reduceNeg, reduceCtorEq, hb_349]) ?_
      refine awp_seq ?_
      refine awp_drawn_walk mixed (by decide) ?_
      obtain ⟨x_350, hx_351, h⟩ := Option.bind_eq_some_iff.1 h
      have hx_351l := eq_true (lt_of_get hx_351)
      have hx_351L : ((0 : Int) < (rows_305.length : Int)) = True := eq_true (by have := lt_of_get hx_351; omega)
      refine DGo.upto (by exact rfl) (by simp only [go_sem, reduceIte, Nat.reduceAdd, Nat.reduceSub, Nat.reduceMul, Nat.reduceEqDiff, Nat.reduceLT, Nat.reduceLeDiff, Nat.reduceBEq, Int.reduceToNat, Int.reduceLT, Int.reduceLE, Int.reduceGT, Int.reduceGE, Int.reduceEq, Int.reduceBEq, Int.reduceBNe, Int.reduceNeg, reduceCtorEq, hb_349, hx_351, hx_351l, hx_351L]; exact ⟨rfl, rfl⟩) ?_
      refine DGo.fin rfl ?_
      refine thenA_n ?_
      refine awp_ret ?_
      refine thenA_ret ?_
      cases h
      refine retQ_ret (by simp only [Try.results27]; simp only [go_sem, reduceIte, Nat.reduceAdd, Nat.reduceSub, Nat.reduceMul, Nat.reduceEqDiff, Nat.reduceLT, Nat.reduceLeDiff, Nat.reduceBEq, Int.reduceToNat, Int.reduceLT, Int.reduceLE, Int.reduceGT, Int.reduceGE, Int.reduceEq, Int.reduceBEq, Int.reduceBNe, Int.reduceNeg, reduceCtorEq, hb_349]; exact rfl) ?_
      simp only [go_sem, reduceIte, Nat.reduceAdd, Nat.reduceSub, Nat.reduceMul, Nat.reduceEqDiff, Nat.reduceLT, Nat.reduceLeDiff, Nat.reduceBEq, Int.reduceToNat, Int.reduceLT, Int.reduceLE, Int.reduceGT, Int.reduceGE, Int.reduceEq, Int.reduceBEq, Int.reduceBNe, Int.reduceNeg, reduceCtorEq, hb_349]
      all_goals ((repeat' refine And.intro ?_ ?_) <;> first | rfl | (simp; done) | (simp; rfl) | (simp [*]; done) | (simp [*]; rfl))
    · rw [if_neg hb_349] at h
      have hb_349F := Bool.eq_false_iff.2 hb_349
      refine awp_cf (by simp only [go_sem, reduceIte, Nat.reduceAdd, Nat.reduceSub, Nat.reduceMul, Nat.reduceEqDiff, Nat.reduceLT, Nat.reduceLeDiff, Nat.reduceBEq, Int.reduceToNat, Int.reduceLT, Int.reduceLE, Int.reduceGT, Int.reduceGE, Int.reduceEq, Int.reduceBEq, Int.reduceBNe, Int.reduceNeg, reduceCtorEq, hb_349F]) ?_
      refine awp_skip ?_
      refine thenA_n ?_
      refine awp_seq ?_
      refine awp_region ?_
      obtain ⟨x_354, hx_355, h⟩ := Option.bind_eq_some_iff.1 h
      have hx_355l := eq_true (lt_of_get hx_355)
      have hx_355L : ((0 : Int) < (l_334.length : Int)) = True := eq_true (by have := lt_of_get hx_355; omega)
      refine AL_upto (by exact rfl) (by simp only [go_sem, reduceIte, Nat.reduceAdd, Nat.reduceSub, Nat.reduceMul, Nat.reduceEqDiff, Nat.reduceLT, Nat.reduceLeDiff, Nat.reduceBEq, Int.reduceToNat, Int.reduceLT, Int.reduceLE, Int.reduceGT, Int.reduceGE, Int.reduceEq, Int.reduceBEq, Int.reduceBNe, Int.reduceNeg, reduceCtorEq, hb_349F, hx_355, hx_355l, hx_355L]; exact rfl) ?_
      refine AL_nil ?_
      refine thenA_n ?_
      refine awp_seq ?_
      refine awp_seq ?_
      refine awp_region ?_
      obtain ⟨hc_357, h⟩ := ite_some h
      have hc_357T := eq_true hc_357
      refine AL_upto (by exact rfl) (by simp only [go_sem, reduceIte, Nat.reduceAdd, Nat.reduceSub, Nat.reduceMul, Nat.reduceEqDiff, Nat.reduceLT, Nat.reduceLeDiff, Nat.reduceBEq, Int.reduceToNat, Int.reduceLT, Int.reduceLE, Int.reduceGT, Int.reduceGE, Int.reduceEq, Int.reduceBEq, Int.reduceBNe, Int.reduceNeg, reduceCtorEq, hb_349F, hc_357T]; exact rfl) ?_
      refine AL_nil ?_
      refine thenA_n ?_
      refine awp_block ?_
      obtain ⟨o_394, hL_395, h⟩ := Option.bind_eq_some_iff.1 h
      refine awp_loop_L (fun (s : Value × Int) => ⟨[(0, .p (.slc (List.map encRow rows_305))), (2, .p (.int .i64 rule_307)), (4, .loc 4 1 0 0), (6, .loc 6 1 0 0), (8, .own 33 1 0 l_334.length), (12, .loc 12 1 0 0), (47, .own 33 1 1 (l_334.length - 1)), (48, .p (.int .i64 (((l_334.length - 1) : Nat) : Int))), (49, .p (.int .i64 s.2))], [(4, .arr 3 1 1 [.p (.int .i64 attr_306)]), (6, .arr 25 3 1 [.p (.agg [.int .i64 0, .int .i64 0, .str []])]), (12, .arr 25 3 1 [.p (encValue s.1)]), (33, .arr 25 3 1 (List.map AV.p (List.map encValue l_334)))]⟩) (fun (o_404 : Value) (e : Exit) (s' : St) => e = (.exit 2) ∧ Le ⟨Try.prog, Try.f27.ntmps, 0, X, [], fun _ => none, w⟩ s' ⟨[(0, .p (.slc (List.map encRow rows_305))), (4, .loc 4 1 0 0), (6, .loc 6 1 0 0), (12, .loc 12 1 0 0)], [(4, .arr 3 1 1 [.p (.int .i64 attr_306)]), (6, .arr 25 3 1 [.p (.agg [.int .i64 0, .int .i64 0, .str []])]), (12, .arr 25 3 1 [.p (encValue o_404)])]⟩) (by intro o s hT; have hh := hT.1; cases hh) hL_395 (by simp only [go_sem, reduceIte, Nat.reduceAdd, Nat.reduceSub, Nat.reduceMul, Nat.reduceEqDiff, Nat.reduceLT, Nat.reduceLeDiff, Nat.reduceBEq, Int.reduceToNat, Int.reduceLT, Int.reduceLE, Int.reduceGT, Int.reduceGE, Int.reduceEq, Int.reduceBEq, Int.reduceBNe, Int.reduceNeg, reduceCtorEq, hb_349F]; all_goals ((repeat' refine And.intro ?_ ?_) <;> first | rfl | (simp; done) | (simp; rfl) | (simp [*]; done) | (simp [*]; rfl))) ?_ ?_
      · clear h
        intro s x h
        obtain ⟨best_369, t49_370⟩ := s
        simp only [survivor_choose_l2] at h
        show AWp _ _ _ ⟨[(0, .p (.slc (List.map encRow rows_305))), (2, .p (.int .i64 rule_307)), (4, .loc 4 1 0 0), (6, .loc 6 1 0 0), (8, .own 33 1 0 l_334.length), (12, .loc 12 1 0 0), (47, .own 33 1 1 (l_334.length - 1)), (48, .p (.int .i64 (((l_334.length - 1) : Nat) : Int))), (49, .p (.int .i64 t49_370))], [(4, .arr 3 1 1 [.p (.int .i64 attr_306)]), (6, .arr 25 3 1 [.p (.agg [.int .i64 0, .int .i64 0, .str []])]), (12, .arr 25 3 1 [.p (encValue best_369)]), (33, .arr 25 3 1 (List.map AV.p (List.map encValue l_334)))]⟩
        refine awp_seq ?_
        refine awp_region ?_
        refine AL_upto (by exact rfl) (by simp only [go_sem, reduceIte, Nat.reduceAdd, Nat.reduceSub, Nat.reduceMul, Nat.reduceEqDiff, Nat.reduceLT, Nat.reduceLeDiff, Nat.reduceBEq, Int.reduceToNat, Int.reduceLT, Int.reduceLE, Int.reduceGT, Int.reduceGE, Int.reduceEq, Int.reduceBEq, Int.reduceBNe, Int.reduceNeg, reduceCtorEq]; exact rfl) ?_
        refine AL_nil ?_
        refine thenA_n ?_
        refine awp_seq ?_
        by_cases hb_384 : t49_370 < (((l_334.length - 1) : Nat) : Int)
        · rw [if_pos hb_384] at h
          have hb_384T := eq_true hb_384
          refine awp_ct (by simp only [go_sem, reduceIte, Nat.reduceAdd, Nat.reduceSub, Nat.reduceMul, Nat.reduceEqDiff, Nat.reduceLT, Nat.reduceLeDiff, Nat.reduceBEq, Int.reduceToNat, Int.reduceLT, Int.reduceLE, Int.reduceGT, Int.reduceGE, Int.reduceEq, Int.reduceBEq, Int.reduceBNe, Int.reduceNeg, reduceCtorEq, hb_384T]) ?_
          refine awp_skip ?_
          refine thenA_n ?_
          refine awp_seq ?_
          refine awp_block ?_
          refine awp_seq ?_
          refine awp_region ?_
          obtain ⟨x_388, hx_389, h⟩ := Option.bind_eq_some_iff.1 h
          obtain ⟨hx_389a, hx_389, hx_389b⟩ := idx_some hx_389
          have hx_389A := eq_true hx_389a
          have hx_389B := eq_true hx_389b
          obtain ⟨hp_390, hp_390n⟩ := part_get hx_389
          have hp_390N := eq_true (part_lt hp_390n hx_389a)
          refine AL_upto (by exact rfl) (by simp only [go_sem, reduceIte, Nat.reduceAdd, Nat.reduceSub, Nat.reduceMul, Nat.reduceEqDiff, Nat.reduceLT, Nat.reduceLeDiff, Nat.reduceBEq, Int.reduceToNat, Int.reduceLT, Int.reduceLE, Int.reduceGT, Int.reduceGE, Int.reduceEq, Int.reduceBEq, Int.reduceBNe, Int.reduceNeg, reduceCtorEq, hb_384T, hx_389, hx_389A, hx_389B, hp_390N, hp_390]; exact rfl) ?_
          refine AL_nil ?_
          refine thenA_n ?_
          refine awp_seq ?_
          refine awp_region ?_
          refine AL_upto (by exact rfl) (by simp only [go_sem, reduceIte, Nat.reduceAdd, Nat.reduceSub, Nat.reduceMul, Nat.reduceEqDiff, Nat.reduceLT, Nat.reduceLeDiff, Nat.reduceBEq, Int.reduceToNat, Int.reduceLT, Int.reduceLE, Int.reduceGT, Int.reduceGE, Int.reduceEq, Int.reduceBEq, Int.reduceBNe, Int.reduceNeg, reduceCtorEq, hb_384T]; exact rfl) ?_
          obtain ⟨r_391, hr_392, h⟩ := Option.bind_eq_some_iff.1 h
          refine AL_con' rfl (guard_none rfl) rfl (by simp only [go_sem, reduceIte, Nat.reduceAdd, Nat.reduceSub, Nat.reduceMul, Nat.reduceEqDiff, Nat.reduceLT, Nat.reduceLeDiff, Nat.reduceBEq, Int.reduceToNat, Int.reduceLT, Int.reduceLE, Int.reduceGT, Int.reduceGE, Int.reduceEq, Int.reduceBEq, Int.reduceBNe, Int.reduceNeg, reduceCtorEq, hb_384T]; exact rfl) (by simp only [go_sem, reduceIte, Nat.reduceAdd, Nat.reduceSub, Nat.reduceMul, Nat.reduceEqDiff, Nat.reduceLT, Nat.reduceLeDiff, Nat.reduceBEq, Int.reduceToNat, Int.reduceLT, Int.reduceLE, Int.reduceGT, Int.reduceGE, Int.reduceEq, Int.reduceBEq, Int.reduceBNe, Int.reduceNeg, reduceCtorEq, hb_384T]; all_goals ((repeat' refine And.intro ?_ ?_) <;> first | rfl | (simp; done) | (simp; rfl) | (simp [*]; done) | (simp [*]; rfl))) (survivor_better_con l_334 x_388 best_369 rule_307 _ hr_392) (.inr rfl) rfl ?_
          refine AL_nil ?_
          refine thenA_n ?_
          by_cases hb_393 : r_391 = true
          · rw [if_pos hb_393] at h
            refine awp_ct (by simp only [go_sem, reduceIte, Nat.reduceAdd, Nat.reduceSub, Nat.reduceMul, Nat.reduceEqDiff, Nat.reduceLT, Nat.reduceLeDiff, Nat.reduceBEq, Int.reduceToNat, Int.reduceLT, Int.reduceLE, Int.reduceGT, Int.reduceGE, Int.reduceEq, Int.reduceBEq, Int.reduceBNe, Int.reduceNeg, reduceCtorEq, hb_384T, hb_393]) ?_
            refine awp_region ?_
            refine AL_upto (by exact rfl) (by simp only [go_sem, reduceIte, Nat.reduceAdd, Nat.reduceSub, Nat.reduceMul, Nat.reduceEqDiff, Nat.reduceLT, Nat.reduceLeDiff, Nat.reduceBEq, Int.reduceToNat, Int.reduceLT, Int.reduceLE, Int.reduceGT, Int.reduceGE, Int.reduceEq, Int.reduceBEq, Int.reduceBNe, Int.reduceNeg, reduceCtorEq, hb_384T, hb_393]; exact rfl) ?_
            refine AL_nil ?_
            refine blockA_n ?_
            refine thenA_n ?_
            refine awp_region ?_
            refine AL_upto (by exact rfl) (by simp only [go_sem, reduceIte, Nat.reduceAdd, Nat.reduceSub, Nat.reduceMul, Nat.reduceEqDiff, Nat.reduceLT, Nat.reduceLeDiff, Nat.reduceBEq, Int.reduceToNat, Int.reduceLT, Int.reduceLE, Int.reduceGT, Int.reduceGE, Int.reduceEq, Int.reduceBEq, Int.reduceBNe, Int.reduceNeg, reduceCtorEq, hb_384T, hb_393]; exact rfl) ?_
            refine AL_nil ?_
            cases h
            refine ⟨rfl, ?_⟩
            simp only [go_sem, reduceIte, Nat.reduceAdd, Nat.reduceSub, Nat.reduceMul, Nat.reduceEqDiff, Nat.reduceLT, Nat.reduceLeDiff, Nat.reduceBEq, Int.reduceToNat, Int.reduceLT, Int.reduceLE, Int.reduceGT, Int.reduceGE, Int.reduceEq, Int.reduceBEq, Int.reduceBNe, Int.reduceNeg, reduceCtorEq, hb_384T, hb_393]
            all_goals ((repeat' refine And.intro ?_ ?_) <;> first | rfl | (simp; done) | (simp; rfl) | (simp [*]; done) | (simp [*]; rfl))
          · rw [if_neg hb_393] at h
            have hb_393F := Bool.eq_false_iff.2 hb_393
            refine awp_cf (by simp only [go_sem, reduceIte, Nat.reduceAdd, Nat.reduceSub, Nat.reduceMul, Nat.reduceEqDiff, Nat.reduceLT, Nat.reduceLeDiff, Nat.reduceBEq, Int.reduceToNat, Int.reduceLT, Int.reduceLE, Int.reduceGT, Int.reduceGE, Int.reduceEq, Int.reduceBEq, Int.reduceBNe, Int.reduceNeg, reduceCtorEq, hb_384T, hb_393F]) ?_
            refine awp_skip ?_
            refine blockA_n ?_
            refine thenA_n ?_
            refine awp_region ?_
            refine AL_upto (by exact rfl) (by simp only [go_sem, reduceIte, Nat.reduceAdd, Nat.reduceSub, Nat.reduceMul, Nat.reduceEqDiff, Nat.reduceLT, Nat.reduceLeDiff, Nat.reduceBEq, Int.reduceToNat, Int.reduceLT, Int.reduceLE, Int.reduceGT, Int.reduceGE, Int.reduceEq, Int.reduceBEq, Int.reduceBNe, Int.reduceNeg, reduceCtorEq, hb_384T, hb_393F]; exact rfl) ?_
            refine AL_nil ?_
            cases h
            refine ⟨rfl, ?_⟩
            simp only [go_sem, reduceIte, Nat.reduceAdd, Nat.reduceSub, Nat.reduceMul, Nat.reduceEqDiff, Nat.reduceLT, Nat.reduceLeDiff, Nat.reduceBEq, Int.reduceToNat, Int.reduceLT, Int.reduceLE, Int.reduceGT, Int.reduceGE, Int.reduceEq, Int.reduceBEq, Int.reduceBNe, Int.reduceNeg, reduceCtorEq, hb_384T, hb_393F]
            all_goals ((repeat' refine And.intro ?_ ?_) <;> first | rfl | (simp; done) | (simp; rfl) | (simp [*]; done) | (simp [*]; rfl))
        · rw [if_neg hb_384] at h
          have hb_384T := eq_false hb_384
          refine awp_cf (by simp only [go_sem, reduceIte, Nat.reduceAdd, Nat.reduceSub, Nat.reduceMul, Nat.reduceEqDiff, Nat.reduceLT, Nat.reduceLeDiff, Nat.reduceBEq, Int.reduceToNat, Int.reduceLT, Int.reduceLE, Int.reduceGT, Int.reduceGE, Int.reduceEq, Int.reduceBEq, Int.reduceBNe, Int.reduceNeg, reduceCtorEq, hb_384T]) ?_
          refine awp_exit ?_
          refine thenA_exit ?_
          cases h
          refine ⟨rfl, ?_⟩
          simp only [go_sem, reduceIte, Nat.reduceAdd, Nat.reduceSub, Nat.reduceMul, Nat.reduceEqDiff, Nat.reduceLT, Nat.reduceLeDiff, Nat.reduceBEq, Int.reduceToNat, Int.reduceLT, Int.reduceLE, Int.reduceGT, Int.reduceGE, Int.reduceEq, Int.reduceBEq, Int.reduceBNe, Int.reduceNeg, reduceCtorEq, hb_384T]
          all_goals ((repeat' refine And.intro ?_ ?_) <;> first | rfl | (simp; done) | (simp; rfl) | (simp [*]; done) | (simp [*]; rfl))
      · intro e s' hT
        obtain ⟨best_382, rfl⟩ : ∃ z, z = o_394 := ⟨_, rfl⟩
        try simp only at h
        try simp only at hT
        obtain ⟨rfl, hle⟩ := hT
        refine Wk.to hle ?_
        clear hle
        refine blockA_here ?_
        refine thenA_n ?_
        refine awp_seq ?_
        refine awp_region ?_
        refine AL_upto (by exact rfl) (by simp only [go_sem, reduceIte, Nat.reduceAdd, Nat.reduceSub, Nat.reduceMul, Nat.reduceEqDiff, Nat.reduceLT, Nat.reduceLeDiff, Nat.reduceBEq, Int.reduceToNat, Int.reduceLT, Int.reduceLE, Int.reduceGT, Int.reduceGE, Int.reduceEq, Int.reduceBEq, Int.reduceBNe, Int.reduceNeg, reduceCtorEq, hb_349F]; exact rfl) ?_
        obtain ⟨r_400, hr_401, h⟩ := Option.bind_eq_some_iff.1 h
        refine AL_con' rfl (guard_none rfl) rfl (by simp only [go_sem, reduceIte, Nat.reduceAdd, Nat.reduceSub, Nat.reduceMul, Nat.reduceEqDiff, Nat.reduceLT, Nat.reduceLeDiff, Nat.reduceBEq, Int.reduceToNat, Int.reduceLT, Int.reduceLE, Int.reduceGT, Int.reduceGE, Int.reduceEq, Int.reduceBEq, Int.reduceBNe, Int.reduceNeg, reduceCtorEq, hb_349F]; exact rfl) (by simp only [go_sem, reduceIte, Nat.reduceAdd, Nat.reduceSub, Nat.reduceMul, Nat.reduceEqDiff, Nat.reduceLT, Nat.reduceLeDiff, Nat.reduceBEq, Int.reduceToNat, Int.reduceLT, Int.reduceLE, Int.reduceGT, Int.reduceGE, Int.reduceEq, Int.reduceBEq, Int.reduceBNe, Int.reduceNeg, reduceCtorEq, hb_349F]; all_goals ((repeat' refine And.intro ?_ ?_) <;> first | rfl | (simp; done) | (simp; rfl) | (simp [*]; done) | (simp [*]; rfl))) (slices_IndexFunc_Row_con rows_305 (fun (y_399 : Row) => survivor_choose_1 y_399 attr_306 best_382) 53 [.imm [.int .i64 attr_306], .imm [.int .i64 best_382.Kind, .int .i64 best_382.Num, .str best_382.Str]] (fun y_399 r h => survivor_choose_1_con y_399 attr_306 best_382 r h) _ hr_401) (.inr rfl) rfl ?_
        refine AL_upto (by exact rfl) (by simp only [go_sem, reduceIte, Nat.reduceAdd, Nat.reduceSub, Nat.reduceMul, Nat.reduceEqDiff, Nat.reduceLT, Nat.reduceLeDiff, Nat.reduceBEq, Int.reduceToNat, Int.reduceLT, Int.reduceLE, Int.reduceGT, Int.reduceGE, Int.reduceEq, Int.reduceBEq, Int.reduceBNe, Int.reduceNeg, reduceCtorEq, hb_349F]; exact rfl) ?_
        refine AL_nil ?_
        refine thenA_n ?_
        refine awp_seq ?_
        refine awp_drawn_walk mixed (by decide) ?_
        obtain ⟨x_402, hx_403, h⟩ := Option.bind_eq_some_iff.1 h
        obtain ⟨hx_403a, hx_403, hx_403b⟩ := idx_some hx_403
        have hx_403A := eq_true hx_403a
        have hx_403B := eq_true hx_403b
        refine DGo.upto (by exact rfl) (by simp only [go_sem, reduceIte, Nat.reduceAdd, Nat.reduceSub, Nat.reduceMul, Nat.reduceEqDiff, Nat.reduceLT, Nat.reduceLeDiff, Nat.reduceBEq, Int.reduceToNat, Int.reduceLT, Int.reduceLE, Int.reduceGT, Int.reduceGE, Int.reduceEq, Int.reduceBEq, Int.reduceBNe, Int.reduceNeg, reduceCtorEq, hb_349F, hx_403, hx_403A, hx_403B]; exact ⟨rfl, rfl⟩) ?_
        refine DGo.fin rfl ?_
        refine thenA_n ?_
        refine awp_ret ?_
        cases h
        refine retQ_ret (by simp only [Try.results27]; simp only [go_sem, reduceIte, Nat.reduceAdd, Nat.reduceSub, Nat.reduceMul, Nat.reduceEqDiff, Nat.reduceLT, Nat.reduceLeDiff, Nat.reduceBEq, Int.reduceToNat, Int.reduceLT, Int.reduceLE, Int.reduceGT, Int.reduceGE, Int.reduceEq, Int.reduceBEq, Int.reduceBNe, Int.reduceNeg, reduceCtorEq, hb_349F]; exact rfl) ?_
        simp only [go_sem, reduceIte, Nat.reduceAdd, Nat.reduceSub, Nat.reduceMul, Nat.reduceEqDiff, Nat.reduceLT, Nat.reduceLeDiff, Nat.reduceBEq, Int.reduceToNat, Int.reduceLT, Int.reduceLE, Int.reduceGT, Int.reduceGE, Int.reduceEq, Int.reduceBEq, Int.reduceBNe, Int.reduceNeg, reduceCtorEq, hb_349F]
        all_goals ((repeat' refine And.intro ?_ ?_) <;> first | rfl | (simp; done) | (simp; rfl) | (simp [*]; done) | (simp [*]; rfl))
end Go.Proofs.Ytdmddoljldjjeaa
