/- Each function of the program computes what its Lean function says, where that has a value. -/
import Derived.Shelf.SlSortCmp.NoneTotal
import Derived.Ground.SlsfProg
import Derived.Shelf.SortM.Plain
import Derived.Shelf.SortM.SortNone
import Derived.Ground.SlgmProg
import Derived.Ground.SlgnProg
import Derived.Shelf.Small.Strs
import Derived.Test.YtlaodgbkpmdhoaaGreatDoorT1
import Derived.Test.YtlaodgbkpmdhoaaGreatDoorL1
import Derived.Test.YtlaodgbkpmdhoaaGreatDoorA3
set_option linter.unusedVariables false
set_option linter.unusedSimpArgs false
namespace Go.Proofs.YtlaodgbkpmdhoaaGreatDoor
open Go Go.Ab
theorem mixed : Tryz.prog.follows .mixedOrders = true := by kernel_rfl
@[reducible] noncomputable def cX (f : Func) (X : Nat → Prop) (w : World) (D : Prop) (hT : TabOk Tryz.prog (fun b => X b ∨ F (fun _ => none) (hget []) b) w) : Cx := ⟨Tryz.prog, f.ntmps, 0, X, [], fun _ => none, w, D, hT⟩
theorem zd {N B : Nat} {X : Nat → Prop} {H0 : List (Nat × AO)} {inj0 : Inj} {w0 : World} {D : Prop} {tb : TabOk Tryz.prog (fun b => X b ∨ F inj0 (hget H0) b) w0} {Q : Exit → St → Prop} {st : St} {id : Nat} {l : List Oper} (h : DGo ⟨Tryz.prog, N, B, X, H0, inj0, w0, D, tb⟩ l.toArray l st [] (DK ⟨Tryz.prog, N, B, X, H0, inj0, w0, D, tb⟩ l.toArray Q)) (hs : slotsOk l.toArray = true := by kernel_rfl) : AWp ⟨Tryz.prog, N, B, X, H0, inj0, w0, D, tb⟩ (.region id l.toArray true) Q st := awp_drawn_walk mixed hs h
theorem zdl (n : Nat) {N B : Nat} {X : Nat → Prop} {H0 : List (Nat × AO)} {inj0 : Inj} {w0 : World} {D : Prop} {tb : TabOk Tryz.prog (fun b => X b ∨ F inj0 (hget H0) b) w0} {Q : Exit → St → Prop} {st : St} {id : Nat} {l : List Oper} (h : DGo ⟨Tryz.prog, N, B, X, H0, inj0, w0, D, tb⟩ l.toArray (l.take n) st [] (DKL ⟨Tryz.prog, N, B, X, H0, inj0, w0, D, tb⟩ l.toArray (l.drop n) Q)) (hs : slotsOk l.toArray = true := by kernel_rfl) (hl : lastOk l.toArray n = true := by kernel_rfl) : AWp ⟨Tryz.prog, N, B, X, H0, inj0, w0, D, tb⟩ (.region id l.toArray true) Q st := awp_drawn_last n mixed hs hl h
def encFD (x : FD) : PV := .agg [.int .u32 x.Lhs, .int .u32 x.Rhs]
@[go_sem] theorem encFD_fold (x : FD) : PV.agg [.int .u32 x.Lhs, .int .u32 x.Rhs] = encFD x := rfl
@[go_sem] theorem encFD_cells (x : FD) : (encFD x).cells = [.int .u32 x.Lhs, .int .u32 x.Rhs] := rfl
@[go_sem] theorem encFD_isAgg (x : FD) : (encFD x).isAgg = true := rfl
@[go_sem] theorem encFD_isTup (x : FD) : (encFD x).isTup = false := rfl
@[go_sem] theorem encFD_flat (x : FD) : (encFD x).flat = true := rfl
def encValue (x : Value) : PV := .agg [.int .i64 x.Kind, .int .i64 x.Num, .str x.Str]
@[go_sem] theorem encValue_fold (x : Value) : PV.agg [.int .i64 x.Kind, .int .i64 x.Num, .str x.Str] = encValue x := rfl
@[go_sem] theorem encValue_cells (x : Value) : (encValue x).cells = [.int .i64 x.Kind, .int .i64 x.Num, .str x.Str] := rfl
@[go_sem] theorem encValue_isAgg (x : Value) : (encValue x).isAgg = true := rfl
@[go_sem] theorem encValue_isTup (x : Value) : (encValue x).isTup = false := rfl
@[go_sem] theorem encValue_sl (l : List Value) : ((l.map encValue).all fun y => y.cells.length == 3) = true := by simp [encValue, PV.cells]
@[go_sem] theorem encValue_ok (l : List Value) : ((l.map encValue).map AV.p).all (elemOk 3) = true := elemOkAll_map _ _ _ fun _ => ⟨rfl, rfl⟩
@[go_sem] theorem encValue_flat (x : Value) : (encValue x).flat = true := rfl
def encTerm (x : Term) : PV := .agg [.int .i64 x.Var, .int .i64 x.Attr, .int .i64 x.Value.Kind, .int .i64 x.Value.Num, .str x.Value.Str]
@[go_sem] theorem encTerm_fold (x : Term) : PV.agg [.int .i64 x.Var, .int .i64 x.Attr, .int .i64 x.Value.Kind, .int .i64 x.Value.Num, .str x.Value.Str] = encTerm x := rfl
@[go_sem] theorem encTerm_cells (x : Term) : (encTerm x).cells = [.int .i64 x.Var, .int .i64 x.Attr, .int .i64 x.Value.Kind, .int .i64 x.Value.Num, .str x.Value.Str] := rfl
@[go_sem] theorem encTerm_isAgg (x : Term) : (encTerm x).isAgg = true := rfl
@[go_sem] theorem encTerm_isTup (x : Term) : (encTerm x).isTup = false := rfl
@[go_sem] theorem encTerm_flat (x : Term) : (encTerm x).flat = true := rfl
def encAtom (x : Atom) : PV := .agg [.int .i64 x.Left.Var, .int .i64 x.Left.Attr, .int .i64 x.Left.Value.Kind, .int .i64 x.Left.Value.Num, .str x.Left.Value.Str, .int .i64 x.Op, .int .i64 x.Right.Var, .int .i64 x.Right.Attr, .int .i64 x.Right.Value.Kind, .int .i64 x.Right.Value.Num, .str x.Right.Value.Str]
@[go_sem] theorem encAtom_fold (x : Atom) : PV.agg [.int .i64 x.Left.Var, .int .i64 x.Left.Attr, .int .i64 x.Left.Value.Kind, .int .i64 x.Left.Value.Num, .str x.Left.Value.Str, .int .i64 x.Op, .int .i64 x.Right.Var, .int .i64 x.Right.Attr, .int .i64 x.Right.Value.Kind, .int .i64 x.Right.Value.Num, .str x.Right.Value.Str] = encAtom x := rfl
@[go_sem] theorem encAtom_cells (x : Atom) : (encAtom x).cells = [.int .i64 x.Left.Var, .int .i64 x.Left.Attr, .int .i64 x.Left.Value.Kind, .int .i64 x.Left.Value.Num, .str x.Left.Value.Str, .int .i64 x.Op, .int .i64 x.Right.Var, .int .i64 x.Right.Attr, .int .i64 x.Right.Value.Kind, .int .i64 x.Right.Value.Num, .str x.Right.Value.Str] := rfl
@[go_sem] theorem encAtom_isAgg (x : Atom) : (encAtom x).isAgg = true := rfl
@[go_sem] theorem encAtom_isTup (x : Atom) : (encAtom x).isTup = false := rfl
@[go_sem] theorem encAtom_flat (x : Atom) : (encAtom x).flat = true := rfl
def encDenial (x : Denial) : PV := .agg [.int .i64 x.Vars, .slc (List.map encAtom x.Atoms)]
@[go_sem] theorem encDenial_fold (x : Denial) : PV.agg [.int .i64 x.Vars, .slc (List.map encAtom x.Atoms)] = encDenial x := rfl
@[go_sem] theorem encDenial_cells (x : Denial) : (encDenial x).cells = [.int .i64 x.Vars, .slc (List.map encAtom x.Atoms)] := rfl
@[go_sem] theorem encDenial_isAgg (x : Denial) : (encDenial x).isAgg = true := rfl
@[go_sem] theorem encDenial_isTup (x : Denial) : (encDenial x).isTup = false := rfl
@[simp] theorem encDenial_mk (a_Vars : Int) (a_Atoms : List Atom) : encDenial ⟨a_Vars, a_Atoms⟩ = .agg [.int .i64 a_Vars, .slc (List.map encAtom a_Atoms)] := rfl
def encOD (x : OD) : PV := .agg [.slc (List.map (PV.int .i64) x.Lhs), .slc (List.map (PV.int .i64) x.Rhs)]
@[go_sem] theorem encOD_fold (x : OD) : PV.agg [.slc (List.map (PV.int .i64) x.Lhs), .slc (List.map (PV.int .i64) x.Rhs)] = encOD x := rfl
@[go_sem] theorem encOD_cells (x : OD) : (encOD x).cells = [.slc (List.map (PV.int .i64) x.Lhs), .slc (List.map (PV.int .i64) x.Rhs)] := rfl
@[go_sem] theorem encOD_isAgg (x : OD) : (encOD x).isAgg = true := rfl
@[go_sem] theorem encOD_isTup (x : OD) : (encOD x).isTup = false := rfl
@[simp] theorem encOD_mk (a_Lhs : List Int) (a_Rhs : List Int) : encOD ⟨a_Lhs, a_Rhs⟩ = .agg [.slc (List.map (PV.int .i64) a_Lhs), .slc (List.map (PV.int .i64) a_Rhs)] := rfl
def encDenial_order (x : Denial_order) : PV := .agg [.slc (List.map encTerm x.terms), .slc (List.map (encL (PV.int .i64)) x.known)]
@[go_sem] theorem encDenial_order_fold (x : Denial_order) : PV.agg [.slc (List.map encTerm x.terms), .slc (List.map (encL (PV.int .i64)) x.known)] = encDenial_order x := rfl
@[go_sem] theorem encDenial_order_cells (x : Denial_order) : (encDenial_order x).cells = [.slc (List.map encTerm x.terms), .slc (List.map (encL (PV.int .i64)) x.known)] := rfl
@[go_sem] theorem encDenial_order_isAgg (x : Denial_order) : (encDenial_order x).isAgg = true := rfl
@[go_sem] theorem encDenial_order_isTup (x : Denial_order) : (encDenial_order x).isTup = false := rfl
@[simp] theorem encDenial_order_mk (a_terms : List Term) (a_known : List (List Int)) : encDenial_order ⟨a_terms, a_known⟩ = .agg [.slc (List.map encTerm a_terms), .slc (List.map (encL (PV.int .i64)) a_known)] := rfl
def encRow (x : Row) : PV := .agg [.int .i64 x.ID, .slc (List.map encValue x.Values)]
@[go_sem] theorem encRow_fold (x : Row) : PV.agg [.int .i64 x.ID, .slc (List.map encValue x.Values)] = encRow x := rfl
@[go_sem] theorem encRow_cells (x : Row) : (encRow x).cells = [.int .i64 x.ID, .slc (List.map encValue x.Values)] := rfl
@[go_sem] theorem encRow_isAgg (x : Row) : (encRow x).isAgg = true := rfl
@[go_sem] theorem encRow_isTup (x : Row) : (encRow x).isTup = false := rfl
@[go_sem] theorem encRow_sl (l : List Row) : ((l.map encRow).all fun y => y.cells.length == 2) = true := by simp [encRow, PV.cells]
@[go_sem] theorem encRow_ok (l : List Row) : ((l.map encRow).map AV.p).all (elemOk 2) = true := elemOkAll_map _ _ _ fun _ => ⟨rfl, rfl⟩
@[simp] theorem encRow_mk (a_ID : Int) (a_Values : List Value) : encRow ⟨a_ID, a_Values⟩ = .agg [.int .i64 a_ID, .slc (List.map encValue a_Values)] := rfl
def encTable (x : Table) : PV := .agg [.str x.Name, .slc (List.map PV.str x.Attrs), .slc (List.map encRow x.Rows)]
@[go_sem] theorem encTable_fold (x : Table) : PV.agg [.str x.Name, .slc (List.map PV.str x.Attrs), .slc (List.map encRow x.Rows)] = encTable x := rfl
@[go_sem] theorem encTable_cells (x : Table) : (encTable x).cells = [.str x.Name, .slc (List.map PV.str x.Attrs), .slc (List.map encRow x.Rows)] := rfl
@[go_sem] theorem encTable_isAgg (x : Table) : (encTable x).isAgg = true := rfl
@[go_sem] theorem encTable_isTup (x : Table) : (encTable x).isTup = false := rfl
@[simp] theorem encTable_mk (a_Name : List UInt8) (a_Attrs : List (List UInt8)) (a_Rows : List Row) : encTable ⟨a_Name, a_Attrs, a_Rows⟩ = .agg [.str a_Name, .slc (List.map PV.str a_Attrs), .slc (List.map encRow a_Rows)] := rfl
def encArr3_int64 (x : Arr3_int64) : PV := .agg [.int .i64 x.x0, .int .i64 x.x1, .int .i64 x.x2]
@[go_sem] theorem encArr3_int64_fold (x : Arr3_int64) : PV.agg [.int .i64 x.x0, .int .i64 x.x1, .int .i64 x.x2] = encArr3_int64 x := rfl
@[go_sem] theorem encArr3_int64_cells (x : Arr3_int64) : (encArr3_int64 x).cells = [.int .i64 x.x0, .int .i64 x.x1, .int .i64 x.x2] := rfl
@[go_sem] theorem encArr3_int64_isAgg (x : Arr3_int64) : (encArr3_int64 x).isAgg = true := rfl
@[go_sem] theorem encArr3_int64_isTup (x : Arr3_int64) : (encArr3_int64 x).isTup = false := rfl
@[go_sem] theorem encArr3_int64_flat (x : Arr3_int64) : (encArr3_int64 x).flat = true := rfl
def encDrossref03_Recipe (x : Drossref03_Recipe) : PV := .agg [.int .u8 x.Attrs, .int .u8 x.Gap, .slc (List.map (encL (PV.int .u8)) x.Rows)]
@[go_sem] theorem encDrossref03_Recipe_fold (x : Drossref03_Recipe) : PV.agg [.int .u8 x.Attrs, .int .u8 x.Gap, .slc (List.map (encL (PV.int .u8)) x.Rows)] = encDrossref03_Recipe x := rfl
@[go_sem] theorem encDrossref03_Recipe_cells (x : Drossref03_Recipe) : (encDrossref03_Recipe x).cells = [.int .u8 x.Attrs, .int .u8 x.Gap, .slc (List.map (encL (PV.int .u8)) x.Rows)] := rfl
@[go_sem] theorem encDrossref03_Recipe_isAgg (x : Drossref03_Recipe) : (encDrossref03_Recipe x).isAgg = true := rfl
@[go_sem] theorem encDrossref03_Recipe_isTup (x : Drossref03_Recipe) : (encDrossref03_Recipe x).isTup = false := rfl
@[simp] theorem encDrossref03_Recipe_mk (a_Attrs : Int) (a_Gap : Int) (a_Rows : List (List Int)) : encDrossref03_Recipe ⟨a_Attrs, a_Gap, a_Rows⟩ = .agg [.int .u8 a_Attrs, .int .u8 a_Gap, .slc (List.map (encL (PV.int .u8)) a_Rows)] := rfl
def encDrossref18_Side (x : Drossref18_Side) : PV := .agg [.int .u8 x.Var, .int .u8 x.Code]
@[go_sem] theorem encDrossref18_Side_fold (x : Drossref18_Side) : PV.agg [.int .u8 x.Var, .int .u8 x.Code] = encDrossref18_Side x := rfl
@[go_sem] theorem encDrossref18_Side_cells (x : Drossref18_Side) : (encDrossref18_Side x).cells = [.int .u8 x.Var, .int .u8 x.Code] := rfl
@[go_sem] theorem encDrossref18_Side_isAgg (x : Drossref18_Side) : (encDrossref18_Side x).isAgg = true := rfl
@[go_sem] theorem encDrossref18_Side_isTup (x : Drossref18_Side) : (encDrossref18_Side x).isTup = false := rfl
@[go_sem] theorem encDrossref18_Side_flat (x : Drossref18_Side) : (encDrossref18_Side x).flat = true := rfl
def encDrossref18_Sentence (x : Drossref18_Sentence) : PV := .agg [.int .u8 x.Left.Var, .int .u8 x.Left.Code, .int .u8 x.Op, .int .u8 x.Right.Var, .int .u8 x.Right.Code]
@[go_sem] theorem encDrossref18_Sentence_fold (x : Drossref18_Sentence) : PV.agg [.int .u8 x.Left.Var, .int .u8 x.Left.Code, .int .u8 x.Op, .int .u8 x.Right.Var, .int .u8 x.Right.Code] = encDrossref18_Sentence x := rfl
@[go_sem] theorem encDrossref18_Sentence_cells (x : Drossref18_Sentence) : (encDrossref18_Sentence x).cells = [.int .u8 x.Left.Var, .int .u8 x.Left.Code, .int .u8 x.Op, .int .u8 x.Right.Var, .int .u8 x.Right.Code] := rfl
@[go_sem] theorem encDrossref18_Sentence_isAgg (x : Drossref18_Sentence) : (encDrossref18_Sentence x).isAgg = true := rfl
@[go_sem] theorem encDrossref18_Sentence_isTup (x : Drossref18_Sentence) : (encDrossref18_Sentence x).isTup = false := rfl
@[go_sem] theorem encDrossref18_Sentence_flat (x : Drossref18_Sentence) : (encDrossref18_Sentence x).flat = true := rfl
def encDrossref18_Recipe (x : Drossref18_Recipe) : PV := .agg [.int .u8 x.Vars, .slc (List.map encDrossref18_Sentence x.Atoms)]
@[go_sem] theorem encDrossref18_Recipe_fold (x : Drossref18_Recipe) : PV.agg [.int .u8 x.Vars, .slc (List.map encDrossref18_Sentence x.Atoms)] = encDrossref18_Recipe x := rfl
@[go_sem] theorem encDrossref18_Recipe_cells (x : Drossref18_Recipe) : (encDrossref18_Recipe x).cells = [.int .u8 x.Vars, .slc (List.map encDrossref18_Sentence x.Atoms)] := rfl
@[go_sem] theorem encDrossref18_Recipe_isAgg (x : Drossref18_Recipe) : (encDrossref18_Recipe x).isAgg = true := rfl
@[go_sem] theorem encDrossref18_Recipe_isTup (x : Drossref18_Recipe) : (encDrossref18_Recipe x).isTup = false := rfl
@[simp] theorem encDrossref18_Recipe_mk (a_Vars : Int) (a_Atoms : List Drossref18_Sentence) : encDrossref18_Recipe ⟨a_Vars, a_Atoms⟩ = .agg [.int .u8 a_Vars, .slc (List.map encDrossref18_Sentence a_Atoms)] := rfl
def encArr3_int (x : Arr3_int) : PV := .agg [.int .i64 x.x0, .int .i64 x.x1, .int .i64 x.x2]
@[go_sem] theorem encArr3_int_fold (x : Arr3_int) : PV.agg [.int .i64 x.x0, .int .i64 x.x1, .int .i64 x.x2] = encArr3_int x := rfl
@[go_sem] theorem encArr3_int_cells (x : Arr3_int) : (encArr3_int x).cells = [.int .i64 x.x0, .int .i64 x.x1, .int .i64 x.x2] := rfl
@[go_sem] theorem encArr3_int_isAgg (x : Arr3_int) : (encArr3_int x).isAgg = true := rfl
@[go_sem] theorem encArr3_int_isTup (x : Arr3_int) : (encArr3_int x).isTup = false := rfl
@[go_sem] theorem encArr3_int_flat (x : Arr3_int) : (encArr3_int x).flat = true := rfl
def encCell (x : Cell) : PV := .agg [.bool x.Any, .int .i64 x.Value.Kind, .int .i64 x.Value.Num, .str x.Value.Str]
@[go_sem] theorem encCell_fold (x : Cell) : PV.agg [.bool x.Any, .int .i64 x.Value.Kind, .int .i64 x.Value.Num, .str x.Value.Str] = encCell x := rfl
@[go_sem] theorem encCell_cells (x : Cell) : (encCell x).cells = [.bool x.Any, .int .i64 x.Value.Kind, .int .i64 x.Value.Num, .str x.Value.Str] := rfl
@[go_sem] theorem encCell_isAgg (x : Cell) : (encCell x).isAgg = true := rfl
@[go_sem] theorem encCell_isTup (x : Cell) : (encCell x).isTup = false := rfl
@[go_sem] theorem encCell_flat (x : Cell) : (encCell x).flat = true := rfl
def encCFD (x : CFD) : PV := .agg [.slc (List.map (PV.int .i64) x.Lhs), .int .i64 x.Rhs, .slc (List.map encCell x.Pattern)]
@[go_sem] theorem encCFD_fold (x : CFD) : PV.agg [.slc (List.map (PV.int .i64) x.Lhs), .int .i64 x.Rhs, .slc (List.map encCell x.Pattern)] = encCFD x := rfl
@[go_sem] theorem encCFD_cells (x : CFD) : (encCFD x).cells = [.slc (List.map (PV.int .i64) x.Lhs), .int .i64 x.Rhs, .slc (List.map encCell x.Pattern)] := rfl
@[go_sem] theorem encCFD_isAgg (x : CFD) : (encCFD x).isAgg = true := rfl
@[go_sem] theorem encCFD_isTup (x : CFD) : (encCFD x).isTup = false := rfl
@[simp] theorem encCFD_mk (a_Lhs : List Int) (a_Rhs : Int) (a_Pattern : List Cell) : encCFD ⟨a_Lhs, a_Rhs, a_Pattern⟩ = .agg [.slc (List.map (PV.int .i64) a_Lhs), .int .i64 a_Rhs, .slc (List.map encCell a_Pattern)] := rfl
def encArr32_uint8 (x : Arr32_uint8) : PV := .agg [.int .u8 x.x0, .int .u8 x.x1, .int .u8 x.x2, .int .u8 x.x3, .int .u8 x.x4, .int .u8 x.x5, .int .u8 x.x6, .int .u8 x.x7, .int .u8 x.x8, .int .u8 x.x9, .int .u8 x.x10, .int .u8 x.x11, .int .u8 x.x12, .int .u8 x.x13, .int .u8 x.x14, .int .u8 x.x15, .int .u8 x.x16, .int .u8 x.x17, .int .u8 x.x18, .int .u8 x.x19, .int .u8 x.x20, .int .u8 x.x21, .int .u8 x.x22, .int .u8 x.x23, .int .u8 x.x24, .int .u8 x.x25, .int .u8 x.x26, .int .u8 x.x27, .int .u8 x.x28, .int .u8 x.x29, .int .u8 x.x30, .int .u8 x.x31]
@[go_sem] theorem encArr32_uint8_fold (x : Arr32_uint8) : PV.agg [.int .u8 x.x0, .int .u8 x.x1, .int .u8 x.x2, .int .u8 x.x3, .int .u8 x.x4, .int .u8 x.x5, .int .u8 x.x6, .int .u8 x.x7, .int .u8 x.x8, .int .u8 x.x9, .int .u8 x.x10, .int .u8 x.x11, .int .u8 x.x12, .int .u8 x.x13, .int .u8 x.x14, .int .u8 x.x15, .int .u8 x.x16, .int .u8 x.x17, .int .u8 x.x18, .int .u8 x.x19, .int .u8 x.x20, .int .u8 x.x21, .int .u8 x.x22, .int .u8 x.x23, .int .u8 x.x24, .int .u8 x.x25, .int .u8 x.x26, .int .u8 x.x27, .int .u8 x.x28, .int .u8 x.x29, .int .u8 x.x30, .int .u8 x.x31] = encArr32_uint8 x := rfl
@[go_sem] theorem encArr32_uint8_cells (x : Arr32_uint8) : (encArr32_uint8 x).cells = [.int .u8 x.x0, .int .u8 x.x1, .int .u8 x.x2, .int .u8 x.x3, .int .u8 x.x4, .int .u8 x.x5, .int .u8 x.x6, .int .u8 x.x7, .int .u8 x.x8, .int .u8 x.x9, .int .u8 x.x10, .int .u8 x.x11, .int .u8 x.x12, .int .u8 x.x13, .int .u8 x.x14, .int .u8 x.x15, .int .u8 x.x16, .int .u8 x.x17, .int .u8 x.x18, .int .u8 x.x19, .int .u8 x.x20, .int .u8 x.x21, .int .u8 x.x22, .int .u8 x.x23, .int .u8 x.x24, .int .u8 x.x25, .int .u8 x.x26, .int .u8 x.x27, .int .u8 x.x28, .int .u8 x.x29, .int .u8 x.x30, .int .u8 x.x31] := rfl
@[go_sem] theorem encArr32_uint8_isAgg (x : Arr32_uint8) : (encArr32_uint8 x).isAgg = true := rfl
@[go_sem] theorem encArr32_uint8_isTup (x : Arr32_uint8) : (encArr32_uint8 x).isTup = false := rfl
@[go_sem] theorem encArr32_uint8_flat (x : Arr32_uint8) : (encArr32_uint8 x).flat = true := rfl
theorem encArr3_int64_137_key (a b : Arr3_int64) : keyEqK Tryz.prog 137 (encArr3_int64 a) (encArr3_int64 b) = some (decide (a = b)) := by
  obtain ⟨a0, a1, a2⟩ := a
  obtain ⟨b0, b1, b2⟩ := b
  simp only [encArr3_int64, keyEqK, keyB, eqC, go_sem, seval, beq_self_eq_true, Bool.true_and, Bool.and_true, if_true, Option.bind_some, Option.isSome_some]
  congr 1
  rw [Bool.eq_iff_iff]
  simp
@[go_sem] theorem encArr3_int64_137_find {V : Type} (k : Arr3_int64) (m : List (Arr3_int64 × V)) (g : V → PV) : findA Tryz.prog 137 (encArr3_int64 k) (encK encArr3_int64 m) ((encW g m).map AV.p) = some ((mget m k).map fun v => AV.p (g v)) := findA_gen _ _ _ encArr3_int64_137_key k m g
@[go_sem] theorem encArr3_int64_137_findL {V : Type} (a0 : Int) (a1 : Int) (a2 : Int) (m : List (Arr3_int64 × V)) (g : V → PV) : findA Tryz.prog 137 (.agg [.int .i64 a0, .int .i64 a1, .int .i64 a2]) (encK encArr3_int64 m) ((encW g m).map AV.p) = some ((mget m (Arr3_int64.mk a0 a1 a2)).map fun v => AV.p (g v)) := encArr3_int64_137_find (Arr3_int64.mk a0 a1 a2) m g
@[go_sem] theorem encArr3_int64_137_upd {V : Type} (k : Arr3_int64) (m : List (Arr3_int64 × V)) (g : V → PV) (v : V) : updA Tryz.prog 137 (encArr3_int64 k) (.p (g v)) (encK encArr3_int64 m) ((encW g m).map AV.p) = some (encK encArr3_int64 (mset m k v), (encW g (mset m k v)).map AV.p) := updA_gen _ _ _ encArr3_int64_137_key k m g v
@[go_sem] theorem encArr3_int64_137_updL {V : Type} (a0 : Int) (a1 : Int) (a2 : Int) (m : List (Arr3_int64 × V)) (g : V → PV) (v : V) : updA Tryz.prog 137 (.agg [.int .i64 a0, .int .i64 a1, .int .i64 a2]) (.p (g v)) (encK encArr3_int64 m) ((encW g m).map AV.p) = some (encK encArr3_int64 (mset m (Arr3_int64.mk a0 a1 a2) v), (encW g (mset m (Arr3_int64.mk a0 a1 a2) v)).map AV.p) := encArr3_int64_137_upd (Arr3_int64.mk a0 a1 a2) m g v
end Go.Proofs.YtlaodgbkpmdhoaaGreatDoor
namespace Go.Proofs
open Go Go.Ab Go.Shelf
def YtlaodgbkpmdhoaaGreatDoor.sort84_ren : Go.Shelf.Ren := ⟨fun | 5 => 84 | 8 => 128 | 7 => 127 | 19 => 156 | 20 => 157 | 10 => 147 | 11 => 148 | 12 => 149 | 13 => 150 | 14 => 151 | 15 => 152 | 16 => 153 | 17 => 154 | 18 => 155 | 30 => 175 | 31 => 176 | 32 => 177 | 33 => 178 | 34 => 179 | 35 => 140 | 40 => 184 | n => n, fun | 23 => 57 | 25 => 2 | 3 => 3 | 32 => 179 | 22 => 57 | 0 => 0 | 44 => 37 | 46 => 203 | 4 => 4 | 36 => 196 | 35 => 195 | 41 => 151 | 5 => 5 | 9 => 9 | 53 => 214 | 57 => 218 | 63 => 223 | 64 => 224 | n => n, fun | n => n⟩
theorem YtlaodgbkpmdhoaaGreatDoor.sort84 : Go.Proofs.SlLaysM.n5 Tryz.prog YtlaodgbkpmdhoaaGreatDoor.sort84_ren := {
  mixed := by kernel_rfl
  f5 := ⟨Tryz.f84.name, by decide, Tryz.func84.trans (congrArg some (by kernel_rfl))⟩
  f7 := ⟨Tryz.f127.name, by decide, Tryz.func127.trans (congrArg some (by kernel_rfl))⟩
  f8 := Tryz.func128.trans (congrArg some (by kernel_rfl))
  f10 := ⟨Tryz.f147.name, by decide, Tryz.func147.trans (congrArg some (by kernel_rfl))⟩
  f11 := ⟨Tryz.f148.name, by decide, Tryz.func148.trans (congrArg some (by kernel_rfl))⟩
  f12 := ⟨Tryz.f149.name, by decide, Tryz.func149.trans (congrArg some (by kernel_rfl))⟩
  f13 := ⟨Tryz.f150.name, by decide, Tryz.func150.trans (congrArg some (by kernel_rfl))⟩
  f14 := ⟨Tryz.f151.name, by decide, Tryz.func151.trans (congrArg some (by kernel_rfl))⟩
  f15 := ⟨Tryz.f152.name, by decide, Tryz.func152.trans (congrArg some (by kernel_rfl))⟩
  f16 := ⟨Tryz.f153.name, by decide, Tryz.func153.trans (congrArg some (by kernel_rfl))⟩
  f17 := ⟨Tryz.f154.name, by decide, Tryz.func154.trans (congrArg some (by kernel_rfl))⟩
  f18 := ⟨Tryz.f155.name, by decide, Tryz.func155.trans (congrArg some (by kernel_rfl))⟩
  f19 := Tryz.func156.trans (congrArg some (by kernel_rfl))
  f20 := Tryz.func157.trans (congrArg some (by kernel_rfl))
  f30 := ⟨Tryz.f175.name, by decide, Tryz.func175.trans (congrArg some (by kernel_rfl))⟩
  f31 := Tryz.func176.trans (congrArg some (by kernel_rfl))
  f32 := Tryz.func177.trans (congrArg some (by kernel_rfl))
  f33 := ⟨Tryz.f178.name, by decide, Tryz.func178.trans (congrArg some (by kernel_rfl))⟩
  f34 := ⟨Tryz.f179.name, by decide, Tryz.func179.trans (congrArg some (by kernel_rfl))⟩
  f35 := ⟨Tryz.f140.name, by decide, Tryz.func140.trans (congrArg some (by kernel_rfl))⟩
  f40 := ⟨Tryz.f184.name, by decide, Tryz.func184.trans (congrArg some (by kernel_rfl))⟩
  t0 := Tryz.underlying0
  a0 := Tryz.isAgg0
  z0 := Tryz.sizeOf0
  v0 := Tryz.zeroValue0
  t3 := Tryz.underlying3
  a3 := Tryz.isAgg3
  z3 := Tryz.sizeOf3
  v3 := Tryz.zeroValue3
  t4 := Tryz.underlying4
  a4 := Tryz.isAgg4
  z4 := Tryz.sizeOf4
  v4 := Tryz.zeroValue4
  t5 := Tryz.underlying5
  a5 := Tryz.isAgg5
  z5 := Tryz.sizeOf5
  v5 := Tryz.zeroValue5
  t9 := Tryz.underlying9
  a9 := Tryz.isAgg9
  z9 := Tryz.sizeOf9
  v9 := Tryz.zeroValue9
  t22 := Tryz.underlying57
  a22 := Tryz.isAgg57
  z22 := Tryz.sizeOf57
  v22 := Tryz.zeroValue57
  t23 := Tryz.underlying57
  a23 := Tryz.isAgg57
  z23 := Tryz.sizeOf57
  v23 := Tryz.zeroValue57
  t25 := Tryz.underlying2
  a25 := Tryz.isAgg2
  z25 := Tryz.sizeOf2
  v25 := Tryz.zeroValue2
  t32 := Tryz.underlying179
  a32 := Tryz.isAgg179
  z32 := Tryz.sizeOf179
  v32 := Tryz.zeroValue179
  t35 := Tryz.underlying195
  a35 := Tryz.isAgg195
  z35 := Tryz.sizeOf195
  v35 := Tryz.zeroValue195
  t36 := Tryz.underlying196
  a36 := Tryz.isAgg196
  z36 := Tryz.sizeOf196
  v36 := Tryz.zeroValue196
  t41 := Tryz.underlying151
  a41 := Tryz.isAgg151
  z41 := Tryz.sizeOf151
  v41 := Tryz.zeroValue151
  t44 := Tryz.underlying37
  a44 := Tryz.isAgg37
  z44 := Tryz.sizeOf37
  v44 := Tryz.zeroValue37
  t46 := Tryz.underlying203
  a46 := Tryz.isAgg203
  z46 := Tryz.sizeOf203
  v46 := Tryz.zeroValue203
  t53 := Tryz.underlying214
  a53 := Tryz.isAgg214
  z53 := Tryz.sizeOf214
  v53 := Tryz.zeroValue214
  t57 := Tryz.underlying218
  a57 := Tryz.isAgg218
  z57 := Tryz.sizeOf218
  v57 := Tryz.zeroValue218
  t63 := Tryz.underlying223
  a63 := Tryz.isAgg223
  z63 := Tryz.sizeOf223
  v63 := Tryz.zeroValue223
  t64 := Tryz.underlying224
  a64 := Tryz.isAgg224
  z64 := Tryz.sizeOf224
  v64 := Tryz.zeroValue224 }
def YtlaodgbkpmdhoaaGreatDoor.sort85_ren : Go.Shelf.Ren := ⟨fun | 6 => 85 | 15 => 128 | 14 => 129 | 28 => 156 | 29 => 157 | 20 => 158 | 21 => 159 | 22 => 160 | 23 => 161 | 24 => 162 | 25 => 163 | 26 => 164 | 27 => 165 | 46 => 180 | 47 => 176 | 48 => 177 | 49 => 181 | 50 => 182 | 57 => 185 | n => n, fun | 22 => 52 | 24 => 57 | 25 => 140 | 3 => 3 | 39 => 179 | 0 => 0 | 53 => 37 | 55 => 203 | 4 => 4 | 46 => 196 | 45 => 195 | 50 => 151 | 5 => 5 | 9 => 9 | 66 => 214 | 70 => 218 | 76 => 223 | 77 => 224 | n => n, fun | n => n⟩
theorem YtlaodgbkpmdhoaaGreatDoor.sort85 : Go.Proofs.SlLaysF.n6 Tryz.prog YtlaodgbkpmdhoaaGreatDoor.sort85_ren := {
  mixed := by kernel_rfl
  f6 := ⟨Tryz.f85.name, by decide, Tryz.func85.trans (congrArg some (by kernel_rfl))⟩
  f14 := ⟨Tryz.f129.name, by decide, Tryz.func129.trans (congrArg some (by kernel_rfl))⟩
  f15 := Tryz.func128.trans (congrArg some (by kernel_rfl))
  f20 := ⟨Tryz.f158.name, by decide, Tryz.func158.trans (congrArg some (by kernel_rfl))⟩
  f21 := ⟨Tryz.f159.name, by decide, Tryz.func159.trans (congrArg some (by kernel_rfl))⟩
  f22 := ⟨Tryz.f160.name, by decide, Tryz.func160.trans (congrArg some (by kernel_rfl))⟩
  f23 := ⟨Tryz.f161.name, by decide, Tryz.func161.trans (congrArg some (by kernel_rfl))⟩
  f24 := ⟨Tryz.f162.name, by decide, Tryz.func162.trans (congrArg some (by kernel_rfl))⟩
  f25 := ⟨Tryz.f163.name, by decide, Tryz.func163.trans (congrArg some (by kernel_rfl))⟩
  f26 := ⟨Tryz.f164.name, by decide, Tryz.func164.trans (congrArg some (by kernel_rfl))⟩
  f27 := ⟨Tryz.f165.name, by decide, Tryz.func165.trans (congrArg some (by kernel_rfl))⟩
  f28 := Tryz.func156.trans (congrArg some (by kernel_rfl))
  f29 := Tryz.func157.trans (congrArg some (by kernel_rfl))
  f46 := ⟨Tryz.f180.name, by decide, Tryz.func180.trans (congrArg some (by kernel_rfl))⟩
  f47 := Tryz.func176.trans (congrArg some (by kernel_rfl))
  f48 := Tryz.func177.trans (congrArg some (by kernel_rfl))
  f49 := ⟨Tryz.f181.name, by decide, Tryz.func181.trans (congrArg some (by kernel_rfl))⟩
  f50 := ⟨Tryz.f182.name, by decide, Tryz.func182.trans (congrArg some (by kernel_rfl))⟩
  f57 := ⟨Tryz.f185.name, by decide, Tryz.func185.trans (congrArg some (by kernel_rfl))⟩
  t0 := Tryz.underlying0
  a0 := Tryz.isAgg0
  z0 := Tryz.sizeOf0
  v0 := Tryz.zeroValue0
  t3 := Tryz.underlying3
  a3 := Tryz.isAgg3
  z3 := Tryz.sizeOf3
  v3 := Tryz.zeroValue3
  t4 := Tryz.underlying4
  a4 := Tryz.isAgg4
  z4 := Tryz.sizeOf4
  v4 := Tryz.zeroValue4
  t5 := Tryz.underlying5
  a5 := Tryz.isAgg5
  z5 := Tryz.sizeOf5
  v5 := Tryz.zeroValue5
  t9 := Tryz.underlying9
  a9 := Tryz.isAgg9
  z9 := Tryz.sizeOf9
  v9 := Tryz.zeroValue9
  t22 := Tryz.underlying52
  a22 := Tryz.isAgg52
  z22 := Tryz.sizeOf52
  v22 := Tryz.zeroValue52
  a24 := Tryz.isAgg57
  z24 := Tryz.sizeOf57
  t25 := Tryz.underlying140
  a25 := Tryz.isAgg140
  z25 := Tryz.sizeOf140
  v25 := Tryz.zeroValue140
  t39 := Tryz.underlying179
  a39 := Tryz.isAgg179
  z39 := Tryz.sizeOf179
  v39 := Tryz.zeroValue179
  t45 := Tryz.underlying195
  a45 := Tryz.isAgg195
  z45 := Tryz.sizeOf195
  v45 := Tryz.zeroValue195
  t46 := Tryz.underlying196
  a46 := Tryz.isAgg196
  z46 := Tryz.sizeOf196
  v46 := Tryz.zeroValue196
  t50 := Tryz.underlying151
  a50 := Tryz.isAgg151
  z50 := Tryz.sizeOf151
  v50 := Tryz.zeroValue151
  t53 := Tryz.underlying37
  a53 := Tryz.isAgg37
  z53 := Tryz.sizeOf37
  v53 := Tryz.zeroValue37
  t55 := Tryz.underlying203
  a55 := Tryz.isAgg203
  z55 := Tryz.sizeOf203
  v55 := Tryz.zeroValue203
  t66 := Tryz.underlying214
  a66 := Tryz.isAgg214
  z66 := Tryz.sizeOf214
  v66 := Tryz.zeroValue214
  t70 := Tryz.underlying218
  a70 := Tryz.isAgg218
  z70 := Tryz.sizeOf218
  v70 := Tryz.zeroValue218
  t76 := Tryz.underlying223
  a76 := Tryz.isAgg223
  z76 := Tryz.sizeOf223
  v76 := Tryz.zeroValue223
  t77 := Tryz.underlying224
  a77 := Tryz.isAgg224
  z77 := Tryz.sizeOf224
  v77 := Tryz.zeroValue224 }
theorem YtlaodgbkpmdhoaaGreatDoor.srt84 : SrtI Tryz.prog 84 := ⟨Tryz.call84, fun blk off cap zs w hH hb hs => AnyM.slices_Sort_int YtlaodgbkpmdhoaaGreatDoor.sort84 blk off cap zs w hH hb hs, fun p cap w => AnyM.slices_Sort_int_none YtlaodgbkpmdhoaaGreatDoor.sort84 p cap w⟩
theorem YtlaodgbkpmdhoaaGreatDoor.srt85 : Srt1 Tryz.prog 85 := ⟨Tryz.call85, fun enc h1 cf hO g cb blk off cap d w eg hc hH hb hs => Any.slices_SortFunc_eq YtlaodgbkpmdhoaaGreatDoor.sort85 enc h1 cf hO g cb blk off cap d w eg hc hH hb hs, fun p cap fv w => AnyF.slices_SortFunc_none { YtlaodgbkpmdhoaaGreatDoor.sort85 with } p cap fv w⟩
end Go.Proofs
namespace Go.Proofs
open Go Go.Ab Go.Shelf
def YtlaodgbkpmdhoaaGreatDoor.clone23_ren : Go.Shelf.Ren := ⟨fun | 41 => 23 | n => n, fun | 22 => 62 | 23 => 3 | 4 => 4 | n => n, fun | n => n⟩
theorem YtlaodgbkpmdhoaaGreatDoor.clone23 : Go.Proofs.SlLaysE0.n41 Tryz.prog YtlaodgbkpmdhoaaGreatDoor.clone23_ren := {
  mixed := by kernel_rfl
  f41 := ⟨Tryz.f23.name, by decide, Tryz.func23.trans (congrArg some (by kernel_rfl))⟩
  t4 := Tryz.underlying4
  a4 := Tryz.isAgg4
  z4 := Tryz.sizeOf4
  v4 := Tryz.zeroValue4
  t22 := Tryz.underlying62
  a22 := Tryz.isAgg62
  z22 := Tryz.sizeOf62
  v22 := Tryz.zeroValue62 }
def YtlaodgbkpmdhoaaGreatDoor.clone126_ren : Go.Shelf.Ren := ⟨fun | 41 => 126 | n => n, fun | 22 => 39 | 23 => 55 | 4 => 4 | n => n, fun | n => n⟩
theorem YtlaodgbkpmdhoaaGreatDoor.clone126 : Go.Proofs.SlLaysE0.n41 Tryz.prog YtlaodgbkpmdhoaaGreatDoor.clone126_ren := {
  mixed := by kernel_rfl
  f41 := ⟨Tryz.f126.name, by decide, Tryz.func126.trans (congrArg some (by kernel_rfl))⟩
  t4 := Tryz.underlying4
  a4 := Tryz.isAgg4
  z4 := Tryz.sizeOf4
  v4 := Tryz.zeroValue4
  t22 := Tryz.underlying39
  a22 := Tryz.isAgg39
  z22 := Tryz.sizeOf39
  v22 := Tryz.zeroValue39 }
theorem YtlaodgbkpmdhoaaGreatDoor.cln23 : Cln Tryz.prog 23 3 1 8 := AbE.cln YtlaodgbkpmdhoaaGreatDoor.clone23 Tryz.call23 Tryz.t3 _ _ _ (by kernel_rfl) rfl rfl rfl rfl (by decide)
theorem YtlaodgbkpmdhoaaGreatDoor.cln126 : Cln Tryz.prog 126 55 2 32 := AbE.cln YtlaodgbkpmdhoaaGreatDoor.clone126 Tryz.call126 Tryz.t55 _ _ _ (by kernel_rfl) rfl rfl rfl rfl (by decide)
end Go.Proofs
set_option linter.unusedVariables false
set_option linter.unusedSimpArgs false
namespace Go.Proofs.YtlaodgbkpmdhoaaGreatDoor
open Go Go.Ab
set_option maxHeartbeats 4000000 in
theorem closure_Valid_con {D : Prop} (n1 : Int) (f2 : List FD) (r3 : Int) (h : closure_Valid n1 f2 = some r3) : Con D Tryz.prog 56 [(.int .i64 n1), (.slc (List.map encFD f2))] (.int .i64 r3) := by
 refine zP Tryz.call56 Tryz.func56 rfl Tryz.ntmps56 fun X w hT => ?_
 simp only [closure_Valid] at h
 refine zs (zr ?_)
 refine zU (zl (zn (zs (zs (zr ?_)))))
 refine zU ?_
 rcases zI h with ⟨h4, h⟩ | ⟨h4, h⟩
 refine zw 9 true ?_
 refine zh ?_
 refine zU (zl (zn ?_))
 refine zi (zs (zr ?_))
 refine zU (zl (zn (zq (zt ?_))))
 cases h
 exact zT Tryz.results56
 refine zw 9 false ?_
 refine zg ?_
 refine zg ?_
 refine zU (zl (zn ?_))
 rcases zI h with ⟨h5, h⟩ | ⟨h5, h⟩
 refine zi (zs (zr ?_))
 refine zU (zl (zn (zq (zt ?_))))
 cases h
 exact zT Tryz.results56
 refine zj (zk (zn (zs (zs (zr ?_)))))
 refine zU (zl (zn ?_))
 rcases zI h with ⟨h6, h⟩ | ⟨h6, h⟩
 refine zi (zs (zr ?_))
 refine zU (zl (zn (zq (zt ?_))))
 cases h
 exact zT Tryz.results56
 refine zj (zk (zn (zs (zs (zr ?_)))))
 refine zU (zl (zn (zb ?_)))
 obtain ⟨o7, h8, h⟩ := zB h
 refine zO (fun (s : Int) => ⟨[(0, .p (.int .i64 n1)), (16, .p (.slc (List.map encFD f2))), (17, .p (.int .i64 (f2.length : Int))), (18, .p (.int .i64 s))], []⟩) (fun (o : (Unit) ⊕ (Int)) => match o with | .inl o9 => tE (cX Tryz.f56 X w D hT) (.exit 0) ⟨[], []⟩ | .inr o10 => tR Tryz.prog Tryz.f56 (.int .i64 o10)) h8 ?_ ?_
 clear h h4 h5 h6 h8
 intro t11 x h
 simp only [closure_Valid_l1] at h
 refine zs (zr ?_)
 refine zU (zl (zn (zs ?_)))
 rcases zI h with ⟨h12, h⟩ | ⟨h12, h⟩
 refine zi (zk (zn (zs (zb (zs (zr ?_))))))
 obtain ⟨x13, h14, h14a, h14b, h⟩ := zX h
 refine zU (zl (zn (zs (zr ?_))))
 obtain ⟨h15, h⟩ := ite_none h
 refine zU (zl (zn ?_))
 rcases zI h with ⟨h16, h⟩ | ⟨h16, h⟩
 refine zi (zs (zr ?_))
 refine zU (zl (zn (zq (yr (zt ?_)))))
 cases h
 exact ⟨rfl, zT Tryz.results56⟩
 refine zj (zk (yn (zn (zr ?_))))
 refine zU (zl ?_)
 cases h
 exact ⟨rfl, zE⟩
 refine zj (zx (ze ?_))
 cases h
 exact ⟨rfl, zE⟩
 rcases o7 with ⟨⟩ | r17
 try simp only at h
 refine zA (yh (zn (zs (zr ?_))))
 refine zU (zl (zn (zq ?_)))
 cases h
 exact zT Tryz.results56
 try simp only at h
 refine zZ fun s hq => ?_
 refine yr (zt ?_)
 cases h
 exact hq
end Go.Proofs.YtlaodgbkpmdhoaaGreatDoor
set_option linter.unusedVariables false
set_option linter.unusedSimpArgs false
namespace Go.Proofs.YtlaodgbkpmdhoaaGreatDoor
open Go Go.Ab
set_option maxRecDepth 20000 in
set_option maxHeartbeats 4000000 in
theorem bits_TrailingZeros32_con {D : Prop} (x : Int) (r : Int) (h : bits_TrailingZeros32 x = some r) : Con D Tryz.prog 108 [(.int .u32 x)] (.int .i64 r) := by
 obtain ⟨hx, h⟩ := ite_some h
 obtain ⟨n, rfl⟩ := Int.eq_ofNat_of_zero_le hx.1
 have hn : n < 4294967296 := by omega
 replace h := Option.some.inj h
 subst h
 rw [Int.toNat_natCast]
 refine zP Tryz.call108 Tryz.func108 rfl Tryz.ntmps108 fun X w hT => ?_
 refine zs (zr ?_)
 refine zU (zl (zn ?_))
 by_cases h0 : n = 0
 subst h0
 refine zs (zs (zr ?_))
 refine zU (zl (zn ?_))
 refine zi (zs (zr ?_))
 refine zU (zl (zn (zq (zt ?_))))
 exact zT Tryz.results108
 have hb : ((n : Int) == 0) = false := by simp; omega
 refine zs (zs (zr ?_))
 refine zU (zl (zn ?_))
 refine zj (zk (zn (zs (zr ?_))))
 refine zW 6 ?_
 refine zTab (g := 0) (x := .tmp 10) (k := .u32) (tzI n) (by kernel_rfl) Tryz.underlying188 (tzI_lt n) (by simp only [go_sem, seval, *]; exact tz_idx h0 hn) ?_
 have hw := @wrap_i64t n
 refine zU (zl (zn (zq ?_)))
 have ht : tz32 n = tabNs.getD (tzI n) 0 := if_neg h0
 rw [ht]
 exact zT Tryz.results108
end Go.Proofs.YtlaodgbkpmdhoaaGreatDoor
set_option linter.unusedVariables false
set_option linter.unusedSimpArgs false
namespace Go.Proofs.YtlaodgbkpmdhoaaGreatDoor
open Go Go.Ab
set_option maxHeartbeats 4000000 in
theorem attrset_Members_con {D : Prop} (s1 : Int) (r2 : List Int) (h : attrset_Members s1 = some r2) : Con D Tryz.prog 57 [(.int .u32 s1)] (.slc (List.map (PV.int .i64) r2)) := by
 refine zP Tryz.call57 Tryz.func57 rfl Tryz.ntmps57 fun X w hT => ?_
 simp only [attrset_Members] at h
 refine zs (zr ?_)
 refine zU (zl (zn (zs (zr ?_))))
 refine zU (zl (zn (zs (zb ?_))))
 obtain ⟨o3, h4, h⟩ := zB h
 refine zO (fun (s : Int × List Int) => ⟨[(0, .p (.int .u32 s.1)), (3, .own 14 1 0 s.2.length)], [(14, .arr 3 1 1 (List.map AV.p (List.map (PV.int .i64) s.2)))]⟩) (fun (o5 : List Int) => tE (cX Tryz.f57 X w D hT) (.exit 0) ⟨[(3, .own 14 1 0 o5.length)], [(14, .arr 3 1 1 (List.map AV.p (List.map (PV.int .i64) o5)))]⟩) h4 ?_ ?_
 clear h h4
 intro s x h
 obtain ⟨s6, o7⟩ := s
 simp only [attrset_Members_l1] at h
 dsimp only
 refine zs (zs (zr ?_))
 refine zU (zl (zn ?_))
 rcases zI h with ⟨h8, h⟩ | ⟨h8, h⟩
 refine zi (zk (zn (zs (zb (zr ?_)))))
 refine zU ?_
 obtain ⟨r9, h10, h⟩ := zB h
 refine zc (bits_TrailingZeros32_con s6 _ h10) ?_
 obtain ⟨h11, h⟩ := ite_some h
 refine zU (zl (yn (zn (zr ?_))))
 refine zU (zl ?_)
 cases h
 exact ⟨rfl, zE⟩
 refine zj (zx (ze ?_))
 cases h
 exact ⟨rfl, zE⟩
 try simp only at h
 refine zA (yh (zn (zs (zr ?_))))
 refine zU (zl (zn (zq ?_)))
 cases h
 exact zT Tryz.results57
end Go.Proofs.YtlaodgbkpmdhoaaGreatDoor
set_option linter.unusedVariables false
set_option linter.unusedSimpArgs false
namespace Go.Proofs.YtlaodgbkpmdhoaaGreatDoor
open Go Go.Ab
set_option maxHeartbeats 4000000 in
theorem denial_of_con {D : Prop} (v1 : Int) (a2 : Int) (r3 : Term) (h : denial_of v1 a2 = some r3) : Con D Tryz.prog 69 [(.int .i64 v1), (.int .i64 a2)] (encTerm r3) := by
 refine zP Tryz.call69 Tryz.func69 rfl Tryz.ntmps69 fun X w hT => ?_
 simp only [denial_of] at h
 refine zs (zr ?_)
 refine zU (zl (zn (zs (zr ?_))))
 refine zU (zl (zn (zq ?_)))
 cases h
 exact zT Tryz.results69
end Go.Proofs.YtlaodgbkpmdhoaaGreatDoor
set_option linter.unusedVariables false
set_option linter.unusedSimpArgs false
namespace Go.Proofs.YtlaodgbkpmdhoaaGreatDoor
open Go Go.Ab
set_option maxHeartbeats 4000000 in
theorem denial_both_con {D : Prop} (o1 : Int) (a2 : Int) (r3 : Atom) (h : denial_both o1 a2 = some r3) : Con D Tryz.prog 58 [(.int .i64 o1), (.int .i64 a2)] (encAtom r3) := by
 refine zP Tryz.call58 Tryz.func58 rfl Tryz.ntmps58 fun X w hT => ?_
 simp only [denial_both] at h
 refine zs (zr ?_)
 refine zU (zl (zn (zs (zr ?_))))
 refine zU ?_
 obtain ⟨r4, h5, h⟩ := zB h
 refine zc (denial_of_con 1 a2 _ h5) ?_
 refine zU ?_
 obtain ⟨r6, h7, h⟩ := zB h
 refine zc (denial_of_con 2 a2 _ h7) ?_
 refine zU (zl (zn (zq ?_)))
 cases h
 exact zT Tryz.results58
end Go.Proofs.YtlaodgbkpmdhoaaGreatDoor
set_option linter.unusedVariables false
set_option linter.unusedSimpArgs false
namespace Go.Proofs.YtlaodgbkpmdhoaaGreatDoor
open Go Go.Ab
set_option maxHeartbeats 4000000 in
theorem denial_FromFD_con {D : Prop} (n1 : Int) (f2 : FD) (r3 : List Denial × Int) (h : denial_FromFD n1 f2 = some r3) : Con D Tryz.prog 16 [(.int .i64 n1), (encFD f2)] (.tup [(.slc (List.map encDenial r3.1)), (.int .i64 r3.2)]) := by
 refine zP Tryz.call16 Tryz.func16 rfl Tryz.ntmps16 fun X w hT => ?_
 simp only [denial_FromFD] at h
 refine zs (zr ?_)
 refine zU (zl (zn (zs (zs (zr ?_)))))
 refine zU ?_
 obtain ⟨r4, h5, h⟩ := zB h
 refine zc (closure_Valid_con n1 [f2] _ h5) ?_
 refine zU (zl (zn (zs (zr ?_))))
 refine zU (zl (zn ?_))
 rcases zI h with ⟨h6, h⟩ | ⟨h6, h⟩
 refine zi (zs (zr ?_))
 refine zU (zl (zn (zq (zt ?_))))
 cases h
 exact zT Tryz.results16
 refine zj (zk (zn (zs (zr ?_))))
 refine zU (zl (zn (zs (zs (zr ?_)))))
 refine zU ?_
 obtain ⟨r7, h8, h⟩ := zB h
 refine zc (attrset_Members_con (IntKind.u32.wrap ((BitVec.ofInt 32 f2.Rhs &&& ~~~ (BitVec.ofInt 32 f2.Lhs)).toNat : Int)) _ h8) ?_
 refine zU (zl (zn (zb ?_)))
 obtain ⟨o9, h10, h⟩ := zB h
 refine zO (fun (s : List Denial × Int) => ⟨[(3, .loc 3 1 0 0), (7, .own 58 1 0 s.1.length), (25, .p (.slc (List.map (PV.int .i64) r7))), (26, .p (.int .i64 (r7.length : Int))), (27, .p (.int .i64 s.2))], [(3, .arr 46 2 1 [.p (encFD f2)]), (58, .arr 24 2 1 (List.map AV.p (List.map encDenial s.1)))]⟩) (fun (o11 : List Denial) => tE (cX Tryz.f16 X w D hT) (.exit 0) ⟨[(7, .own 58 1 0 o11.length)], [(58, .arr 24 2 1 (List.map AV.p (List.map encDenial o11)))]⟩) h10 ?_ ?_
 clear h h5 h6 h8 h10
 intro s x h
 obtain ⟨o12, t13⟩ := s
 simp only [denial_FromFD_l4] at h
 dsimp only
 refine zs (zr ?_)
 refine zU (zl (zn (zs ?_)))
 rcases zI h with ⟨h14, h⟩ | ⟨h14, h⟩
 refine zi (zk (zn (zs (zb (zs (zr ?_))))))
 obtain ⟨x15, h16, h16a, h16b, h⟩ := zX h
 refine zU (zl (zn (zs (zr ?_))))
 refine zU (zl (zn (zs (zs (zr ?_)))))
 refine zU ?_
 obtain ⟨r17, h18, h⟩ := zB h
 refine zc (attrset_Members_con f2.Lhs _ h18) ?_
 refine zU (zl (zn (zb ?_)))
 obtain ⟨d19, h20, h⟩ := zB h
 refine zO (fun (s : List Atom × Int) => ⟨[(3, .loc 3 1 0 0), (7, .own 58 1 0 o12.length), (9, .p (.int .i64 x15)), (10, .loc 10 1 0 0), (25, .p (.slc (List.map (PV.int .i64) r7))), (26, .p (.int .i64 (r7.length : Int))), (27, .p (.int .i64 t13)), (34, .p (.slc (List.map (PV.int .i64) r17))), (35, .p (.int .i64 (r17.length : Int))), (36, .p (.int .i64 s.2))], [(3, .arr 46 2 1 [.p (encFD f2)]), (10, .arr 24 2 1 [.agg [.p (.int .i64 2), .own 45 1 0 s.1.length]]), (45, .arr 31 11 1 (List.map AV.p (List.map encAtom s.1))), (58, .arr 24 2 1 (List.map AV.p (List.map encDenial o12)))]⟩) (fun (o21 : List Atom) => tE (cX Tryz.f16 X w D hT) (.exit 2) ⟨[(3, .loc 3 1 0 0), (7, .own 58 1 0 o12.length), (9, .p (.int .i64 x15)), (10, .loc 10 1 0 0), (25, .p (.slc (List.map (PV.int .i64) r7))), (26, .p (.int .i64 (r7.length : Int))), (27, .p (.int .i64 t13))], [(3, .arr 46 2 1 [.p (encFD f2)]), (10, .arr 24 2 1 [.agg [.p (.int .i64 2), .own 45 1 0 o21.length]]), (45, .arr 31 11 1 (List.map AV.p (List.map encAtom o21))), (58, .arr 24 2 1 (List.map AV.p (List.map encDenial o12)))]⟩) h20 ?_ ?_
 clear h h14 h16 h16a h16b h18 h20
 intro s x h
 obtain ⟨d22, t23⟩ := s
 simp only [denial_FromFD_l3] at h
 dsimp only
 refine zs (zr ?_)
 refine zU (zl (zn (zs ?_)))
 rcases zI h with ⟨h24, h⟩ | ⟨h24, h⟩
 refine zi (zk (zn (zs (zb (zs (zr ?_))))))
 obtain ⟨x25, h26, h26a, h26b, h⟩ := zX h
 refine zU (zl (zn (zd ?_)))
 refine yU ?_
 obtain ⟨r27, h28, h⟩ := zB h
 refine yc (denial_both_con 1 x25 _ h28) ?_
 obtain ⟨h29, h⟩ := ite_some h
 refine yU ?_
 refine yd (yn (zn (zr ?_)))
 refine zU (zl ?_)
 cases h
 exact ⟨rfl, zE⟩
 refine zj (zx (ze ?_))
 cases h
 exact ⟨rfl, zE⟩
 try simp only at h
 refine zA (yh (zn (zs (zd ?_))))
 refine yU ?_
 obtain ⟨r30, h31, h⟩ := zB h
 refine yc (denial_both_con 2 x15 _ h31) ?_
 obtain ⟨h32, h⟩ := ite_some h
 refine yU ?_
 refine yd (zn (zr ?_))
 refine zW 3 ?_
 refine zM ⟨[(3, .loc 3 1 0 0), (25, .p (.slc (List.map (PV.int .i64) r7))), (26, .p (.int .i64 (r7.length : Int))), (27, .p (.int .i64 t13)), (55, .own 58 1 0 o12.length), (57, .own 57 1 0 1)], [(3, .arr 46 2 1 [.p (encFD f2)]), (57, .arr 24 2 1 [.p (.agg [.int .i64 2, .slc (List.map encAtom (d19 ++ [r30]))])]), (58, .arr 24 2 1 (List.map AV.p (List.map encDenial o12)))]⟩ ?_
 obtain ⟨h33, h⟩ := ite_some h
 refine zU (zl (yn (zn (zr ?_))))
 refine zU (zl ?_)
 cases h
 exact ⟨rfl, zE⟩
 refine zj (zx (ze ?_))
 cases h
 exact ⟨rfl, zE⟩
 try simp only at h
 refine zA (yh (zn (zs (zr ?_))))
 refine zU (zl (zn (zq ?_)))
 cases h
 exact zT Tryz.results16
end Go.Proofs.YtlaodgbkpmdhoaaGreatDoor
set_option linter.unusedVariables false
set_option linter.unusedSimpArgs false
namespace Go.Proofs.YtlaodgbkpmdhoaaGreatDoor
open Go Go.Ab
set_option maxRecDepth 20000 in
set_option maxHeartbeats 4000000 in
theorem drossref18_Same_con {D : Prop} (a1 : List Denial) (b2 : List Denial) (r3 : Bool) (h : drossref18_Same a1 b2 = some r3) : Con D Tryz.prog 18 [(.slc (List.map encDenial a1)), (.slc (List.map encDenial b2))] (.bool r3) := by
 refine zP Tryz.call18 Tryz.func18 rfl Tryz.ntmps18 fun X w hT => ?_
 simp only [drossref18_Same] at h
 refine zs (zr ?_)
 refine zU (zl (zn (zs (zs (zr ?_)))))
 refine zU (zl (zn ?_))
 rcases zI h with ⟨h4, h⟩ | ⟨h4, h⟩
 refine zi (zs (zr ?_))
 refine zU (zl (zn (zq (zt ?_))))
 cases h
 exact zT Tryz.results18
 refine zj (zk (zn (zs (zs (zr ?_)))))
 refine zU (zl (zn (zb ?_)))
 obtain ⟨o5, h6, h⟩ := zB h
 refine zO (fun (s : Int) => ⟨[(0, .p (.slc (List.map encDenial a1))), (1, .p (.slc (List.map encDenial b2))), (5, .p (.int .i64 s))], []⟩) (fun (o : (Unit) ⊕ (Bool)) => match o with | .inl o7 => tE (cX Tryz.f18 X w D hT) (.exit 0) ⟨[], []⟩ | .inr o8 => tR Tryz.prog Tryz.f18 (.bool o8)) h6 ?_ ?_
 clear h h4 h6
 intro i9 x h
 simp only [drossref18_Same_l4] at h
 refine zs (zs (zr ?_))
 refine zU (zl (zn ?_))
 rcases zI h with ⟨h10, h⟩ | ⟨h10, h⟩
 refine zi (zk (zn (zs (zb (zs (zs (zd ?_)))))))
 obtain ⟨x11, h12, h12a, h12b, h⟩ := zX h
 obtain ⟨x13, h14, h14a, h14b, h⟩ := zX h
 refine yU ?_
 rcases zI h with ⟨h15, h⟩ | ⟨h15, h⟩
 refine yw 29 true ?_
 refine yk ?_
 refine yU ?_
 refine yd (zn ?_)
 refine zi (zs (zr ?_))
 refine zU (zl (zn (zq (zt (yr (zt ?_))))))
 cases h
 exact ⟨rfl, zT Tryz.results18⟩
 refine yw 29 false ?_
 refine yg ?_
 refine yg ?_
 refine yg ?_
 refine yg ?_
 refine yg ?_
 refine yg ?_
 refine yg ?_
 refine yg ?_
 refine yg ?_
 refine yg ?_
 refine yg ?_
 refine yg ?_
 refine yg ?_
 refine yU ?_
 refine yd (zn ?_)
 rcases zI h with ⟨h16, h⟩ | ⟨h16, h⟩
 refine zi (zs (zr ?_))
 refine zU (zl (zn (zq (zt (yr (zt ?_))))))
 cases h
 exact ⟨rfl, zT Tryz.results18⟩
 refine zj (zk (zn (zs (zr ?_))))
 refine zU (zl (zn (zb ?_)))
 obtain ⟨o17, h18, h⟩ := zB h
 refine zO (fun (s : Int) => ⟨[(0, .p (.slc (List.map encDenial a1))), (1, .p (.slc (List.map encDenial b2))), (5, .p (.int .i64 i9)), (6, .p (.int .i64 s))], []⟩) (fun (o : (Unit) ⊕ (Bool)) => match o with | .inl o19 => tE (cX Tryz.f18 X w D hT) (.exit 2) ⟨[(0, .p (.slc (List.map encDenial a1))), (1, .p (.slc (List.map encDenial b2))), (5, .p (.int .i64 i9))], []⟩ | .inr o20 => tR Tryz.prog Tryz.f18 (.bool o20)) h18 ?_ ?_
 clear h h10 h12 h12a h12b h14 h14a h14b h15 h16 h18
 intro k21 x h
 simp only [drossref18_Same_l3] at h
 refine zs (zs (zr ?_))
 obtain ⟨x22, h23, h23a, h23b, h⟩ := zX h
 refine zU (zl (zn ?_))
 rcases zI h with ⟨h24, h⟩ | ⟨h24, h⟩
 refine zi (zk (zn (zs (zb (zs (zd ?_))))))
 obtain ⟨x25, h26, h26a, h26b, h⟩ := zX h
 obtain ⟨x27, h28, h28a, h28b, h⟩ := zX h
 obtain ⟨x29, h30, h30a, h30b, h⟩ := zX h
 refine yU ?_
 refine yd (zn ?_)
 rcases zI h with ⟨h31, h⟩ | ⟨h31, h⟩
 refine zj (zk (yn (zn (zr ?_))))
 refine zU (zl ?_)
 cases h
 exact ⟨rfl, zE⟩
 refine zi (zs (zr ?_))
 refine zU (zl (zn (zq (yr (zt ?_)))))
 cases h
 exact ⟨rfl, zT Tryz.results18⟩
 refine zj (zx (ze ?_))
 cases h
 exact ⟨rfl, zE⟩
 rcases o17 with ⟨⟩ | r32
 try simp only at h
 refine zA (yh (yn (zn (zr ?_))))
 refine zU (zl ?_)
 cases h
 exact ⟨rfl, zE⟩
 try simp only at h
 refine zZ fun s hq => ?_
 refine yr (yr (zt ?_))
 cases h
 refine ⟨rfl, ?_⟩
 exact hq
 refine zj (zx (ze ?_))
 cases h
 exact ⟨rfl, zE⟩
 rcases o5 with ⟨⟩ | r33
 try simp only at h
 refine zA (yh (zn (zs (zr ?_))))
 refine zU (zl (zn (zq ?_)))
 cases h
 exact zT Tryz.results18
 try simp only at h
 refine zZ fun s hq => ?_
 refine yr (zt ?_)
 cases h
 exact hq
end Go.Proofs.YtlaodgbkpmdhoaaGreatDoor
set_option linter.unusedVariables false
set_option linter.unusedSimpArgs false
namespace Go.Proofs.YtlaodgbkpmdhoaaGreatDoor
open Go Go.Ab
set_option maxRecDepth 20000 in
set_option maxHeartbeats 4000000 in
theorem drossref18_Before_con {D : Prop} (a1 : List Int) (b2 : List Int) (r3 : Bool) (h : drossref18_Before a1 b2 = some r3) : Con D Tryz.prog 65 [(.slc (List.map (PV.int .i64) a1)), (.slc (List.map (PV.int .i64) b2))] (.bool r3) := by
 refine zP Tryz.call65 Tryz.func65 rfl Tryz.ntmps65 fun X w hT => ?_
 simp only [drossref18_Before] at h
 refine zs (zr ?_)
 refine zU (zl (zn (zs (zs (zr ?_)))))
 refine zU (zl (zn (zb ?_)))
 obtain ⟨o4, h5, h⟩ := zB h
 refine zO (fun (s : Int) => ⟨[(0, .p (.slc (List.map (PV.int .i64) a1))), (1, .p (.slc (List.map (PV.int .i64) b2))), (5, .p (.int .i64 s))], []⟩) (fun (o : (Unit) ⊕ (Bool)) => match o with | .inl o6 => tE (cX Tryz.f65 X w D hT) (.exit 0) ⟨[(0, .p (.slc (List.map (PV.int .i64) a1))), (1, .p (.slc (List.map (PV.int .i64) b2)))], []⟩ | .inr o7 => tR Tryz.prog Tryz.f65 (.bool o7)) h5 ?_ ?_
 clear h h5
 intro i8 x h
 simp only [drossref18_Before_l1] at h
 refine zs (zs (zr ?_))
 refine zU ?_
 rcases zI h with ⟨h9, h⟩ | ⟨h9, h⟩
 refine zw 10 true ?_
 refine zg ?_
 refine zg ?_
 refine zg ?_
 refine zg ?_
 refine zU (zl (zn ?_))
 rcases zI h with ⟨h10, h⟩ | ⟨h10, h⟩
 refine zi (zk (zn (zs (zb (zs (zd ?_))))))
 obtain ⟨x11, h12, h12a, h12b, h⟩ := zX h
 obtain ⟨x13, h14, h14a, h14b, h⟩ := zX h
 refine yU ?_
 refine yd (zn ?_)
 rcases zI h with ⟨h15, h⟩ | ⟨h15, h⟩
 refine zi (zs (zd ?_))
 refine yU ?_
 refine yd (zn (zq (yr (zt ?_))))
 cases h
 exact ⟨rfl, zT Tryz.results65⟩
 refine zj (zk (yn (zn (zr ?_))))
 refine zU (zl ?_)
 cases h
 exact ⟨rfl, zE⟩
 refine zj (zx (ze ?_))
 cases h
 exact ⟨rfl, zE⟩
 refine zw 10 false ?_
 refine zh ?_
 refine zU (zl (zn ?_))
 refine zj (zx (ze ?_))
 cases h
 exact ⟨rfl, zE⟩
 rcases o4 with ⟨⟩ | r16
 try simp only at h
 refine zA (yh (zn (zs (zr ?_))))
 refine zU (zl (zn (zq ?_)))
 cases h
 exact zT Tryz.results65
 try simp only at h
 refine zZ fun s hq => ?_
 refine yr (zt ?_)
 cases h
 exact hq
end Go.Proofs.YtlaodgbkpmdhoaaGreatDoor
set_option linter.unusedVariables false
set_option linter.unusedSimpArgs false
namespace Go.Proofs.YtlaodgbkpmdhoaaGreatDoor
open Go Go.Ab
set_option maxRecDepth 20000 in
set_option maxHeartbeats 4000000 in
theorem drossref18_Lists_con {D : Prop} (a1 : List (List Int)) (b2 : List (List Int)) (r3 : Bool) (h : drossref18_Lists a1 b2 = some r3) : Con D Tryz.prog 21 [(.slc (List.map (encL (PV.int .i64)) a1)), (.slc (List.map (encL (PV.int .i64)) b2))] (.bool r3) := by
 refine zP Tryz.call21 Tryz.func21 rfl Tryz.ntmps21 fun X w hT => ?_
 simp only [drossref18_Lists] at h
 refine zs (zr ?_)
 refine zU (zl (zn (zs (zs (zr ?_)))))
 refine zU (zl (zn ?_))
 rcases zI h with ⟨h4, h⟩ | ⟨h4, h⟩
 refine zi (zs (zr ?_))
 refine zU (zl (zn (zq (zt ?_))))
 cases h
 exact zT Tryz.results21
 refine zj (zk (zn (zs (zs (zr ?_)))))
 refine zU (zl (zn (zb ?_)))
 obtain ⟨o5, h6, h⟩ := zB h
 refine zO (fun (s : Int) => ⟨[(0, .p (.slc (List.map (encL (PV.int .i64)) a1))), (1, .p (.slc (List.map (encL (PV.int .i64)) b2))), (5, .p (.int .i64 s))], []⟩) (fun (o : (Unit) ⊕ (Bool)) => match o with | .inl o7 => tE (cX Tryz.f21 X w D hT) (.exit 0) ⟨[], []⟩ | .inr o8 => tR Tryz.prog Tryz.f21 (.bool o8)) h6 ?_ ?_
 clear h h4 h6
 intro i9 x h
 simp only [drossref18_Lists_l1] at h
 refine zs (zs (zr ?_))
 refine zU (zl (zn ?_))
 rcases zI h with ⟨h10, h⟩ | ⟨h10, h⟩
 refine zi (zk (zn (zs (zb (zs (zd ?_))))))
 obtain ⟨x11, h12, h12a, h12b, h⟩ := zX h
 obtain ⟨x13, h14, h14a, h14b, h⟩ := zX h
 refine yU ?_
 obtain ⟨r15, h16, h⟩ := zB h
 refine yc (drossref18_Before_con x11 x13 _ h16) ?_
 refine yU ?_
 rcases zI h with ⟨h17, h⟩ | ⟨h17, h⟩
 refine yw 26 true ?_
 refine yk ?_
 refine yU ?_
 refine yd (zn ?_)
 refine zi (zs (zr ?_))
 refine zU (zl (zn (zq (yr (zt ?_)))))
 cases h
 exact ⟨rfl, zT Tryz.results21⟩
 refine yw 26 false ?_
 refine yg ?_
 refine yg ?_
 refine yg ?_
 refine yg ?_
 refine yg ?_
 refine yg ?_
 refine yg ?_
 refine yg ?_
 obtain ⟨r18, h19, h⟩ := zB h
 refine yc (drossref18_Before_con x13 x11 _ h19) ?_
 refine yU ?_
 refine yd (zn ?_)
 rcases zI h with ⟨h20, h⟩ | ⟨h20, h⟩
 refine zi (zs (zr ?_))
 refine zU (zl (zn (zq (yr (zt ?_)))))
 cases h
 exact ⟨rfl, zT Tryz.results21⟩
 refine zj (zk (yn (zn (zr ?_))))
 refine zU (zl ?_)
 cases h
 exact ⟨rfl, zE⟩
 refine zj (zx (ze ?_))
 cases h
 exact ⟨rfl, zE⟩
 rcases o5 with ⟨⟩ | r21
 try simp only at h
 refine zA (yh (zn (zs (zr ?_))))
 refine zU (zl (zn (zq ?_)))
 cases h
 exact zT Tryz.results21
 try simp only at h
 refine zZ fun s hq => ?_
 refine yr (zt ?_)
 cases h
 exact hq
end Go.Proofs.YtlaodgbkpmdhoaaGreatDoor
set_option linter.unusedVariables false
set_option linter.unusedSimpArgs false
namespace Go.Proofs.YtlaodgbkpmdhoaaGreatDoor
open Go Go.Ab
set_option maxHeartbeats 4000000 in
theorem denial_inRange_con {D : Prop} (n1 : Int) (r2 : Bool) (h : denial_inRange n1 = some r2) : Con D Tryz.prog 66 [(.int .i64 n1)] (.bool r2) := by
 refine zP Tryz.call66 Tryz.func66 rfl Tryz.ntmps66 fun X w hT => ?_
 simp only [denial_inRange] at h
 refine zs (zr ?_)
 refine zU (zl (zn (zs (zr ?_))))
 refine zU ?_
 rcases zI h with ⟨h3, h⟩ | ⟨h3, h⟩
 replace h := h.symm
 refine zw 5 true ?_
 refine zg ?_
 refine zg ?_
 refine zU (zl (zn (zq ?_)))
 cases h
 exact zT Tryz.results66
 refine zw 5 false ?_
 refine zh ?_
 refine zU (zl (zn (zq ?_)))
 cases h
 exact zT Tryz.results66
end Go.Proofs.YtlaodgbkpmdhoaaGreatDoor
set_option linter.unusedVariables false
set_option linter.unusedSimpArgs false
namespace Go.Proofs.YtlaodgbkpmdhoaaGreatDoor
open Go Go.Ab
set_option maxHeartbeats 4000000 in
theorem slices_IndexFunc_int_con {D : Prop} (s1 : List Int) (f2 : Int → Option (Bool)) (f2_k : FuncId) (f2_cs : List PV) (f2_h : ∀ (y3 : Int) (r4 : Bool), f2 y3 = some r4 → Con D Tryz.prog f2_k ((.int .i64 y3) :: f2_cs) (.bool r4)) (r5 : Int) (h : slices_IndexFunc_int s1 f2 = some r5) : Con D Tryz.prog 103 [(.slc (List.map (PV.int .i64) s1)), .func (.func f2_k) f2_cs] (.int .i64 r5) := by
 refine zP Tryz.call103 Tryz.func103 rfl Tryz.ntmps103 fun X w hT => ?_
 simp only [slices_IndexFunc_int] at h
 refine zs (zr ?_)
 refine zU (zl (zn (zs (zs (zr ?_)))))
 refine zU (zl (zn (zb ?_)))
 obtain ⟨o6, h7, h⟩ := zB h
 refine zO (fun (s : Int) => ⟨[(0, .p (.slc (List.map (PV.int .i64) s1))), (1, .p (.func (.func f2_k) f2_cs)), (7, .p (.int .i64 (s1.length : Int))), (8, .p (.int .i64 s))], []⟩) (fun (o : (Unit) ⊕ (Int)) => match o with | .inl o8 => tE (cX Tryz.f103 X w D hT) (.exit 0) ⟨[], []⟩ | .inr o9 => tR Tryz.prog Tryz.f103 (.int .i64 o9)) h7 ?_ ?_
 clear h h7
 intro t10 x h
 simp only [slices_IndexFunc_int_l1] at h
 refine zs (zr ?_)
 refine zU (zl (zn (zs ?_)))
 rcases zI h with ⟨h11, h⟩ | ⟨h11, h⟩
 refine zi (zk (zn (zs (zb (zs (zr ?_))))))
 refine zU (zl (zn (zs (zr ?_))))
 obtain ⟨x12, h13, h13a, h13b, h⟩ := zX h
 refine zU ?_
 obtain ⟨r14, h15, h⟩ := zB h
 refine zc (f2_h x12 _ h15) ?_
 refine zl (zn ?_)
 rcases zI h with ⟨h16, h⟩ | ⟨h16, h⟩
 refine zi (zs (zr ?_))
 refine zU (zl (zn (zq (yr (zt ?_)))))
 cases h
 exact ⟨rfl, zT Tryz.results103⟩
 refine zj (zk (yn (zn (zr ?_))))
 refine zU (zl ?_)
 cases h
 exact ⟨rfl, zE⟩
 refine zj (zx (ze ?_))
 cases h
 exact ⟨rfl, zE⟩
 rcases o6 with ⟨⟩ | r17
 try simp only at h
 refine zA (yh (zn (zs (zr ?_))))
 refine zU (zl (zn (zq ?_)))
 cases h
 exact zT Tryz.results103
 try simp only at h
 refine zZ fun s hq => ?_
 refine yr (zt ?_)
 cases h
 exact hq
end Go.Proofs.YtlaodgbkpmdhoaaGreatDoor
set_option linter.unusedVariables false
set_option linter.unusedSimpArgs false
namespace Go.Proofs.YtlaodgbkpmdhoaaGreatDoor
open Go Go.Ab
set_option maxHeartbeats 4000000 in
theorem slices_ContainsFunc_int_con {D : Prop} (s1 : List Int) (f2 : Int → Option (Bool)) (f2_k : FuncId) (f2_cs : List PV) (f2_h : ∀ (y3 : Int) (r4 : Bool), f2 y3 = some r4 → Con D Tryz.prog f2_k ((.int .i64 y3) :: f2_cs) (.bool r4)) (r5 : Bool) (h : slices_ContainsFunc_int s1 f2 = some r5) : Con D Tryz.prog 47 [(.slc (List.map (PV.int .i64) s1)), .func (.func f2_k) f2_cs] (.bool r5) := by
 refine zP Tryz.call47 Tryz.func47 rfl Tryz.ntmps47 fun X w hT => ?_
 simp only [slices_ContainsFunc_int] at h
 refine zs (zr ?_)
 refine zU (zl (zn (zs (zr ?_))))
 refine zU ?_
 obtain ⟨r6, h7, h⟩ := zB h
 refine zc (slices_IndexFunc_int_con s1 f2 f2_k f2_cs f2_h _ h7) ?_
 refine zU (zl (zn (zq ?_)))
 cases h
 exact zT Tryz.results47
end Go.Proofs.YtlaodgbkpmdhoaaGreatDoor
set_option linter.unusedVariables false
set_option linter.unusedSimpArgs false
namespace Go.Proofs.YtlaodgbkpmdhoaaGreatDoor
open Go Go.Ab
set_option maxHeartbeats 4000000 in
theorem ordering_list_1_con {D : Prop} (a1 : Int) (c2 : Int) (r3 : Bool) (h : ordering_list_1 a1 c2 = some r3) : Con D Tryz.prog 137 [(.int .i64 a1), .imm [.int .i64 c2]] (.bool r3) := by
 refine zP Tryz.call137 Tryz.func137 rfl Tryz.ntmps137 fun X w hT => ?_
 simp only [ordering_list_1] at h
 refine zs (zr ?_)
 refine zU (zl (zn (zs (zr ?_))))
 refine zU ?_
 rcases zI h with ⟨h4, h⟩ | ⟨h4, h⟩
 refine zw 6 true ?_
 refine zh ?_
 refine zU (zl (zn (zq ?_)))
 cases h
 exact zT Tryz.results137
 replace h := h.symm
 refine zw 6 false ?_
 refine zg ?_
 refine zg ?_
 refine zg ?_
 refine zU (zl (zn (zq ?_)))
 cases h
 exact zT Tryz.results137
end Go.Proofs.YtlaodgbkpmdhoaaGreatDoor
set_option linter.unusedVariables false
set_option linter.unusedSimpArgs false
namespace Go.Proofs.YtlaodgbkpmdhoaaGreatDoor
open Go Go.Ab
set_option maxHeartbeats 4000000 in
theorem ordering_list_con {D : Prop} (n1 : Int) (l2 : List Int) (r3 : Bool) (h : ordering_list n1 l2 = some r3) : Con D Tryz.prog 112 [(.int .i64 n1), (.slc (List.map (PV.int .i64) l2))] (.bool r3) := by
 refine zP Tryz.call112 Tryz.func112 rfl Tryz.ntmps112 fun X w hT => ?_
 simp only [ordering_list] at h
 refine zs (zr ?_)
 refine zU (zl (zn (zs (zr ?_))))
 refine zU ?_
 rcases zI h with ⟨h4, h⟩ | ⟨h4, h⟩
 refine zw 8 true ?_
 refine zg ?_
 refine zg ?_
 obtain ⟨r5, h6, h⟩ := zB h
 replace h := h.symm
 refine zc (slices_ContainsFunc_int_con l2 (fun (y7 : Int) => ordering_list_1 y7 n1) 137 [.imm [.int .i64 n1]] (fun y7 r h => ordering_list_1_con y7 n1 r h) _ h6) ?_
 refine zg ?_
 refine zU (zl (zn (zq ?_)))
 cases h
 exact zT Tryz.results112
 refine zw 8 false ?_
 refine zh ?_
 refine zU (zl (zn (zq ?_)))
 cases h
 exact zT Tryz.results112
end Go.Proofs.YtlaodgbkpmdhoaaGreatDoor
set_option linter.unusedVariables false
set_option linter.unusedSimpArgs false
namespace Go.Proofs.YtlaodgbkpmdhoaaGreatDoor
open Go Go.Ab
set_option maxHeartbeats 4000000 in
theorem ordering_Valid_con {D : Prop} (n1 : Int) (d2 : OD) (r3 : Bool) (h : ordering_Valid n1 d2 = some r3) : Con D Tryz.prog 67 [(.int .i64 n1), (encOD d2)] (.bool r3) := by
 refine zP Tryz.call67 Tryz.func67 rfl Tryz.ntmps67 fun X w hT => ?_
 simp only [ordering_Valid] at h
 refine zs (zr ?_)
 refine zU (zl (zn (zs (zr ?_))))
 refine zU ?_
 obtain ⟨r4, h5, h⟩ := zB h
 refine zc (ordering_list_con n1 d2.Lhs _ h5) ?_
 refine zU ?_
 rcases zI h with ⟨h6, h⟩ | ⟨h6, h⟩
 refine zw 9 true ?_
 refine zg ?_
 refine zg ?_
 refine zg ?_
 obtain ⟨r7, h8, h⟩ := zB h
 refine zc (ordering_list_con n1 d2.Rhs _ h8) ?_
 refine zU (zl (zn (zq ?_)))
 cases h
 exact zT Tryz.results67
 refine zw 9 false ?_
 refine zh ?_
 refine zU (zl (zn (zq ?_)))
 cases h
 exact zT Tryz.results67
end Go.Proofs.YtlaodgbkpmdhoaaGreatDoor
set_option linter.unusedVariables false
set_option linter.unusedSimpArgs false
namespace Go.Proofs.YtlaodgbkpmdhoaaGreatDoor
open Go Go.Ab
set_option maxHeartbeats 4000000 in
theorem slices_Index_int_con {D : Prop} (s1 : List Int) (v2 : Int) (r3 : Int) (h : slices_Index_int s1 v2 = some r3) : Con D Tryz.prog 170 [(.slc (List.map (PV.int .i64) s1)), (.int .i64 v2)] (.int .i64 r3) := by
 refine zP Tryz.call170 Tryz.func170 rfl Tryz.ntmps170 fun X w hT => ?_
 simp only [slices_Index_int] at h
 refine zs (zr ?_)
 refine zU (zl (zn (zs (zs (zr ?_)))))
 refine zU (zl (zn (zb ?_)))
 obtain ⟨o4, h5, h⟩ := zB h
 refine zO (fun (s : Int) => ⟨[(0, .p (.slc (List.map (PV.int .i64) s1))), (1, .p (.int .i64 v2)), (7, .p (.int .i64 (s1.length : Int))), (8, .p (.int .i64 s))], []⟩) (fun (o : (Unit) ⊕ (Int)) => match o with | .inl o6 => tE (cX Tryz.f170 X w D hT) (.exit 0) ⟨[], []⟩ | .inr o7 => tR Tryz.prog Tryz.f170 (.int .i64 o7)) h5 ?_ ?_
 clear h h5
 intro t8 x h
 simp only [slices_Index_int_l1] at h
 refine zs (zr ?_)
 refine zU (zl (zn (zs ?_)))
 rcases zI h with ⟨h9, h⟩ | ⟨h9, h⟩
 refine zi (zk (zn (zs (zb (zs (zr ?_))))))
 refine zU (zl (zn (zs (zr ?_))))
 obtain ⟨x10, h11, h11a, h11b, h⟩ := zX h
 refine zU (zl (zn ?_))
 rcases zI h with ⟨h12, h⟩ | ⟨h12, h⟩
 refine zi (zs (zr ?_))
 refine zU (zl (zn (zq (yr (zt ?_)))))
 cases h
 exact ⟨rfl, zT Tryz.results170⟩
 refine zj (zk (yn (zn (zr ?_))))
 refine zU (zl ?_)
 cases h
 exact ⟨rfl, zE⟩
 refine zj (zx (ze ?_))
 cases h
 exact ⟨rfl, zE⟩
 rcases o4 with ⟨⟩ | r13
 try simp only at h
 refine zA (yh (zn (zs (zr ?_))))
 refine zU (zl (zn (zq ?_)))
 cases h
 exact zT Tryz.results170
 try simp only at h
 refine zZ fun s hq => ?_
 refine yr (zt ?_)
 cases h
 exact hq
end Go.Proofs.YtlaodgbkpmdhoaaGreatDoor
set_option linter.unusedVariables false
set_option linter.unusedSimpArgs false
namespace Go.Proofs.YtlaodgbkpmdhoaaGreatDoor
open Go Go.Ab
set_option maxHeartbeats 4000000 in
theorem slices_Contains_int_con {D : Prop} (s1 : List Int) (v2 : Int) (r3 : Bool) (h : slices_Contains_int s1 v2 = some r3) : Con D Tryz.prog 138 [(.slc (List.map (PV.int .i64) s1)), (.int .i64 v2)] (.bool r3) := by
 refine zP Tryz.call138 Tryz.func138 rfl Tryz.ntmps138 fun X w hT => ?_
 simp only [slices_Contains_int] at h
 refine zs (zr ?_)
 refine zU (zl (zn (zs (zr ?_))))
 refine zU ?_
 obtain ⟨r4, h5, h⟩ := zB h
 refine zc (slices_Index_int_con s1 v2 _ h5) ?_
 refine zU (zl (zn (zq ?_)))
 cases h
 exact zT Tryz.results138
end Go.Proofs.YtlaodgbkpmdhoaaGreatDoor
set_option linter.unusedVariables false
set_option linter.unusedSimpArgs false
namespace Go.Proofs.YtlaodgbkpmdhoaaGreatDoor
open Go Go.Ab
set_option maxHeartbeats 4000000 in
theorem ordering_once_con {D : Prop} (l1 : List Int) (r2 : List Int) (h : ordering_once l1 = some r2) : Con D Tryz.prog 113 [(.slc (List.map (PV.int .i64) l1))] (.slc (List.map (PV.int .i64) r2)) := by
 refine zP Tryz.call113 Tryz.func113 rfl Tryz.ntmps113 fun X w hT => ?_
 simp only [ordering_once] at h
 refine zs (zr ?_)
 refine zU (zl (zn (zs (zr ?_))))
 refine zU (zl (zn (zs (zs (zr ?_)))))
 refine zU (zl (zn (zb ?_)))
 obtain ⟨o3, h4, h⟩ := zB h
 refine zO (fun (s : List Int × Int) => ⟨[(3, .own 19 1 0 s.1.length), (6, .p (.slc (List.map (PV.int .i64) l1))), (7, .p (.int .i64 (l1.length : Int))), (8, .p (.int .i64 s.2))], [(19, .arr 3 1 1 (List.map AV.p (List.map (PV.int .i64) s.1)))]⟩) (fun (o5 : List Int) => tE (cX Tryz.f113 X w D hT) (.exit 0) ⟨[(3, .own 19 1 0 o5.length)], [(19, .arr 3 1 1 (List.map AV.p (List.map (PV.int .i64) o5)))]⟩) h4 ?_ ?_
 clear h h4
 intro s x h
 obtain ⟨o6, t7⟩ := s
 simp only [ordering_once_l1] at h
 dsimp only
 refine zs (zr ?_)
 refine zU (zl (zn (zs ?_)))
 rcases zI h with ⟨h8, h⟩ | ⟨h8, h⟩
 refine zi (zk (zn (zs (zb (zs (zr ?_))))))
 obtain ⟨x9, h10, h10a, h10b, h⟩ := zX h
 refine zU (zl (zn (zs (zr ?_))))
 refine zU ?_
 obtain ⟨r11, h12, h⟩ := zB h
 refine zc (slices_Contains_int_con o6 x9 _ h12) ?_
 refine zU (zl (zn ?_))
 rcases zI h with ⟨h13, h⟩ | ⟨h13, h⟩
 refine zj (zk (yn (zn (zr ?_))))
 refine zU (zl ?_)
 cases h
 exact ⟨rfl, zE⟩
 refine zi (zr ?_)
 obtain ⟨h14, h⟩ := ite_some h
 refine zU (zl (yn (zn (zr ?_))))
 refine zU (zl ?_)
 cases h
 exact ⟨rfl, zE⟩
 refine zj (zx (ze ?_))
 cases h
 exact ⟨rfl, zE⟩
 try simp only at h
 refine zA (yh (zn (zs (zr ?_))))
 refine zU (zl (zn (zq ?_)))
 cases h
 exact zT Tryz.results113
end Go.Proofs.YtlaodgbkpmdhoaaGreatDoor
set_option linter.unusedVariables false
set_option linter.unusedSimpArgs false
namespace Go.Proofs.YtlaodgbkpmdhoaaGreatDoor
open Go Go.Ab
set_option maxHeartbeats 4000000 in
theorem ordering_Normal_con {D : Prop} (d1 : OD) (r2 : OD) (h : ordering_Normal d1 = some r2) : Con D Tryz.prog 68 [(encOD d1)] (encOD r2) := by
 refine zP Tryz.call68 Tryz.func68 rfl Tryz.ntmps68 fun X w hT => ?_
 simp only [ordering_Normal] at h
 refine zs (zr ?_)
 refine zU (zl (zn (zs (zd ?_))))
 refine yU ?_
 obtain ⟨r3, h4, h⟩ := zB h
 refine yc (ordering_once_con d1.Lhs _ h4) ?_
 refine yU ?_
 obtain ⟨r5, h6, h⟩ := zB h
 refine yc (ordering_once_con d1.Rhs _ h6) ?_
 refine yU ?_
 refine yd (zn (zq ?_))
 cases h
 exact zT Tryz.results68
end Go.Proofs.YtlaodgbkpmdhoaaGreatDoor
set_option linter.unusedVariables false
set_option linter.unusedSimpArgs false
namespace Go.Proofs.YtlaodgbkpmdhoaaGreatDoor
open Go Go.Ab
set_option maxRecDepth 20000 in
set_option maxHeartbeats 4000000 in
theorem denial_FromOD_con {D : Prop} (n1 : Int) (d2 : OD) (r3 : List Denial × Int) (h : denial_FromOD n1 d2 = some r3) : Con D Tryz.prog 22 [(.int .i64 n1), (encOD d2)] (.tup [(.slc (List.map encDenial r3.1)), (.int .i64 r3.2)]) := by
 refine zP Tryz.call22 Tryz.func22 rfl Tryz.ntmps22 fun X w hT => ?_
 simp only [denial_FromOD] at h
 refine zs (zr ?_)
 refine zU (zl (zn (zs (zs (zr ?_)))))
 refine zU ?_
 obtain ⟨r4, h5, h⟩ := zB h
 refine zc (denial_inRange_con n1 _ h5) ?_
 refine zU ?_
 rcases zI h with ⟨h6, h⟩ | ⟨h6, h⟩
 refine zw 17 false ?_
 refine zg ?_
 refine zg ?_
 obtain ⟨r7, h8, h⟩ := zB h
 refine zc (ordering_Valid_con n1 d2 _ h8) ?_
 refine zg ?_
 refine zU (zl (zn ?_))
 rcases zI h with ⟨h9, h⟩ | ⟨h9, h⟩
 refine zj (zk (zn (zs (zr ?_))))
 refine zU ?_
 obtain ⟨r10, h11, h⟩ := zB h
 refine zc (ordering_Normal_con d2 _ h11) ?_
 refine zU (zl (zn (zs (zr ?_))))
 refine zU (zl (zn (zs (zs (zr ?_)))))
 refine zU (zl (zn (zb ?_)))
 obtain ⟨o12, h13, h⟩ := zB h
 refine zO (fun (s : List Denial × Int) => ⟨[(3, .loc 3 1 0 0), (6, .own 110 1 0 s.1.length), (28, .p (.int .i64 (IntKind.i64.wrap ((r10.Lhs.length : Int) + 1)))), (29, .p (.int .i64 s.2))], [(3, .arr 64 2 1 [.p (encOD r10)]), (110, .arr 24 2 1 (List.map AV.p (List.map encDenial s.1)))]⟩) (fun (o14 : List Denial) => tE (cX Tryz.f22 X w D hT) (.exit 0) ⟨[(6, .own 110 1 0 o14.length)], [(110, .arr 24 2 1 (List.map AV.p (List.map encDenial o14)))]⟩) h13 ?_ ?_
 clear h h5 h6 h8 h9 h11 h13
 intro s x h
 obtain ⟨o15, t16⟩ := s
 simp only [denial_FromOD_l31] at h
 dsimp only
 refine zs (zr ?_)
 refine zU (zl (zn (zs ?_)))
 rcases zI h with ⟨h17, h⟩ | ⟨h17, h⟩
 refine zi (zk (zn (zs (zb (zs (zr ?_))))))
 refine zU (zl (zn (zs (zr ?_))))
 refine zU (zl (zn (zb ?_)))
 obtain ⟨o18, h19, h⟩ := zB h
 refine zO (fun (s : List Denial × Int) => ⟨[(3, .loc 3 1 0 0), (6, .own 110 1 0 s.1.length), (7, .p (.int .i64 t16)), (28, .p (.int .i64 (IntKind.i64.wrap ((r10.Lhs.length : Int) + 1)))), (29, .p (.int .i64 t16)), (34, .p (.int .i64 (r10.Rhs.length : Int))), (35, .p (.int .i64 s.2))], [(3, .arr 64 2 1 [.p (encOD r10)]), (110, .arr 24 2 1 (List.map AV.p (List.map encDenial s.1)))]⟩) (fun (o20 : List Denial) => tE (cX Tryz.f22 X w D hT) (.exit 2) ⟨[(3, .loc 3 1 0 0), (6, .own 110 1 0 o20.length), (28, .p (.int .i64 (IntKind.i64.wrap ((r10.Lhs.length : Int) + 1)))), (29, .p (.int .i64 t16))], [(3, .arr 64 2 1 [.p (encOD r10)]), (110, .arr 24 2 1 (List.map AV.p (List.map encDenial o20)))]⟩) h19 ?_ ?_
 clear h h17 h19
 intro s x h
 obtain ⟨o21, t22⟩ := s
 simp only [denial_FromOD_l30] at h
 dsimp only
 refine zs (zr ?_)
 refine zU (zl (zn (zs ?_)))
 rcases zI h with ⟨h23, h⟩ | ⟨h23, h⟩
 refine zi (zk (zn (zs (zb (zs (zr ?_))))))
 refine zU (zl (zn (zs (zr ?_))))
 refine zU (zl (zn (zs (zs (zr ?_)))))
 obtain ⟨h24, h⟩ := ite_some h
 obtain ⟨h25, h⟩ := ite_some h
 refine zU (zl (zn (zb ?_)))
 obtain ⟨c26, h27, h⟩ := zB h
 refine zO (fun (s : List Atom × Int) => ⟨[(3, .loc 3 1 0 0), (6, .own 110 1 0 o21.length), (7, .p (.int .i64 t16)), (8, .p (.int .i64 t22)), (9, .loc 9 1 0 0), (28, .p (.int .i64 (IntKind.i64.wrap ((r10.Lhs.length : Int) + 1)))), (29, .p (.int .i64 t16)), (34, .p (.int .i64 (r10.Rhs.length : Int))), (35, .p (.int .i64 t22)), (42, .p (.slc (List.map (PV.int .i64) (r10.Lhs.take (t16.toNat))))), (43, .p (.int .i64 ((r10.Lhs.take (t16.toNat)).length : Int))), (44, .p (.int .i64 s.2))], [(3, .arr 64 2 1 [.p (encOD r10)]), (9, .arr 24 2 1 [.agg [.p (.int .i64 2), .own 53 1 0 s.1.length]]), (53, .arr 31 11 1 (List.map AV.p (List.map encAtom s.1))), (110, .arr 24 2 1 (List.map AV.p (List.map encDenial o21)))]⟩) (fun (o28 : List Atom) => tE (cX Tryz.f22 X w D hT) (.exit 4) ⟨[(3, .loc 3 1 0 0), (6, .own 110 1 0 o21.length), (7, .p (.int .i64 t16)), (8, .p (.int .i64 t22)), (9, .loc 9 1 0 0), (28, .p (.int .i64 (IntKind.i64.wrap ((r10.Lhs.length : Int) + 1)))), (29, .p (.int .i64 t16)), (34, .p (.int .i64 (r10.Rhs.length : Int))), (35, .p (.int .i64 t22))], [(3, .arr 64 2 1 [.p (encOD r10)]), (9, .arr 24 2 1 [.agg [.p (.int .i64 2), .own 53 1 0 o28.length]]), (53, .arr 31 11 1 (List.map AV.p (List.map encAtom o28))), (110, .arr 24 2 1 (List.map AV.p (List.map encDenial o21)))]⟩) h27 ?_ ?_
 clear h h23 h24 h25 h27
 intro s x h
 obtain ⟨c29, t30⟩ := s
 simp only [denial_FromOD_l27] at h
 dsimp only
 refine zs (zr ?_)
 refine zU (zl (zn (zs ?_)))
 rcases zI h with ⟨h31, h⟩ | ⟨h31, h⟩
 refine zi (zk (zn (zs (zb (zs (zr ?_))))))
 obtain ⟨x32, h33, h33a, h33b, h⟩ := zX h
 refine zU (zl (zn (zd ?_)))
 refine yU ?_
 obtain ⟨r34, h35, h⟩ := zB h
 refine yc (denial_both_con 1 x32 _ h35) ?_
 obtain ⟨h36, h⟩ := ite_some h
 refine yU ?_
 refine yd (yn (zn (zr ?_)))
 refine zU (zl ?_)
 cases h
 exact ⟨rfl, zE⟩
 refine zj (zx (ze ?_))
 cases h
 exact ⟨rfl, zE⟩
 try simp only at h
 refine zA (yh (zn (zs (zs (zr ?_)))))
 refine zU (zl (zn ?_))
 rcases zI h with ⟨h37, h⟩ | ⟨h37, h⟩
 refine zi (zd ?_)
 obtain ⟨x38, h39, h39a, h39b, h⟩ := zX h
 refine yU ?_
 obtain ⟨r40, h41, h⟩ := zB h
 refine yc (denial_both_con 3 x38 _ h41) ?_
 obtain ⟨h42, h⟩ := ite_some h
 refine yU ?_
 refine yd (zn (zs (zs (zr ?_))))
 obtain ⟨h43, h⟩ := ite_some h
 obtain ⟨h44, h⟩ := ite_some h
 refine zU (zl (zn (zb ?_)))
 obtain ⟨c45, h46, h⟩ := zB h
 refine zO (fun (s : List Atom × Int) => ⟨[(3, .loc 3 1 0 0), (6, .own 110 1 0 o21.length), (7, .p (.int .i64 t16)), (8, .p (.int .i64 t22)), (9, .loc 9 1 0 0), (28, .p (.int .i64 (IntKind.i64.wrap ((r10.Lhs.length : Int) + 1)))), (29, .p (.int .i64 t16)), (34, .p (.int .i64 (r10.Rhs.length : Int))), (35, .p (.int .i64 t22)), (75, .p (.slc (List.map (PV.int .i64) (r10.Rhs.take (t22.toNat))))), (76, .p (.int .i64 ((r10.Rhs.take (t22.toNat)).length : Int))), (77, .p (.int .i64 s.2))], [(3, .arr 64 2 1 [.p (encOD r10)]), (9, .arr 24 2 1 [.agg [.p (.int .i64 2), .own 53 1 0 s.1.length]]), (53, .arr 31 11 1 (List.map AV.p (List.map encAtom s.1))), (110, .arr 24 2 1 (List.map AV.p (List.map encDenial o21)))]⟩) (fun (o47 : List Atom) => tE (cX Tryz.f22 X w D hT) (.exit 6) ⟨[(3, .loc 3 1 0 0), (6, .own 110 1 0 o21.length), (7, .p (.int .i64 t16)), (8, .p (.int .i64 t22)), (9, .loc 9 1 0 0), (28, .p (.int .i64 (IntKind.i64.wrap ((r10.Lhs.length : Int) + 1)))), (29, .p (.int .i64 t16)), (34, .p (.int .i64 (r10.Rhs.length : Int))), (35, .p (.int .i64 t22))], [(3, .arr 64 2 1 [.p (encOD r10)]), (9, .arr 24 2 1 [.agg [.p (.int .i64 2), .own 53 1 0 o47.length]]), (53, .arr 31 11 1 (List.map AV.p (List.map encAtom o47))), (110, .arr 24 2 1 (List.map AV.p (List.map encDenial o21)))]⟩) h46 ?_ ?_
 clear h h23 h24 h25 h27 h37 h39 h39a h39b h41 h42 h43 h44 h46
 intro s x h
 obtain ⟨c48, t49⟩ := s
 simp only [denial_FromOD_l28] at h
 dsimp only
 refine zs (zr ?_)
 refine zU (zl (zn (zs ?_)))
 rcases zI h with ⟨h50, h⟩ | ⟨h50, h⟩
 refine zi (zk (zn (zs (zb (zs (zr ?_))))))
 obtain ⟨x51, h52, h52a, h52b, h⟩ := zX h
 refine zU (zl (zn (zd ?_)))
 refine yU ?_
 obtain ⟨r53, h54, h⟩ := zB h
 refine yc (denial_both_con 1 x51 _ h54) ?_
 obtain ⟨h55, h⟩ := ite_some h
 refine yU ?_
 refine yd (yn (zn (zr ?_)))
 refine zU (zl ?_)
 cases h
 exact ⟨rfl, zE⟩
 refine zj (zx (ze ?_))
 cases h
 exact ⟨rfl, zE⟩
 try simp only at h
 refine zA (yh (zn (zs (zd ?_))))
 obtain ⟨x56, h57, h57a, h57b, h⟩ := zX h
 refine yU ?_
 obtain ⟨r58, h59, h⟩ := zB h
 refine yc (denial_of_con 2 x56 _ h59) ?_
 refine yU ?_
 obtain ⟨r60, h61, h⟩ := zB h
 refine yc (denial_of_con 1 x56 _ h61) ?_
 obtain ⟨h62, h⟩ := ite_some h
 refine yU ?_
 refine yd (zn (zr ?_))
 refine zW 3 ?_
 refine zM ⟨[(3, .loc 3 1 0 0), (7, .p (.int .i64 t16)), (28, .p (.int .i64 (IntKind.i64.wrap ((r10.Lhs.length : Int) + 1)))), (29, .p (.int .i64 t16)), (34, .p (.int .i64 (r10.Rhs.length : Int))), (35, .p (.int .i64 t22)), (107, .own 110 1 0 o21.length), (109, .own 109 1 0 1)], [(3, .arr 64 2 1 [.p (encOD r10)]), (109, .arr 24 2 1 [.p (.agg [.int .i64 2, .slc (List.map encAtom (c45 ++ [(Atom.mk r58 3 r60)]))])]), (110, .arr 24 2 1 (List.map AV.p (List.map encDenial o21)))]⟩ ?_
 obtain ⟨h63, h⟩ := ite_some h
 refine zU (zl (yn (zn (zr ?_))))
 refine zU (zl ?_)
 cases h
 exact ⟨rfl, zE⟩
 refine zj (zk (zn (zs (zs (zr ?_)))))
 obtain ⟨h64, h⟩ := ite_some h
 obtain ⟨h65, h⟩ := ite_some h
 refine zU (zl (zn (zb ?_)))
 obtain ⟨c66, h67, h⟩ := zB h
 refine zO (fun (s : List Atom × Int) => ⟨[(3, .loc 3 1 0 0), (6, .own 110 1 0 o21.length), (7, .p (.int .i64 t16)), (8, .p (.int .i64 t22)), (9, .loc 9 1 0 0), (28, .p (.int .i64 (IntKind.i64.wrap ((r10.Lhs.length : Int) + 1)))), (29, .p (.int .i64 t16)), (34, .p (.int .i64 (r10.Rhs.length : Int))), (35, .p (.int .i64 t22)), (75, .p (.slc (List.map (PV.int .i64) (r10.Rhs.take (t22.toNat))))), (76, .p (.int .i64 ((r10.Rhs.take (t22.toNat)).length : Int))), (77, .p (.int .i64 s.2))], [(3, .arr 64 2 1 [.p (encOD r10)]), (9, .arr 24 2 1 [.agg [.p (.int .i64 2), .own 53 1 0 s.1.length]]), (53, .arr 31 11 1 (List.map AV.p (List.map encAtom s.1))), (110, .arr 24 2 1 (List.map AV.p (List.map encDenial o21)))]⟩) (fun (o68 : List Atom) => tE (cX Tryz.f22 X w D hT) (.exit 6) ⟨[(3, .loc 3 1 0 0), (6, .own 110 1 0 o21.length), (7, .p (.int .i64 t16)), (8, .p (.int .i64 t22)), (9, .loc 9 1 0 0), (28, .p (.int .i64 (IntKind.i64.wrap ((r10.Lhs.length : Int) + 1)))), (29, .p (.int .i64 t16)), (34, .p (.int .i64 (r10.Rhs.length : Int))), (35, .p (.int .i64 t22))], [(3, .arr 64 2 1 [.p (encOD r10)]), (9, .arr 24 2 1 [.agg [.p (.int .i64 2), .own 53 1 0 o68.length]]), (53, .arr 31 11 1 (List.map AV.p (List.map encAtom o68))), (110, .arr 24 2 1 (List.map AV.p (List.map encDenial o21)))]⟩) h67 ?_ ?_
 clear h h23 h24 h25 h27 h37 h64 h65 h67
 intro s x h
 obtain ⟨c69, t70⟩ := s
 simp only [denial_FromOD_l29] at h
 dsimp only
 refine zs (zr ?_)
 refine zU (zl (zn (zs ?_)))
 rcases zI h with ⟨h71, h⟩ | ⟨h71, h⟩
 refine zi (zk (zn (zs (zb (zs (zr ?_))))))
 obtain ⟨x72, h73, h73a, h73b, h⟩ := zX h
 refine zU (zl (zn (zd ?_)))
 refine yU ?_
 obtain ⟨r74, h75, h⟩ := zB h
 refine yc (denial_both_con 1 x72 _ h75) ?_
 obtain ⟨h76, h⟩ := ite_some h
 refine yU ?_
 refine yd (yn (zn (zr ?_)))
 refine zU (zl ?_)
 cases h
 exact ⟨rfl, zE⟩
 refine zj (zx (ze ?_))
 cases h
 exact ⟨rfl, zE⟩
 try simp only at h
 refine zA (yh (zn (zs (zd ?_))))
 obtain ⟨x77, h78, h78a, h78b, h⟩ := zX h
 refine yU ?_
 obtain ⟨r79, h80, h⟩ := zB h
 refine yc (denial_of_con 2 x77 _ h80) ?_
 refine yU ?_
 obtain ⟨r81, h82, h⟩ := zB h
 refine yc (denial_of_con 1 x77 _ h82) ?_
 obtain ⟨h83, h⟩ := ite_some h
 refine yU ?_
 refine yd (zn (zr ?_))
 refine zW 3 ?_
 refine zM ⟨[(3, .loc 3 1 0 0), (7, .p (.int .i64 t16)), (28, .p (.int .i64 (IntKind.i64.wrap ((r10.Lhs.length : Int) + 1)))), (29, .p (.int .i64 t16)), (34, .p (.int .i64 (r10.Rhs.length : Int))), (35, .p (.int .i64 t22)), (107, .own 110 1 0 o21.length), (109, .own 109 1 0 1)], [(3, .arr 64 2 1 [.p (encOD r10)]), (109, .arr 24 2 1 [.p (.agg [.int .i64 2, .slc (List.map encAtom (c66 ++ [(Atom.mk r79 3 r81)]))])]), (110, .arr 24 2 1 (List.map AV.p (List.map encDenial o21)))]⟩ ?_
 obtain ⟨h84, h⟩ := ite_some h
 refine zU (zl (yn (zn (zr ?_))))
 refine zU (zl ?_)
 cases h
 exact ⟨rfl, zE⟩
 refine zj (zx (ze ?_))
 cases h
 exact ⟨rfl, zE⟩
 try simp only at h
 refine zA (yh (yn (zn (zr ?_))))
 refine zU (zl ?_)
 cases h
 exact ⟨rfl, zE⟩
 refine zj (zx (ze ?_))
 cases h
 exact ⟨rfl, zE⟩
 try simp only at h
 refine zA (yh (zn (zs (zr ?_))))
 refine zU (zl (zn (zq ?_)))
 cases h
 exact zT Tryz.results22
 refine zi (zs (zr ?_))
 refine zU (zl (zn (zq (zt ?_))))
 cases h
 exact zT Tryz.results22
 refine zw 17 true ?_
 refine zh ?_
 refine zU (zl (zn ?_))
 refine zi (zs (zr ?_))
 refine zU (zl (zn (zq (zt ?_))))
 cases h
 exact zT Tryz.results22
end Go.Proofs.YtlaodgbkpmdhoaaGreatDoor
set_option linter.unusedVariables false
set_option linter.unusedSimpArgs false
namespace Go.Proofs.YtlaodgbkpmdhoaaGreatDoor
open Go Go.Ab
set_option maxHeartbeats 4000000 in
theorem cmp_Or_int_con {D : Prop} (v1 : List Int) (r2 : Int) (h : cmp_Or_int v1 = some r2) : Con D Tryz.prog 118 [(.slc (List.map (PV.int .i64) v1))] (.int .i64 r2) := by
 refine zP Tryz.call118 Tryz.func118 rfl Tryz.ntmps118 fun X w hT => ?_
 simp only [cmp_Or_int] at h
 refine zs (zr ?_)
 refine zU (zl (zn (zs (zr ?_))))
 refine zU (zl (zn (zs (zs (zr ?_)))))
 refine zU (zl (zn (zb ?_)))
 obtain ⟨o3, h4, h⟩ := zB h
 refine zO (fun (s : Int) => ⟨[(3, .p (.int .i64 0)), (6, .p (.slc (List.map (PV.int .i64) v1))), (7, .p (.int .i64 (v1.length : Int))), (8, .p (.int .i64 s))], []⟩) (fun (o : (Unit) ⊕ (Int)) => match o with | .inl o5 => tE (cX Tryz.f118 X w D hT) (.exit 0) ⟨[(3, .p (.int .i64 0))], []⟩ | .inr o6 => tR Tryz.prog Tryz.f118 (.int .i64 o6)) h4 ?_ ?_
 clear h h4
 intro t7 x h
 simp only [cmp_Or_int_l1] at h
 refine zs (zr ?_)
 refine zU (zl (zn (zs ?_)))
 rcases zI h with ⟨h8, h⟩ | ⟨h8, h⟩
 refine zi (zk (zn (zs (zb (zs (zr ?_))))))
 obtain ⟨x9, h10, h10a, h10b, h⟩ := zX h
 refine zU (zl (zn (zs (zr ?_))))
 refine zU (zl (zn ?_))
 rcases zI h with ⟨h11, h⟩ | ⟨h11, h⟩
 refine zi (zs (zr ?_))
 refine zU (zl (zn (zq (yr (zt ?_)))))
 cases h
 exact ⟨rfl, zT Tryz.results118⟩
 refine zj (zk (yn (zn (zr ?_))))
 refine zU (zl ?_)
 cases h
 exact ⟨rfl, zE⟩
 refine zj (zx (ze ?_))
 cases h
 exact ⟨rfl, zE⟩
 rcases o3 with ⟨⟩ | r12
 try simp only at h
 refine zA (yh (zn (zs (zr ?_))))
 refine zU (zl (zn (zq ?_)))
 cases h
 exact zT Tryz.results118
 try simp only at h
 refine zZ fun s hq => ?_
 refine yr (zt ?_)
 cases h
 exact hq
end Go.Proofs.YtlaodgbkpmdhoaaGreatDoor
set_option linter.unusedVariables false
set_option linter.unusedSimpArgs false
namespace Go.Proofs.YtlaodgbkpmdhoaaGreatDoor
open Go Go.Ab
set_option maxHeartbeats 4000000 in
theorem cmp_isNaN_int_con {D : Prop} (x1 : Int) (r2 : Bool) (h : cmp_isNaN_int x1 = some r2) : Con D Tryz.prog 139 [(.int .i64 x1)] (.bool r2) := by
 refine zP Tryz.call139 Tryz.func139 rfl Tryz.ntmps139 fun X w hT => ?_
 simp only [cmp_isNaN_int] at h
 refine zs (zr ?_)
 refine zU (zl (zn (zs (zr ?_))))
 refine zU (zl (zn (zq ?_)))
 cases h
 exact zT Tryz.results139
end Go.Proofs.YtlaodgbkpmdhoaaGreatDoor
set_option linter.unusedVariables false
set_option linter.unusedSimpArgs false
namespace Go.Proofs.YtlaodgbkpmdhoaaGreatDoor
open Go Go.Ab
set_option maxHeartbeats 4000000 in
theorem cmp_Compare_int_con {D : Prop} (x1 : Int) (y2 : Int) (r3 : Int) (h : cmp_Compare_int x1 y2 = some r3) : Con D Tryz.prog 119 [(.int .i64 x1), (.int .i64 y2)] (.int .i64 r3) := by
 refine zP Tryz.call119 Tryz.func119 rfl Tryz.ntmps119 fun X w hT => ?_
 simp only [cmp_Compare_int] at h
 refine zs (zr ?_)
 refine zU (zl (zn (zs (zr ?_))))
 refine zU ?_
 obtain ⟨r4, h5, h⟩ := zB h
 refine zc (cmp_isNaN_int_con x1 _ h5) ?_
 refine zU (zl (zn (zs (zr ?_))))
 refine zU ?_
 obtain ⟨r6, h7, h⟩ := zB h
 refine zc (cmp_isNaN_int_con y2 _ h7) ?_
 refine zU (zl (zn (zs (zs (zr ?_)))))
 refine zU (zl (zn ?_))
 rcases zI h with ⟨h8, h⟩ | ⟨h8, h⟩
 refine zi (zs (zs (zr ?_)))
 refine zU (zl (zn ?_))
 rcases zI h with ⟨h9, h⟩ | ⟨h9, h⟩
 refine zi (zs (zr ?_))
 refine zU (zl (zn (zq (zt (zt ?_)))))
 cases h
 exact zT Tryz.results119
 refine zj (zk (zn (zs (zr ?_))))
 refine zU (zl (zn (zq (zt ?_))))
 cases h
 exact zT Tryz.results119
 refine zj (zk (zn (zs (zs (zr ?_)))))
 refine zU (zl (zn ?_))
 rcases zI h with ⟨h10, h⟩ | ⟨h10, h⟩
 refine zi (zs (zr ?_))
 refine zU (zl (zn (zq (zt ?_))))
 cases h
 exact zT Tryz.results119
 refine zj (zk (zn (zs (zs (zr ?_)))))
 refine zU (zl (zn ?_))
 rcases zI h with ⟨h11, h⟩ | ⟨h11, h⟩
 refine zi (zs (zr ?_))
 refine zU (zl (zn (zq (zt ?_))))
 cases h
 exact zT Tryz.results119
 refine zj (zk (zn (zs (zs (zr ?_)))))
 refine zU (zl (zn ?_))
 rcases zI h with ⟨h12, h⟩ | ⟨h12, h⟩
 refine zi (zs (zr ?_))
 refine zU (zl (zn (zq (zt ?_))))
 cases h
 exact zT Tryz.results119
 refine zj (zk (zn (zs (zr ?_))))
 refine zU (zl (zn (zq ?_)))
 cases h
 exact zT Tryz.results119
end Go.Proofs.YtlaodgbkpmdhoaaGreatDoor
set_option linter.unusedVariables false
set_option linter.unusedSimpArgs false
namespace Go.Proofs.YtlaodgbkpmdhoaaGreatDoor
open Go Go.Ab
set_option maxHeartbeats 4000000 in
theorem cmp_isNaN_int64_con {D : Prop} (x1 : Int) (r2 : Bool) (h : cmp_isNaN_int64 x1 = some r2) : Con D Tryz.prog 140 [(.int .i64 x1)] (.bool r2) := by
 refine zP Tryz.call140 Tryz.func140 rfl Tryz.ntmps140 fun X w hT => ?_
 simp only [cmp_isNaN_int64] at h
 refine zs (zr ?_)
 refine zU (zl (zn (zs (zr ?_))))
 refine zU (zl (zn (zq ?_)))
 cases h
 exact zT Tryz.results140
end Go.Proofs.YtlaodgbkpmdhoaaGreatDoor
set_option linter.unusedVariables false
set_option linter.unusedSimpArgs false
namespace Go.Proofs.YtlaodgbkpmdhoaaGreatDoor
open Go Go.Ab
set_option maxHeartbeats 4000000 in
theorem cmp_Compare_int64_con {D : Prop} (x1 : Int) (y2 : Int) (r3 : Int) (h : cmp_Compare_int64 x1 y2 = some r3) : Con D Tryz.prog 120 [(.int .i64 x1), (.int .i64 y2)] (.int .i64 r3) := by
 refine zP Tryz.call120 Tryz.func120 rfl Tryz.ntmps120 fun X w hT => ?_
 simp only [cmp_Compare_int64] at h
 refine zs (zr ?_)
 refine zU (zl (zn (zs (zr ?_))))
 refine zU ?_
 obtain ⟨r4, h5, h⟩ := zB h
 refine zc (cmp_isNaN_int64_con x1 _ h5) ?_
 refine zU (zl (zn (zs (zr ?_))))
 refine zU ?_
 obtain ⟨r6, h7, h⟩ := zB h
 refine zc (cmp_isNaN_int64_con y2 _ h7) ?_
 refine zU (zl (zn (zs (zs (zr ?_)))))
 refine zU (zl (zn ?_))
 rcases zI h with ⟨h8, h⟩ | ⟨h8, h⟩
 refine zi (zs (zs (zr ?_)))
 refine zU (zl (zn ?_))
 rcases zI h with ⟨h9, h⟩ | ⟨h9, h⟩
 refine zi (zs (zr ?_))
 refine zU (zl (zn (zq (zt (zt ?_)))))
 cases h
 exact zT Tryz.results120
 refine zj (zk (zn (zs (zr ?_))))
 refine zU (zl (zn (zq (zt ?_))))
 cases h
 exact zT Tryz.results120
 refine zj (zk (zn (zs (zs (zr ?_)))))
 refine zU (zl (zn ?_))
 rcases zI h with ⟨h10, h⟩ | ⟨h10, h⟩
 refine zi (zs (zr ?_))
 refine zU (zl (zn (zq (zt ?_))))
 cases h
 exact zT Tryz.results120
 refine zj (zk (zn (zs (zs (zr ?_)))))
 refine zU (zl (zn ?_))
 rcases zI h with ⟨h11, h⟩ | ⟨h11, h⟩
 refine zi (zs (zr ?_))
 refine zU (zl (zn (zq (zt ?_))))
 cases h
 exact zT Tryz.results120
 refine zj (zk (zn (zs (zs (zr ?_)))))
 refine zU (zl (zn ?_))
 rcases zI h with ⟨h12, h⟩ | ⟨h12, h⟩
 refine zi (zs (zr ?_))
 refine zU (zl (zn (zq (zt ?_))))
 cases h
 exact zT Tryz.results120
 refine zj (zk (zn (zs (zr ?_))))
 refine zU (zl (zn (zq ?_)))
 cases h
 exact zT Tryz.results120
end Go.Proofs.YtlaodgbkpmdhoaaGreatDoor
namespace Go.Proofs.YtlaodgbkpmdhoaaGreatDoor
open Go Go.Ab
theorem ext171 (a b : List UInt8) (w : World) : (callFunc 171 #[.string ⟨a.toArray⟩, .string ⟨b.toArray⟩]).run Tryz.prog w = .ok (.value (.int .i64 (Lib.compareBytes a b))) w := by
  rw [run_callFunc_extern Tryz.func171 (by kernel_rfl) (by kernel_rfl) (by kernel_rfl) (e := Extern.BytealgCompare.compare) (by kernel_rfl), Lib.run_compareString]
  rfl
end Go.Proofs.YtlaodgbkpmdhoaaGreatDoor
set_option linter.unusedVariables false
set_option linter.unusedSimpArgs false
namespace Go.Proofs.YtlaodgbkpmdhoaaGreatDoor
open Go Go.Ab
set_option maxHeartbeats 4000000 in
theorem bytealg_CompareString_con {D : Prop} (a1 : List UInt8) (b2 : List UInt8) (r3 : Int) (h : bytealg_CompareString a1 b2 = some r3) : Con D Tryz.prog 141 [(.str a1), (.str b2)] (.int .i64 r3) := by
 refine zP Tryz.call141 Tryz.func141 rfl Tryz.ntmps141 fun X w hT => ?_
 simp only [bytealg_CompareString] at h
 refine zs (zr ?_)
 refine zU (zl (zn (zs (zr ?_))))
 refine zU ?_
 refine AL_ext2 (ext171 a1 b2) (by simp only [go_sem, seval]; all_goals ((repeat' refine And.intro ?_ ?_) <;> first | rfl | (simp; done) | (simp; rfl) | (simp [*]; done) | (simp [*]; rfl))) (by simp only [go_sem, seval]; all_goals ((repeat' refine And.intro ?_ ?_) <;> first | rfl | (simp; done) | (simp; rfl) | (simp [*]; done) | (simp [*]; rfl))) rfl ?_
 refine zU (zl (zn (zq ?_)))
 cases h
 exact zT Tryz.results141
end Go.Proofs.YtlaodgbkpmdhoaaGreatDoor
set_option linter.unusedVariables false
set_option linter.unusedSimpArgs false
namespace Go.Proofs.YtlaodgbkpmdhoaaGreatDoor
open Go Go.Ab
set_option maxHeartbeats 4000000 in
theorem strings_Compare_con {D : Prop} (a1 : List UInt8) (b2 : List UInt8) (r3 : Int) (h : strings_Compare a1 b2 = some r3) : Con D Tryz.prog 121 [(.str a1), (.str b2)] (.int .i64 r3) := by
 refine zP Tryz.call121 Tryz.func121 rfl Tryz.ntmps121 fun X w hT => ?_
 simp only [strings_Compare] at h
 refine zs (zr ?_)
 refine zU (zl (zn (zs (zr ?_))))
 refine zU ?_
 obtain ⟨r4, h5, h⟩ := zB h
 refine zc (bytealg_CompareString_con a1 b2 _ h5) ?_
 refine zU (zl (zn (zq ?_)))
 cases h
 exact zT Tryz.results121
end Go.Proofs.YtlaodgbkpmdhoaaGreatDoor
set_option linter.unusedVariables false
set_option linter.unusedSimpArgs false
namespace Go.Proofs.YtlaodgbkpmdhoaaGreatDoor
open Go Go.Ab
set_option maxRecDepth 20000 in
set_option maxHeartbeats 4000000 in
theorem value_Compare_con {D : Prop} (a1 : Value) (b2 : Value) (r3 : Int) (h : value_Compare a1 b2 = some r3) : Con D Tryz.prog 78 [(encValue a1), (encValue b2)] (.int .i64 r3) := by
 refine zP Tryz.call78 Tryz.func78 rfl Tryz.ntmps78 fun X w hT => ?_
 simp only [value_Compare] at h
 refine zs (zr ?_)
 refine zU (zl (zn (zs (zd ?_))))
 refine yU ?_
 obtain ⟨r4, h5, h⟩ := zB h
 refine yc (cmp_Compare_int_con a1.Kind b2.Kind _ h5) ?_
 refine yU ?_
 obtain ⟨r6, h7, h⟩ := zB h
 refine yc (cmp_Compare_int64_con a1.Num b2.Num _ h7) ?_
 refine yU ?_
 obtain ⟨r8, h9, h⟩ := zB h
 refine yc (strings_Compare_con a1.Str b2.Str _ h9) ?_
 refine yU ?_
 obtain ⟨r10, h11, h⟩ := zB h
 refine yc (cmp_Or_int_con [r4, r6, r8] _ h11) ?_
 refine yU ?_
 refine yd (zn (zq ?_))
 cases h
 exact zT Tryz.results78
end Go.Proofs.YtlaodgbkpmdhoaaGreatDoor
set_option linter.unusedVariables false
set_option linter.unusedSimpArgs false
namespace Go.Proofs.YtlaodgbkpmdhoaaGreatDoor
open Go Go.Ab
set_option maxHeartbeats 4000000 in
theorem slices_Index_Term_con {D : Prop} (s1 : List Term) (v2 : Term) (r3 : Int) (h : slices_Index_Term s1 v2 = some r3) : Con D Tryz.prog 117 [(.slc (List.map encTerm s1)), (encTerm v2)] (.int .i64 r3) := by
 refine zP Tryz.call117 Tryz.func117 rfl Tryz.ntmps117 fun X w hT => ?_
 simp only [slices_Index_Term] at h
 refine zs (zr ?_)
 refine zU (zl (zn (zs (zs (zr ?_)))))
 refine zU (zl (zn (zb ?_)))
 obtain ⟨o4, h5, h⟩ := zB h
 refine zO (fun (s : Int) => ⟨[(0, .p (.slc (List.map encTerm s1))), (3, .loc 3 1 0 0), (7, .p (.int .i64 (s1.length : Int))), (8, .p (.int .i64 s))], [(3, .arr 29 5 1 [.p (encTerm v2)])]⟩) (fun (o : (Unit) ⊕ (Int)) => match o with | .inl o6 => tE (cX Tryz.f117 X w D hT) (.exit 0) ⟨[], []⟩ | .inr o7 => tR Tryz.prog Tryz.f117 (.int .i64 o7)) h5 ?_ ?_
 clear h h5
 intro t8 x h
 simp only [slices_Index_Term_l1] at h
 refine zs (zr ?_)
 refine zU (zl (zn (zs ?_)))
 rcases zI h with ⟨h9, h⟩ | ⟨h9, h⟩
 refine zi (zk (zn (zs (zb (zs (zr ?_))))))
 refine zU (zl (zn (zs (zd ?_))))
 obtain ⟨x10, h11, h11a, h11b, h⟩ := zX h
 refine yU ?_
 refine yd (zn ?_)
 rcases zI h with ⟨h12, h⟩ | ⟨h12, h⟩
 refine zi (zs (zr ?_))
 refine zU (zl (zn (zq (yr (zt ?_)))))
 cases h
 exact ⟨rfl, zT Tryz.results117⟩
 refine zj (zk (yn (zn (zr ?_))))
 refine zU (zl ?_)
 cases h
 exact ⟨rfl, zE⟩
 refine zj (zx (ze ?_))
 cases h
 exact ⟨rfl, zE⟩
 rcases o4 with ⟨⟩ | r13
 try simp only at h
 refine zA (yh (zn (zs (zr ?_))))
 refine zU (zl (zn (zq ?_)))
 cases h
 exact zT Tryz.results117
 try simp only at h
 refine zZ fun s hq => ?_
 refine yr (zt ?_)
 cases h
 exact hq
end Go.Proofs.YtlaodgbkpmdhoaaGreatDoor
set_option linter.unusedVariables false
set_option linter.unusedSimpArgs false
namespace Go.Proofs.YtlaodgbkpmdhoaaGreatDoor
open Go Go.Ab
set_option maxRecDepth 20000 in
set_option maxHeartbeats 4000000 in
theorem denial_Contradictory_con {D : Prop} (a1 : List Atom) (r2 : Bool) (h : denial_Contradictory a1 = some r2) : Con D Tryz.prog 27 [(.slc (List.map encAtom a1))] (.bool r2) := by
 refine zP Tryz.call27 Tryz.func27 rfl Tryz.ntmps27 fun X w hT => ?_
 simp only [denial_Contradictory] at h
 refine zs (zr ?_)
 refine zU (zl (zn (zs (zr ?_))))
 refine zU (zl (zn (zs (zs (zr ?_)))))
 refine zU (zl (zn (zb ?_)))
 obtain ⟨o3, h4, h⟩ := zB h
 refine zO (fun (s : List Term × List (List Int) × Int) => ⟨[(0, .p (.slc (List.map encAtom a1))), (3, .loc 3 1 0 0), (15, .p (.slc (List.map encAtom a1))), (16, .p (.int .i64 (a1.length : Int))), (17, .p (.int .i64 s.2.2))], ((3, .arr 126 1 1 [.loc 14 1 0 0]) :: (14, .arr 130 2 1 [.agg [.own 220112 1 0 s.1.length, .own 220113 1 0 s.2.1.length]]) :: (220112, .arr 29 5 1 (List.map AV.p (List.map encTerm s.1))) :: (220113, .arr 62 1 1 (famR 220113 3 1 1 (PV.int .i64) s.2.1)) :: famL 220113 3 1 1 (PV.int .i64) s.2.1 [])⟩) (fun (o5 : List Term × List (List Int)) => tE (cX Tryz.f27 X w D hT) (.exit 0) ⟨[(0, .p (.slc (List.map encAtom a1))), (3, .loc 3 1 0 0)], ((3, .arr 126 1 1 [.loc 14 1 0 0]) :: (14, .arr 130 2 1 [.agg [.own 220112 1 0 o5.1.length, .own 220113 1 0 o5.2.length]]) :: (220112, .arr 29 5 1 (List.map AV.p (List.map encTerm o5.1))) :: (220113, .arr 62 1 1 (famR 220113 3 1 1 (PV.int .i64) o5.2)) :: famL 220113 3 1 1 (PV.int .i64) o5.2 [])⟩) h4 ?_ ?_
 clear h h4
 intro s x h
 obtain ⟨o6, o7, t8⟩ := s
 simp only [denial_Contradictory_l19] at h
 dsimp only
 refine zs (zr ?_)
 refine zU (zl (zn (zs ?_)))
 rcases zI h with ⟨h9, h⟩ | ⟨h9, h⟩
 have h9T := eq_true h9
 refine zi (zk (zn (zs (zb (zs (zr ?_))))))
 obtain ⟨x10, h11, h11a, h11b, h⟩ := zX h
 refine zU (zl (zn ?_))
 obtain ⟨o12, h13, h⟩ := zB h
 refine zJ (fun (o14 : List Term × List (List Int) × Int × Int) => tE (cX Tryz.f27 X w D hT) .normal ⟨[(0, .p (.slc (List.map encAtom a1))), (3, .loc 3 1 0 0), (5, .loc 5 1 0 0), (6, .p (.int .i64 o14.2.2.1)), (7, .p (.int .i64 o14.2.2.2)), (15, .p (.slc (List.map encAtom a1))), (16, .p (.int .i64 (a1.length : Int))), (17, .p (.int .i64 t8))], ((3, .arr 126 1 1 [.loc 14 1 0 0]) :: (5, .arr 31 11 1 [.p (encAtom x10)]) :: (14, .arr 130 2 1 [.agg [.own 220112 1 0 o14.1.length, .own 220113 1 0 o14.2.1.length]]) :: (220112, .arr 29 5 1 (List.map AV.p (List.map encTerm o14.1))) :: (220113, .arr 62 1 1 (famR 220113 3 1 1 (PV.int .i64) o14.2.1)) :: famL 220113 3 1 1 (PV.int .i64) o14.2.1 [])⟩) o12 ?_ ?_
 replace h := h13
 clear h13
 refine zL ⟨[(0, .p (.slc (List.map encAtom a1))), (3, .loc 3 1 0 0), (5, .loc 5 1 0 0), (15, .p (.slc (List.map encAtom a1))), (16, .p (.int .i64 (a1.length : Int))), (17, .p (.int .i64 t8))], ((3, .arr 126 1 1 [.loc 14 1 0 0]) :: (5, .arr 31 11 1 [.p (encAtom x10)]) :: (14, .arr 130 2 1 [.agg [.own 220112 1 0 o6.length, .own 220113 1 0 o7.length]]) :: (220112, .arr 29 5 1 (List.map AV.p (List.map encTerm o6))) :: (220113, .arr 62 1 1 (famR 220113 3 1 1 (PV.int .i64) o7)) :: famL 220113 3 1 1 (PV.int .i64) o7 [])⟩ ?_
 refine zH [3, 5] mixed (fun i15 w16 h17 r18 h19 h20 => ?_)
 refine zHl 0 3 h19 ?_
 refine zHf 1 ?_
 refine zHl 2 5 h19 ?_
 refine zHl 4 3 h19 ?_
 refine zHf 5 ?_
 refine zHl 6 5 h19 ?_
 refine zHs 3 h20 ?_
 refine zM ⟨[(0, .p (.slc (List.map encAtom a1))), (3, .loc 3 1 0 0), (5, .loc 5 1 0 0), (15, .p (.slc (List.map encAtom a1))), (16, .p (.int .i64 (a1.length : Int))), (17, .p (.int .i64 t8)), (21, .loc 14 1 0 0), (23, .p (encTerm x10.Left)), (25, .loc 14 1 0 0), (27, .p (encTerm x10.Right))], ((3, .arr 126 1 1 [.loc 14 1 0 0]) :: (5, .arr 31 11 1 [.p (encAtom x10)]) :: (14, .arr 130 2 1 [.agg [.own 220112 1 0 o6.length, .own 220113 1 0 o7.length]]) :: (220112, .arr 29 5 1 (List.map AV.p (List.map encTerm o6))) :: (220113, .arr 62 1 1 (famR 220113 3 1 1 (PV.int .i64) o7)) :: famL 220113 3 1 1 (PV.int .i64) o7 [])⟩ ?_
 refine AL_inline (avs := [.loc 14 1 0 0, .p (encTerm x10.Left)]) 121 rfl (guard_none rfl) rfl Tryz.func76 rfl Tryz.call76 Tryz.ntmps76 (by simp) (by simp only [go_sem, seval, h9T]; all_goals rfl) ?_
 intro i21 w22 h23
 refine zL ⟨[(0, .loc 14 1 0 0), (1, .p (encTerm x10.Left))], ((3, .arr 126 1 1 [.loc 14 1 0 0]) :: (5, .arr 31 11 1 [.p (encAtom x10)]) :: (14, .arr 130 2 1 [.agg [.own 220112 1 0 o6.length, .own 220113 1 0 o7.length]]) :: (220112, .arr 29 5 1 (List.map AV.p (List.map encTerm o6))) :: (220113, .arr 62 1 1 (famR 220113 3 1 2 (PV.int .i64) o7)) :: famL 220113 3 1 2 (PV.int .i64) o7 [])⟩ ?_
 refine zs (zr ?_)
 refine zU (zl (zn (zs (zd ?_))))
 refine yU ?_
 obtain ⟨r24, h25, h⟩ := zB h
 refine yc (slices_Index_Term_con o6 x10.Left _ h25) ?_
 refine yU ?_
 refine ydS ?_
 refine zn (zs (zs (zr ?_)))
 refine zU (zl (zn ?_))
 rcases zI h with ⟨h26, h⟩ | ⟨h26, h⟩
 have h26T := eq_true h26
 refine zi (zs (zr ?_))
 refine zU (zl (zn (zq (zt ?_))))
 refine inlQ_ret (by simp only [Tryz.results76]; simp only [go_sem, seval, h9T, h26T]; exact rfl) ?_
 refine zl ?_
 refine zHk ⟨stb_loc, stb_rig, trivial⟩ ?_
 refine zHs 7 h20 ?_
 refine zM ⟨[(0, .p (.slc (List.map encAtom a1))), (3, .loc 3 1 0 0), (5, .loc 5 1 0 0), (15, .p (.slc (List.map encAtom a1))), (16, .p (.int .i64 (a1.length : Int))), (17, .p (.int .i64 t8)), (24, .p (.int .i64 r24)), (25, .loc 14 1 0 0), (27, .p (encTerm x10.Right))], ((3, .arr 126 1 1 [.loc 14 1 0 0]) :: (5, .arr 31 11 1 [.p (encAtom x10)]) :: (14, .arr 130 2 1 [.agg [.own 220112 1 0 o6.length, .own 220113 1 0 o7.length]]) :: (220112, .arr 29 5 1 (List.map AV.p (List.map encTerm o6))) :: (220113, .arr 62 1 1 (famR 220113 3 1 2 (PV.int .i64) o7)) :: famL 220113 3 1 2 (PV.int .i64) o7 [])⟩ ?_
 refine AL_inline (avs := [.loc 14 1 0 0, .p (encTerm x10.Right)]) 202 rfl (guard_none rfl) rfl Tryz.func76 rfl Tryz.call76 Tryz.ntmps76 (by simp) (by simp only [go_sem, seval, h9T, h26T]; all_goals rfl) ?_
 intro i27 w28 h29
 refine zL ⟨[(0, .loc 14 1 0 0), (1, .p (encTerm x10.Right))], ((3, .arr 126 1 1 [.loc 14 1 0 0]) :: (5, .arr 31 11 1 [.p (encAtom x10)]) :: (14, .arr 130 2 1 [.agg [.own 220112 1 0 o6.length, .own 220113 1 0 o7.length]]) :: (220112, .arr 29 5 1 (List.map AV.p (List.map encTerm o6))) :: (220113, .arr 62 1 1 (famR 220113 3 1 3 (PV.int .i64) o7)) :: famL 220113 3 1 3 (PV.int .i64) o7 [])⟩ ?_
 refine zs (zr ?_)
 refine zU (zl (zn (zs (zd ?_))))
 refine yU ?_
 obtain ⟨r30, h31, h⟩ := zB h
 refine yc (slices_Index_Term_con o6 x10.Right _ h31) ?_
 refine yU ?_
 refine ydS ?_
 refine zn (zs (zs (zr ?_)))
 refine zU (zl (zn ?_))
 rcases zI h with ⟨h32, h⟩ | ⟨h32, h⟩
 have h32T := eq_true h32
 refine zi (zs (zr ?_))
 refine zU (zl (zn (zq (zt ?_))))
 refine inlQ_ret (by simp only [Tryz.results76]; simp only [go_sem, seval, h9T, h26T, h32T]; exact rfl) ?_
 refine zl ?_
 refine zHk ⟨stb_loc, stb_rig, trivial⟩ ?_
 refine zHm 8 ?_
 refine zHm 9 ?_
 refine zHe ?_
 cases h
 exact ⟨rfl, zE⟩
 have h32T := eq_false h32
 refine zj (zk (zn (zs (zd ?_))))
 obtain ⟨h33, h⟩ := ite_some h
 refine yU ?_
 refine ydS ?_
 refine zn (zs (zs (zr ?_)))
 refine zU (zl (zn (zb ?_)))
 obtain ⟨o34, h35, h⟩ := zB h
 refine zO (fun (s : List (List Int) × Int) => ⟨[(0, .loc 14 1 0 0), (30, .p (.int .i64 ((o7.length : Nat) : Int))), (31, .p (.int .i64 s.2))], ((3, .arr 126 1 1 [.loc 14 1 0 0]) :: (5, .arr 31 11 1 [.p (encAtom x10)]) :: (14, .arr 130 2 1 [.agg [.own 220112 2 0 (o6.length + 1), .own 220113 1 0 s.1.length]]) :: (220112, .arr 29 5 2 (List.map AV.p (List.map encTerm (o6 ++ [x10.Right])))) :: (220113, .arr 62 1 1 (famR 220113 3 1 3 (PV.int .i64) s.1)) :: famL 220113 3 1 3 (PV.int .i64) s.1 [])⟩) (fun (o36 : List (List Int)) => tE ⟨Tryz.prog, 81, 202, X, ((3, .arr 126 1 1 [.loc 14 1 0 0]) :: (5, .arr 31 11 1 [.p (encAtom x10)]) :: (14, .arr 130 2 1 [.agg [.own 220112 1 0 o6.length, .own 220113 1 0 o7.length]]) :: (220112, .arr 29 5 1 (List.map AV.p (List.map encTerm o6))) :: (220113, .arr 62 1 1 (famR 220113 3 1 2 (PV.int .i64) o7)) :: famL 220113 3 1 2 (PV.int .i64) o7 []), i27, w28, D, h29⟩ (.exit 0) ⟨[(0, .loc 14 1 0 0)], ((3, .arr 126 1 1 [.loc 14 1 0 0]) :: (5, .arr 31 11 1 [.p (encAtom x10)]) :: (14, .arr 130 2 1 [.agg [.own 220112 2 0 (o6.length + 1), .own 220113 1 0 o36.length]]) :: (220112, .arr 29 5 2 (List.map AV.p (List.map encTerm (o6 ++ [x10.Right])))) :: (220113, .arr 62 1 1 (famR 220113 3 1 3 (PV.int .i64) o36)) :: famL 220113 3 1 3 (PV.int .i64) o36 [])⟩) h35 ?_ ?_
 clear h h9 h9T h11 h11a h11b h25 h26 h26T h31 h32 h32T h33 h35
 intro s x h
 obtain ⟨o37, t38⟩ := s
 simp only [denial_Contradictory_l16] at h
 dsimp only
 refine zs (zr ?_)
 obtain ⟨h39, h⟩ := ite_some h
 have h39T : keysLe (o7.length) o37 = True := eq_true h39
 refine zU (zl (zn (zs ?_)))
 rcases zI h with ⟨h40, h⟩ | ⟨h40, h⟩
 refine zi (zk (zn (zs (zb (zs (zr ?_))))))
 refine zU (zl (zn (zd ?_)))
 obtain ⟨x41, h42, h42a, h42b, h⟩ := zX h
 obtain ⟨h43, h⟩ := ite_some h
 refine yU ?_
 refine ydS ?_
 refine yn (zn ?_)
 refine zL ⟨[(0, .loc 14 1 0 0), (30, .p (.int .i64 ((o7.length : Nat) : Int))), (31, .p (.int .i64 t38))], ((3, .arr 126 1 1 [.loc 14 1 0 0]) :: (5, .arr 31 11 1 [.p (encAtom x10)]) :: (14, .arr 130 2 1 [.agg [.own 220112 2 0 (o6.length + 1), .own 220113 1 0 ((o37.set t38.toNat (x41 ++ [0]))).length]]) :: (220112, .arr 29 5 2 (List.map AV.p (List.map encTerm (o6 ++ [x10.Right])))) :: (220113, .arr 62 1 1 (famR 220113 3 1 3 (PV.int .i64) (o37.set t38.toNat (x41 ++ [0])))) :: famL 220113 3 1 3 (PV.int .i64) (o37.set t38.toNat (x41 ++ [0])) [])⟩ ?_
 refine zr ?_
 refine zU (zl ?_)
 cases h
 exact ⟨rfl, zE⟩
 refine zj (zx (ze ?_))
 cases h
 exact ⟨rfl, zE⟩
 try simp only at h
 refine zA (yh (zn (zs (zd ?_))))
 obtain ⟨h44, h⟩ := ite_some h
 have h44T : keysLe (o7.length) o34 = True := eq_true h44
 obtain ⟨h45, h⟩ := ite_some h
 obtain ⟨h46, h⟩ := ite_some h
 obtain ⟨h47, h⟩ := ite_some h
 refine yU ?_
 refine ydS ?_
 refine zn ?_
 refine zSwA 262 (fx 220113 o34.length) ?_
 refine zL ⟨[(0, .loc 14 1 0 0)], ((3, .arr 126 1 1 [.loc 14 1 0 0]) :: (5, .arr 31 11 1 [.p (encAtom x10)]) :: (14, .arr 130 2 1 [.agg [.own 220112 2 0 (o6.length + 1), .own 220113 2 0 (o34.length + 1)]]) :: (220112, .arr 29 5 2 (List.map AV.p (List.map encTerm (o6 ++ [x10.Right])))) :: (220113, .arr 62 1 2 (famR 220113 3 1 3 (PV.int .i64) (o34 ++ [(List.replicate (o6.length + 1) 0)]))) :: famL 220113 3 1 3 (PV.int .i64) (o34 ++ [(List.replicate (o6.length + 1) 0)]) [])⟩ ?_
 refine zs (zr ?_)
 refine zU (zl (zn (zs (zr ?_))))
 obtain ⟨x48, h49, h49a, h49b, h⟩ := zX h
 have hx_2966C := h49b
 simp only [List.length_append, List.length_set, List.length_cons, List.length_nil, Nat.zero_add] at hx_2966C
 obtain ⟨x50, h51, h51a, h51b, h⟩ := zX h
 refine zW 10 ?_
 refine zM ⟨[(5, .p (.int .i64 (IntKind.i64.wrap ((((o6.length + 1) : Nat) : Int) - 1))))], ((3, .arr 126 1 1 [.loc 14 1 0 0]) :: (5, .arr 31 11 1 [.p (encAtom x10)]) :: (14, .arr 130 2 1 [.agg [.own 220112 2 0 (o6.length + 1), .own 220113 2 0 (((o34 ++ [(List.replicate (o6.length + 1) 0)]).set ((IntKind.i64.wrap ((((o6.length + 1) : Nat) : Int) - 1)).toNat) (x48.set (IntKind.i64.wrap ((((o6.length + 1) : Nat) : Int) - 1)).toNat 1))).length]]) :: (220112, .arr 29 5 2 (List.map AV.p (List.map encTerm (o6 ++ [x10.Right])))) :: (220113, .arr 62 1 2 (famR 220113 3 1 3 (PV.int .i64) ((o34 ++ [(List.replicate (o6.length + 1) 0)]).set ((IntKind.i64.wrap ((((o6.length + 1) : Nat) : Int) - 1)).toNat) (x48.set (IntKind.i64.wrap ((((o6.length + 1) : Nat) : Int) - 1)).toNat 1)))) :: famL 220113 3 1 3 (PV.int .i64) ((o34 ++ [(List.replicate (o6.length + 1) 0)]).set ((IntKind.i64.wrap ((((o6.length + 1) : Nat) : Int) - 1)).toNat) (x48.set (IntKind.i64.wrap ((((o6.length + 1) : Nat) : Int) - 1)).toNat 1)) [])⟩ ?_
 refine zl (zn (zs (zr ?_)))
 refine zU (zl (zn (zq ?_)))
 refine inlQ_ret (by simp only [Tryz.results76]; simp only [go_sem, seval, h9T, h26T, h32T, h44T]; exact rfl) ?_
 refine zl ?_
 refine zHk ⟨stb_loc, stb_rig, trivial⟩ ?_
 refine zHm 8 ?_
 refine zHm 9 ?_
 refine zHe ?_
 cases h
 exact ⟨rfl, zE⟩
 have h26T := eq_false h26
 refine zj (zk (zn (zs (zd ?_))))
 obtain ⟨h52, h⟩ := ite_some h
 refine yU ?_
 refine ydS ?_
 refine zn (zs (zs (zr ?_)))
 refine zU (zl (zn (zb ?_)))
 obtain ⟨o53, h54, h⟩ := zB h
 refine zO (fun (s : List (List Int) × Int) => ⟨[(0, .loc 14 1 0 0), (30, .p (.int .i64 ((o7.length : Nat) : Int))), (31, .p (.int .i64 s.2))], ((3, .arr 126 1 1 [.loc 14 1 0 0]) :: (5, .arr 31 11 1 [.p (encAtom x10)]) :: (14, .arr 130 2 1 [.agg [.own 220112 2 0 (o6.length + 1), .own 220113 1 0 s.1.length]]) :: (220112, .arr 29 5 2 (List.map AV.p (List.map encTerm (o6 ++ [x10.Left])))) :: (220113, .arr 62 1 1 (famR 220113 3 1 2 (PV.int .i64) s.1)) :: famL 220113 3 1 2 (PV.int .i64) s.1 [])⟩) (fun (o55 : List (List Int)) => tE ⟨Tryz.prog, 81, 121, X, ((3, .arr 126 1 1 [.loc 14 1 0 0]) :: (5, .arr 31 11 1 [.p (encAtom x10)]) :: (14, .arr 130 2 1 [.agg [.own 220112 1 0 o6.length, .own 220113 1 0 o7.length]]) :: (220112, .arr 29 5 1 (List.map AV.p (List.map encTerm o6))) :: (220113, .arr 62 1 1 (famR 220113 3 1 1 (PV.int .i64) o7)) :: famL 220113 3 1 1 (PV.int .i64) o7 []), i21, w22, D, h23⟩ (.exit 0) ⟨[(0, .loc 14 1 0 0)], ((3, .arr 126 1 1 [.loc 14 1 0 0]) :: (5, .arr 31 11 1 [.p (encAtom x10)]) :: (14, .arr 130 2 1 [.agg [.own 220112 2 0 (o6.length + 1), .own 220113 1 0 o55.length]]) :: (220112, .arr 29 5 2 (List.map AV.p (List.map encTerm (o6 ++ [x10.Left])))) :: (220113, .arr 62 1 1 (famR 220113 3 1 2 (PV.int .i64) o55)) :: famL 220113 3 1 2 (PV.int .i64) o55 [])⟩) h54 ?_ ?_
 clear h h9 h9T h11 h11a h11b h25 h26 h26T h52 h54
 intro s x h
 obtain ⟨o56, t57⟩ := s
 simp only [denial_Contradictory_l17] at h
 dsimp only
 refine zs (zr ?_)
 obtain ⟨h58, h⟩ := ite_some h
 have h58T : keysLe (o7.length) o56 = True := eq_true h58
 refine zU (zl (zn (zs ?_)))
 rcases zI h with ⟨h59, h⟩ | ⟨h59, h⟩
 refine zi (zk (zn (zs (zb (zs (zr ?_))))))
 refine zU (zl (zn (zd ?_)))
 obtain ⟨x60, h61, h61a, h61b, h⟩ := zX h
 obtain ⟨h62, h⟩ := ite_some h
 refine yU ?_
 refine ydS ?_
 refine yn (zn ?_)
 refine zL ⟨[(0, .loc 14 1 0 0), (30, .p (.int .i64 ((o7.length : Nat) : Int))), (31, .p (.int .i64 t57))], ((3, .arr 126 1 1 [.loc 14 1 0 0]) :: (5, .arr 31 11 1 [.p (encAtom x10)]) :: (14, .arr 130 2 1 [.agg [.own 220112 2 0 (o6.length + 1), .own 220113 1 0 ((o56.set t57.toNat (x60 ++ [0]))).length]]) :: (220112, .arr 29 5 2 (List.map AV.p (List.map encTerm (o6 ++ [x10.Left])))) :: (220113, .arr 62 1 1 (famR 220113 3 1 2 (PV.int .i64) (o56.set t57.toNat (x60 ++ [0])))) :: famL 220113 3 1 2 (PV.int .i64) (o56.set t57.toNat (x60 ++ [0])) [])⟩ ?_
 refine zr ?_
 refine zU (zl ?_)
 cases h
 exact ⟨rfl, zE⟩
 refine zj (zx (ze ?_))
 cases h
 exact ⟨rfl, zE⟩
 try simp only at h
 refine zA (yh (zn (zs (zd ?_))))
 obtain ⟨h63, h⟩ := ite_some h
 have h63T : keysLe (o7.length) o53 = True := eq_true h63
 obtain ⟨h64, h⟩ := ite_some h
 obtain ⟨h65, h⟩ := ite_some h
 obtain ⟨h66, h⟩ := ite_some h
 refine yU ?_
 refine ydS ?_
 refine zn ?_
 refine zSwA 181 (fx 220113 o53.length) ?_
 refine zL ⟨[(0, .loc 14 1 0 0)], ((3, .arr 126 1 1 [.loc 14 1 0 0]) :: (5, .arr 31 11 1 [.p (encAtom x10)]) :: (14, .arr 130 2 1 [.agg [.own 220112 2 0 (o6.length + 1), .own 220113 2 0 (o53.length + 1)]]) :: (220112, .arr 29 5 2 (List.map AV.p (List.map encTerm (o6 ++ [x10.Left])))) :: (220113, .arr 62 1 2 (famR 220113 3 1 2 (PV.int .i64) (o53 ++ [(List.replicate (o6.length + 1) 0)]))) :: famL 220113 3 1 2 (PV.int .i64) (o53 ++ [(List.replicate (o6.length + 1) 0)]) [])⟩ ?_
 refine zs (zr ?_)
 refine zU (zl (zn (zs (zr ?_))))
 obtain ⟨x67, h68, h68a, h68b, h⟩ := zX h
 have hx_3001C := h68b
 simp only [List.length_append, List.length_set, List.length_cons, List.length_nil, Nat.zero_add] at hx_3001C
 obtain ⟨x69, h70, h70a, h70b, h⟩ := zX h
 refine zW 10 ?_
 refine zM ⟨[(5, .p (.int .i64 (IntKind.i64.wrap ((((o6.length + 1) : Nat) : Int) - 1))))], ((3, .arr 126 1 1 [.loc 14 1 0 0]) :: (5, .arr 31 11 1 [.p (encAtom x10)]) :: (14, .arr 130 2 1 [.agg [.own 220112 2 0 (o6.length + 1), .own 220113 2 0 (((o53 ++ [(List.replicate (o6.length + 1) 0)]).set ((IntKind.i64.wrap ((((o6.length + 1) : Nat) : Int) - 1)).toNat) (x67.set (IntKind.i64.wrap ((((o6.length + 1) : Nat) : Int) - 1)).toNat 1))).length]]) :: (220112, .arr 29 5 2 (List.map AV.p (List.map encTerm (o6 ++ [x10.Left])))) :: (220113, .arr 62 1 2 (famR 220113 3 1 2 (PV.int .i64) ((o53 ++ [(List.replicate (o6.length + 1) 0)]).set ((IntKind.i64.wrap ((((o6.length + 1) : Nat) : Int) - 1)).toNat) (x67.set (IntKind.i64.wrap ((((o6.length + 1) : Nat) : Int) - 1)).toNat 1)))) :: famL 220113 3 1 2 (PV.int .i64) ((o53 ++ [(List.replicate (o6.length + 1) 0)]).set ((IntKind.i64.wrap ((((o6.length + 1) : Nat) : Int) - 1)).toNat) (x67.set (IntKind.i64.wrap ((((o6.length + 1) : Nat) : Int) - 1)).toNat 1)) [])⟩ ?_
 refine zl (zn (zs (zr ?_)))
 refine zU (zl (zn (zq ?_)))
 refine inlQ_ret (by simp only [Tryz.results76]; simp only [go_sem, seval, h9T, h26T, h63T]; exact rfl) ?_
 refine zl ?_
 refine zHk ⟨stb_loc, stb_rig, trivial⟩ ?_
 refine zHs 7 h20 ?_
 refine zM ⟨[(0, .p (.slc (List.map encAtom a1))), (3, .loc 3 1 0 0), (5, .loc 5 1 0 0), (15, .p (.slc (List.map encAtom a1))), (16, .p (.int .i64 (a1.length : Int))), (17, .p (.int .i64 t8)), (24, .p (.int .i64 (IntKind.i64.wrap ((((o6.length + 1) : Nat) : Int) - 1)))), (25, .loc 14 1 0 0), (27, .p (encTerm x10.Right))], ((3, .arr 126 1 1 [.loc 14 1 0 0]) :: (5, .arr 31 11 1 [.p (encAtom x10)]) :: (14, .arr 130 2 1 [.agg [.own 220112 2 0 (o6.length + 1), .own 220113 2 0 (((o53 ++ [(List.replicate (o6.length + 1) 0)]).set ((IntKind.i64.wrap ((((o6.length + 1) : Nat) : Int) - 1)).toNat) (x67.set (IntKind.i64.wrap ((((o6.length + 1) : Nat) : Int) - 1)).toNat 1))).length]]) :: (220112, .arr 29 5 2 (List.map AV.p (List.map encTerm (o6 ++ [x10.Left])))) :: (220113, .arr 62 1 2 (famR 220113 3 1 2 (PV.int .i64) ((o53 ++ [(List.replicate (o6.length + 1) 0)]).set ((IntKind.i64.wrap ((((o6.length + 1) : Nat) : Int) - 1)).toNat) (x67.set (IntKind.i64.wrap ((((o6.length + 1) : Nat) : Int) - 1)).toNat 1)))) :: famL 220113 3 1 2 (PV.int .i64) ((o53 ++ [(List.replicate (o6.length + 1) 0)]).set ((IntKind.i64.wrap ((((o6.length + 1) : Nat) : Int) - 1)).toNat) (x67.set (IntKind.i64.wrap ((((o6.length + 1) : Nat) : Int) - 1)).toNat 1)) [])⟩ ?_
 refine AL_inline (avs := [.loc 14 1 0 0, .p (encTerm x10.Right)]) 283 rfl (guard_none rfl) rfl Tryz.func76 rfl Tryz.call76 Tryz.ntmps76 (by simp) (by simp only [go_sem, seval, h9T, h26T, h63T]; all_goals rfl) ?_
 intro i71 w72 h73
 refine zL ⟨[(0, .loc 14 1 0 0), (1, .p (encTerm x10.Right))], ((3, .arr 126 1 1 [.loc 14 1 0 0]) :: (5, .arr 31 11 1 [.p (encAtom x10)]) :: (14, .arr 130 2 1 [.agg [.own 220112 2 0 (o6.length + 1), .own 220113 2 0 (((o53 ++ [(List.replicate (o6.length + 1) 0)]).set ((IntKind.i64.wrap ((((o6.length + 1) : Nat) : Int) - 1)).toNat) (x67.set (IntKind.i64.wrap ((((o6.length + 1) : Nat) : Int) - 1)).toNat 1))).length]]) :: (220112, .arr 29 5 2 (List.map AV.p (List.map encTerm (o6 ++ [x10.Left])))) :: (220113, .arr 62 1 2 (famR 220113 3 1 3 (PV.int .i64) ((o53 ++ [(List.replicate (o6.length + 1) 0)]).set ((IntKind.i64.wrap ((((o6.length + 1) : Nat) : Int) - 1)).toNat) (x67.set (IntKind.i64.wrap ((((o6.length + 1) : Nat) : Int) - 1)).toNat 1)))) :: famL 220113 3 1 3 (PV.int .i64) ((o53 ++ [(List.replicate (o6.length + 1) 0)]).set ((IntKind.i64.wrap ((((o6.length + 1) : Nat) : Int) - 1)).toNat) (x67.set (IntKind.i64.wrap ((((o6.length + 1) : Nat) : Int) - 1)).toNat 1)) [])⟩ ?_
 refine zs (zr ?_)
 refine zU (zl (zn (zs (zd ?_))))
 refine yU ?_
 obtain ⟨r74, h75, h⟩ := zB h
 refine yc (slices_Index_Term_con (o6 ++ [x10.Left]) x10.Right _ h75) ?_
 refine yU ?_
 refine ydS ?_
 refine zn (zs (zs (zr ?_)))
 refine zU (zl (zn ?_))
 rcases zI h with ⟨h76, h⟩ | ⟨h76, h⟩
 have h76T := eq_true h76
 refine zi (zs (zr ?_))
 refine zU (zl (zn (zq (zt ?_))))
 refine inlQ_ret (by simp only [Tryz.results76]; simp only [go_sem, seval, h9T, h26T, h63T, h76T]; exact rfl) ?_
 refine zl ?_
 refine zHk ⟨stb_loc, stb_rig, trivial⟩ ?_
 refine zHm 8 ?_
 refine zHm 9 ?_
 refine zHe ?_
 cases h
 exact ⟨rfl, zE⟩
 have h76T := eq_false h76
 refine zj (zk (zn (zs (zd ?_))))
 obtain ⟨h77, h⟩ := ite_some h
 refine yU ?_
 refine ydS ?_
 refine zn (zs (zs (zr ?_)))
 refine zU (zl (zn (zb ?_)))
 obtain ⟨o78, h79, h⟩ := zB h
 refine zO (fun (s : List (List Int) × Int) => ⟨[(0, .loc 14 1 0 0), (30, .p (.int .i64 (((((o53 ++ [(List.replicate (o6.length + 1) 0)]).set ((IntKind.i64.wrap ((((o6.length + 1) : Nat) : Int) - 1)).toNat) (x67.set (IntKind.i64.wrap ((((o6.length + 1) : Nat) : Int) - 1)).toNat 1))).length : Nat) : Int))), (31, .p (.int .i64 s.2))], ((3, .arr 126 1 1 [.loc 14 1 0 0]) :: (5, .arr 31 11 1 [.p (encAtom x10)]) :: (14, .arr 130 2 1 [.agg [.own 220112 3 0 ((o6.length + 1) + 1), .own 220113 2 0 s.1.length]]) :: (220112, .arr 29 5 3 (List.map AV.p (List.map encTerm ((o6 ++ [x10.Left]) ++ [x10.Right])))) :: (220113, .arr 62 1 2 (famR 220113 3 1 3 (PV.int .i64) s.1)) :: famL 220113 3 1 3 (PV.int .i64) s.1 [])⟩) (fun (o80 : List (List Int)) => tE ⟨Tryz.prog, 81, 283, X, ((3, .arr 126 1 1 [.loc 14 1 0 0]) :: (5, .arr 31 11 1 [.p (encAtom x10)]) :: (14, .arr 130 2 1 [.agg [.own 220112 2 0 (o6.length + 1), .own 220113 2 0 (((o53 ++ [(List.replicate (o6.length + 1) 0)]).set ((IntKind.i64.wrap ((((o6.length + 1) : Nat) : Int) - 1)).toNat) (x67.set (IntKind.i64.wrap ((((o6.length + 1) : Nat) : Int) - 1)).toNat 1))).length]]) :: (220112, .arr 29 5 2 (List.map AV.p (List.map encTerm (o6 ++ [x10.Left])))) :: (220113, .arr 62 1 2 (famR 220113 3 1 2 (PV.int .i64) ((o53 ++ [(List.replicate (o6.length + 1) 0)]).set ((IntKind.i64.wrap ((((o6.length + 1) : Nat) : Int) - 1)).toNat) (x67.set (IntKind.i64.wrap ((((o6.length + 1) : Nat) : Int) - 1)).toNat 1)))) :: famL 220113 3 1 2 (PV.int .i64) ((o53 ++ [(List.replicate (o6.length + 1) 0)]).set ((IntKind.i64.wrap ((((o6.length + 1) : Nat) : Int) - 1)).toNat) (x67.set (IntKind.i64.wrap ((((o6.length + 1) : Nat) : Int) - 1)).toNat 1)) []), i71, w72, D, h73⟩ (.exit 0) ⟨[(0, .loc 14 1 0 0)], ((3, .arr 126 1 1 [.loc 14 1 0 0]) :: (5, .arr 31 11 1 [.p (encAtom x10)]) :: (14, .arr 130 2 1 [.agg [.own 220112 3 0 ((o6.length + 1) + 1), .own 220113 2 0 o80.length]]) :: (220112, .arr 29 5 3 (List.map AV.p (List.map encTerm ((o6 ++ [x10.Left]) ++ [x10.Right])))) :: (220113, .arr 62 1 2 (famR 220113 3 1 3 (PV.int .i64) o80)) :: famL 220113 3 1 3 (PV.int .i64) o80 [])⟩) h79 ?_ ?_
 clear h h9 h9T h11 h11a h11b h25 h26 h26T h52 h54 h63 h63T h64 h65 h66 h68 h68a h68b hx_3001C h70 h70a h70b h75 h76 h76T h77 h79
 intro s x h
 obtain ⟨o81, t82⟩ := s
 simp only [denial_Contradictory_l18] at h
 dsimp only
 refine zs (zr ?_)
 obtain ⟨h83, h⟩ := ite_some h
 have h83T : keysLe ((o53 ++ [(List.replicate (o6.length + 1) 0)]).length) o81 = True := eq_true h83
 try simp only [go_sem, seval] at h83T
 refine zU (zl (zn (zs ?_)))
 rcases zI h with ⟨h84, h⟩ | ⟨h84, h⟩
 refine zi (zk (zn (zs (zb (zs (zr ?_))))))
 refine zU (zl (zn (zd ?_)))
 obtain ⟨x85, h86, h86a, h86b, h⟩ := zX h
 obtain ⟨h87, h⟩ := ite_some h
 refine yU ?_
 refine ydS ?_
 refine yn (zn ?_)
 refine zL ⟨[(0, .loc 14 1 0 0), (30, .p (.int .i64 (((((o53 ++ [(List.replicate (o6.length + 1) 0)]).set ((IntKind.i64.wrap ((((o6.length + 1) : Nat) : Int) - 1)).toNat) (x67.set (IntKind.i64.wrap ((((o6.length + 1) : Nat) : Int) - 1)).toNat 1))).length : Nat) : Int))), (31, .p (.int .i64 t82))], ((3, .arr 126 1 1 [.loc 14 1 0 0]) :: (5, .arr 31 11 1 [.p (encAtom x10)]) :: (14, .arr 130 2 1 [.agg [.own 220112 3 0 ((o6.length + 1) + 1), .own 220113 2 0 ((o81.set t82.toNat (x85 ++ [0]))).length]]) :: (220112, .arr 29 5 3 (List.map AV.p (List.map encTerm ((o6 ++ [x10.Left]) ++ [x10.Right])))) :: (220113, .arr 62 1 2 (famR 220113 3 1 3 (PV.int .i64) (o81.set t82.toNat (x85 ++ [0])))) :: famL 220113 3 1 3 (PV.int .i64) (o81.set t82.toNat (x85 ++ [0])) [])⟩ ?_
 refine zr ?_
 refine zU (zl ?_)
 cases h
 exact ⟨rfl, zE⟩
 refine zj (zx (ze ?_))
 cases h
 exact ⟨rfl, zE⟩
 try simp only at h
 refine zA (yh (zn (zs (zd ?_))))
 obtain ⟨h88, h⟩ := ite_some h
 have h88T : keysLe ((o53 ++ [(List.replicate (o6.length + 1) 0)]).length) o78 = True := eq_true h88
 try simp only [go_sem, seval] at h88T
 obtain ⟨h89, h⟩ := ite_some h
 obtain ⟨h90, h⟩ := ite_some h
 obtain ⟨h91, h⟩ := ite_some h
 refine yU ?_
 refine ydS ?_
 refine zn ?_
 refine zSwA 343 (fx 220113 o78.length) ?_
 refine zL ⟨[(0, .loc 14 1 0 0)], ((3, .arr 126 1 1 [.loc 14 1 0 0]) :: (5, .arr 31 11 1 [.p (encAtom x10)]) :: (14, .arr 130 2 1 [.agg [.own 220112 3 0 ((o6.length + 1) + 1), .own 220113 3 0 (o78.length + 1)]]) :: (220112, .arr 29 5 3 (List.map AV.p (List.map encTerm ((o6 ++ [x10.Left]) ++ [x10.Right])))) :: (220113, .arr 62 1 3 (famR 220113 3 1 3 (PV.int .i64) (o78 ++ [(List.replicate ((o6.length + 1) + 1) 0)]))) :: famL 220113 3 1 3 (PV.int .i64) (o78 ++ [(List.replicate ((o6.length + 1) + 1) 0)]) [])⟩ ?_
 refine zs (zr ?_)
 refine zU (zl (zn (zs (zr ?_))))
 obtain ⟨x92, h93, h93a, h93b, h⟩ := zX h
 have hx_3043C := h93b
 simp only [List.length_append, List.length_set, List.length_cons, List.length_nil, Nat.zero_add] at hx_3043C
 obtain ⟨x94, h95, h95a, h95b, h⟩ := zX h
 refine zW 10 ?_
 refine zM ⟨[(5, .p (.int .i64 (IntKind.i64.wrap (((((o6.length + 1) + 1) : Nat) : Int) - 1))))], ((3, .arr 126 1 1 [.loc 14 1 0 0]) :: (5, .arr 31 11 1 [.p (encAtom x10)]) :: (14, .arr 130 2 1 [.agg [.own 220112 3 0 ((o6.length + 1) + 1), .own 220113 3 0 (((o78 ++ [(List.replicate ((o6.length + 1) + 1) 0)]).set ((IntKind.i64.wrap (((((o6.length + 1) + 1) : Nat) : Int) - 1)).toNat) (x92.set (IntKind.i64.wrap (((((o6.length + 1) + 1) : Nat) : Int) - 1)).toNat 1))).length]]) :: (220112, .arr 29 5 3 (List.map AV.p (List.map encTerm ((o6 ++ [x10.Left]) ++ [x10.Right])))) :: (220113, .arr 62 1 3 (famR 220113 3 1 3 (PV.int .i64) ((o78 ++ [(List.replicate ((o6.length + 1) + 1) 0)]).set ((IntKind.i64.wrap (((((o6.length + 1) + 1) : Nat) : Int) - 1)).toNat) (x92.set (IntKind.i64.wrap (((((o6.length + 1) + 1) : Nat) : Int) - 1)).toNat 1)))) :: famL 220113 3 1 3 (PV.int .i64) ((o78 ++ [(List.replicate ((o6.length + 1) + 1) 0)]).set ((IntKind.i64.wrap (((((o6.length + 1) + 1) : Nat) : Int) - 1)).toNat) (x92.set (IntKind.i64.wrap (((((o6.length + 1) + 1) : Nat) : Int) - 1)).toNat 1)) [])⟩ ?_
 refine zl (zn (zs (zr ?_)))
 refine zU (zl (zn (zq ?_)))
 refine inlQ_ret (by simp only [Tryz.results76]; simp only [go_sem, seval, h9T, h26T, h63T, h76T, h88T]; exact rfl) ?_
 obtain ⟨h96, h⟩ := ite_some h
 have h96T : keysLe (o7.length) o78 = True := eq_true h96
 refine zl ?_
 refine zHk ⟨stb_loc, stb_rig, trivial⟩ ?_
 refine zHm 8 ?_
 refine zHm 9 ?_
 refine zHe ?_
 cases h
 exact ⟨rfl, zE⟩
 obtain ⟨o97, o98, l99, r100⟩ := o12
 try simp only at h
 refine zA (zn (zs (zr ?_)))
 refine zU (zl (zn (zb (zs (zr ?_)))))
 refine zU (zl (zn ?_))
 rcases zI h with ⟨h101, h⟩ | ⟨h101, h⟩
 refine zi (zs (zr ?_))
 refine zU ?_
 refine zM ⟨[(0, .p (.slc (List.map encAtom a1))), (3, .loc 3 1 0 0), (6, .p (.int .i64 l99)), (7, .p (.int .i64 r100)), (15, .p (.slc (List.map encAtom a1))), (16, .p (.int .i64 (a1.length : Int))), (17, .p (.int .i64 t8)), (33, .loc 14 1 0 0), (34, .p (.int .i64 l99)), (35, .p (.int .i64 r100))], ((3, .arr 126 1 1 [.loc 14 1 0 0]) :: (14, .arr 130 2 1 [.agg [.own 220112 1 0 o97.length, .own 220113 1 0 o98.length]]) :: (220112, .arr 29 5 1 (List.map AV.p (List.map encTerm o97))) :: (220113, .arr 62 1 1 (famR 220113 3 1 1 (PV.int .i64) o98)) :: famL 220113 3 1 1 (PV.int .i64) o98 [])⟩ ?_
 refine AL_inline (avs := [.loc 14 1 0 0, .p (.int .i64 l99), .p (.int .i64 r100), .p (.int .i64 1)]) 364 rfl (guard_none rfl) rfl Tryz.func77 rfl Tryz.call77 Tryz.ntmps77 (by simp) (by simp only [go_sem, seval, h9T, h101]; all_goals rfl) ?_
 intro i102 w103 h104
 refine zL ⟨[(0, .loc 14 1 0 0), (1, .p (.int .i64 l99)), (2, .p (.int .i64 r100)), (3, .p (.int .i64 1))], ((3, .arr 126 1 1 [.loc 14 1 0 0]) :: (14, .arr 130 2 1 [.agg [.own 220112 1 0 o97.length, .own 220113 1 0 o98.length]]) :: (220112, .arr 29 5 1 (List.map AV.p (List.map encTerm o97))) :: (220113, .arr 62 1 1 (famR 220113 3 1 2 (PV.int .i64) o98)) :: famL 220113 3 1 2 (PV.int .i64) o98 [])⟩ ?_
 refine zdl 20 ?_
 obtain ⟨x105, h106, h106a, h106b, h⟩ := zX h
 obtain ⟨x107, h108, h108a, h108b, h⟩ := zX h
 refine yU ?_
 refine ydlS ?_
 refine zW 2 ?_
 refine zM ⟨[], ((3, .arr 126 1 1 [.loc 14 1 0 0]) :: (14, .arr 130 2 1 [.agg [.own 220112 1 0 o97.length, .own 220113 1 0 ((o98.set l99.toNat (x105.set r100.toNat (if 1 > x107 then 1 else x107)))).length]]) :: (220112, .arr 29 5 1 (List.map AV.p (List.map encTerm o97))) :: (220113, .arr 62 1 1 (famR 220113 3 1 2 (PV.int .i64) (o98.set l99.toNat (x105.set r100.toNat (if 1 > x107 then 1 else x107))))) :: famL 220113 3 1 2 (PV.int .i64) (o98.set l99.toNat (x105.set r100.toNat (if 1 > x107 then 1 else x107))) [])⟩ ?_
 refine zl ?_
 refine inlQ_n (by simp only [Tryz.results77]; simp only [go_sem, seval, h9T, h101]; exact rfl) ?_
 refine zl (zn (zr ?_))
 refine zU ?_
 refine zM ⟨[(0, .p (.slc (List.map encAtom a1))), (3, .loc 3 1 0 0), (15, .p (.slc (List.map encAtom a1))), (16, .p (.int .i64 (a1.length : Int))), (17, .p (.int .i64 t8)), (37, .loc 14 1 0 0), (38, .p (.int .i64 r100)), (39, .p (.int .i64 l99))], ((3, .arr 126 1 1 [.loc 14 1 0 0]) :: (14, .arr 130 2 1 [.agg [.own 220112 1 0 o97.length, .own 220113 1 0 ((o98.set l99.toNat (x105.set r100.toNat (if 1 > x107 then 1 else x107)))).length]]) :: (220112, .arr 29 5 1 (List.map AV.p (List.map encTerm o97))) :: (220113, .arr 62 1 1 (famR 220113 3 1 1 (PV.int .i64) (o98.set l99.toNat (x105.set r100.toNat (if 1 > x107 then 1 else x107))))) :: famL 220113 3 1 1 (PV.int .i64) (o98.set l99.toNat (x105.set r100.toNat (if 1 > x107 then 1 else x107))) [])⟩ ?_
 refine AL_inline (avs := [.loc 14 1 0 0, .p (.int .i64 r100), .p (.int .i64 l99), .p (.int .i64 1)]) 393 rfl (guard_none rfl) rfl Tryz.func77 rfl Tryz.call77 Tryz.ntmps77 (by simp) (by simp only [go_sem, seval, h9T, h101]; all_goals rfl) ?_
 intro i109 w110 h111
 refine zL ⟨[(0, .loc 14 1 0 0), (1, .p (.int .i64 r100)), (2, .p (.int .i64 l99)), (3, .p (.int .i64 1))], ((3, .arr 126 1 1 [.loc 14 1 0 0]) :: (14, .arr 130 2 1 [.agg [.own 220112 1 0 o97.length, .own 220113 1 0 ((o98.set l99.toNat (x105.set r100.toNat (if 1 > x107 then 1 else x107)))).length]]) :: (220112, .arr 29 5 1 (List.map AV.p (List.map encTerm o97))) :: (220113, .arr 62 1 1 (famR 220113 3 1 2 (PV.int .i64) (o98.set l99.toNat (x105.set r100.toNat (if 1 > x107 then 1 else x107))))) :: famL 220113 3 1 2 (PV.int .i64) (o98.set l99.toNat (x105.set r100.toNat (if 1 > x107 then 1 else x107))) [])⟩ ?_
 refine zdl 20 ?_
 obtain ⟨x112, h113, h113a, h113b, h⟩ := zX h
 have h113B := eq_true (by simpa only [List.length_set] using h113b)
 obtain ⟨x114, h115, h115a, h115b, h⟩ := zX h
 refine yU ?_
 refine ydlS ?_
 refine zW 2 ?_
 refine zM ⟨[], ((3, .arr 126 1 1 [.loc 14 1 0 0]) :: (14, .arr 130 2 1 [.agg [.own 220112 1 0 o97.length, .own 220113 1 0 (((o98.set l99.toNat (x105.set r100.toNat (if 1 > x107 then 1 else x107))).set r100.toNat (x112.set l99.toNat (if 1 > x114 then 1 else x114)))).length]]) :: (220112, .arr 29 5 1 (List.map AV.p (List.map encTerm o97))) :: (220113, .arr 62 1 1 (famR 220113 3 1 2 (PV.int .i64) ((o98.set l99.toNat (x105.set r100.toNat (if 1 > x107 then 1 else x107))).set r100.toNat (x112.set l99.toNat (if 1 > x114 then 1 else x114))))) :: famL 220113 3 1 2 (PV.int .i64) ((o98.set l99.toNat (x105.set r100.toNat (if 1 > x107 then 1 else x107))).set r100.toNat (x112.set l99.toNat (if 1 > x114 then 1 else x114))) [])⟩ ?_
 refine zl ?_
 refine inlQ_n (by simp only [Tryz.results77]; simp only [go_sem, seval, h9T, h101]; exact rfl) ?_
 refine zl (yn (yn (zn (zr ?_))))
 refine zU (zl ?_)
 cases h
 exact ⟨rfl, zE⟩
 have h101F := Bool.eq_false_iff.2 h101
 refine zj (zs (zr ?_))
 refine zU (zl (zn ?_))
 rcases zI h with ⟨h116, h⟩ | ⟨h116, h⟩
 refine zi (zr ?_)
 refine zU ?_
 refine zM ⟨[(0, .p (.slc (List.map encAtom a1))), (3, .loc 3 1 0 0), (15, .p (.slc (List.map encAtom a1))), (16, .p (.int .i64 (a1.length : Int))), (17, .p (.int .i64 t8)), (43, .loc 14 1 0 0), (44, .p (.int .i64 l99)), (45, .p (.int .i64 r100))], ((3, .arr 126 1 1 [.loc 14 1 0 0]) :: (14, .arr 130 2 1 [.agg [.own 220112 1 0 o97.length, .own 220113 1 0 o98.length]]) :: (220112, .arr 29 5 1 (List.map AV.p (List.map encTerm o97))) :: (220113, .arr 62 1 1 (famR 220113 3 1 1 (PV.int .i64) o98)) :: famL 220113 3 1 1 (PV.int .i64) o98 [])⟩ ?_
 refine AL_inline (avs := [.loc 14 1 0 0, .p (.int .i64 l99), .p (.int .i64 r100), .p (.int .i64 2)]) 422 rfl (guard_none rfl) rfl Tryz.func77 rfl Tryz.call77 Tryz.ntmps77 (by simp) (by simp only [go_sem, seval, h9T, h101F, h116]; all_goals rfl) ?_
 intro i117 w118 h119
 refine zL ⟨[(0, .loc 14 1 0 0), (1, .p (.int .i64 l99)), (2, .p (.int .i64 r100)), (3, .p (.int .i64 2))], ((3, .arr 126 1 1 [.loc 14 1 0 0]) :: (14, .arr 130 2 1 [.agg [.own 220112 1 0 o97.length, .own 220113 1 0 o98.length]]) :: (220112, .arr 29 5 1 (List.map AV.p (List.map encTerm o97))) :: (220113, .arr 62 1 1 (famR 220113 3 1 2 (PV.int .i64) o98)) :: famL 220113 3 1 2 (PV.int .i64) o98 [])⟩ ?_
 refine zdl 20 ?_
 obtain ⟨x120, h121, h121a, h121b, h⟩ := zX h
 obtain ⟨x122, h123, h123a, h123b, h⟩ := zX h
 refine yU ?_
 refine ydlS ?_
 refine zW 2 ?_
 refine zM ⟨[], ((3, .arr 126 1 1 [.loc 14 1 0 0]) :: (14, .arr 130 2 1 [.agg [.own 220112 1 0 o97.length, .own 220113 1 0 ((o98.set l99.toNat (x120.set r100.toNat (if 2 > x122 then 2 else x122)))).length]]) :: (220112, .arr 29 5 1 (List.map AV.p (List.map encTerm o97))) :: (220113, .arr 62 1 1 (famR 220113 3 1 2 (PV.int .i64) (o98.set l99.toNat (x120.set r100.toNat (if 2 > x122 then 2 else x122))))) :: famL 220113 3 1 2 (PV.int .i64) (o98.set l99.toNat (x120.set r100.toNat (if 2 > x122 then 2 else x122))) [])⟩ ?_
 refine zl ?_
 refine inlQ_n (by simp only [Tryz.results77]; simp only [go_sem, seval, h9T, h101F, h116]; exact rfl) ?_
 refine zl (yn (yn (zn (zr ?_))))
 refine zU (zl ?_)
 cases h
 exact ⟨rfl, zE⟩
 have h116F := Bool.eq_false_iff.2 h116
 refine zj (zs (zr ?_))
 refine zU (zl (zn ?_))
 rcases zI h with ⟨h124, h⟩ | ⟨h124, h⟩
 refine zi (zr ?_)
 refine zU ?_
 refine zM ⟨[(0, .p (.slc (List.map encAtom a1))), (3, .loc 3 1 0 0), (15, .p (.slc (List.map encAtom a1))), (16, .p (.int .i64 (a1.length : Int))), (17, .p (.int .i64 t8)), (49, .loc 14 1 0 0), (50, .p (.int .i64 l99)), (51, .p (.int .i64 r100))], ((3, .arr 126 1 1 [.loc 14 1 0 0]) :: (14, .arr 130 2 1 [.agg [.own 220112 1 0 o97.length, .own 220113 1 0 o98.length]]) :: (220112, .arr 29 5 1 (List.map AV.p (List.map encTerm o97))) :: (220113, .arr 62 1 1 (famR 220113 3 1 1 (PV.int .i64) o98)) :: famL 220113 3 1 1 (PV.int .i64) o98 [])⟩ ?_
 refine AL_inline (avs := [.loc 14 1 0 0, .p (.int .i64 l99), .p (.int .i64 r100), .p (.int .i64 1)]) 451 rfl (guard_none rfl) rfl Tryz.func77 rfl Tryz.call77 Tryz.ntmps77 (by simp) (by simp only [go_sem, seval, h9T, h101F, h116F, h124]; all_goals rfl) ?_
 intro i125 w126 h127
 refine zL ⟨[(0, .loc 14 1 0 0), (1, .p (.int .i64 l99)), (2, .p (.int .i64 r100)), (3, .p (.int .i64 1))], ((3, .arr 126 1 1 [.loc 14 1 0 0]) :: (14, .arr 130 2 1 [.agg [.own 220112 1 0 o97.length, .own 220113 1 0 o98.length]]) :: (220112, .arr 29 5 1 (List.map AV.p (List.map encTerm o97))) :: (220113, .arr 62 1 1 (famR 220113 3 1 2 (PV.int .i64) o98)) :: famL 220113 3 1 2 (PV.int .i64) o98 [])⟩ ?_
 refine zdl 20 ?_
 obtain ⟨x128, h129, h129a, h129b, h⟩ := zX h
 obtain ⟨x130, h131, h131a, h131b, h⟩ := zX h
 refine yU ?_
 refine ydlS ?_
 refine zW 2 ?_
 refine zM ⟨[], ((3, .arr 126 1 1 [.loc 14 1 0 0]) :: (14, .arr 130 2 1 [.agg [.own 220112 1 0 o97.length, .own 220113 1 0 ((o98.set l99.toNat (x128.set r100.toNat (if 1 > x130 then 1 else x130)))).length]]) :: (220112, .arr 29 5 1 (List.map AV.p (List.map encTerm o97))) :: (220113, .arr 62 1 1 (famR 220113 3 1 2 (PV.int .i64) (o98.set l99.toNat (x128.set r100.toNat (if 1 > x130 then 1 else x130))))) :: famL 220113 3 1 2 (PV.int .i64) (o98.set l99.toNat (x128.set r100.toNat (if 1 > x130 then 1 else x130))) [])⟩ ?_
 refine zl ?_
 refine inlQ_n (by simp only [Tryz.results77]; simp only [go_sem, seval, h9T, h101F, h116F, h124]; exact rfl) ?_
 refine zl (yn (yn (zn (zr ?_))))
 refine zU (zl ?_)
 cases h
 exact ⟨rfl, zE⟩
 refine zj (zk (yn (yn (zn (zr ?_)))))
 refine zU (zl ?_)
 cases h
 exact ⟨rfl, zE⟩
 have h9T := eq_false h9
 refine zj (zx (ze ?_))
 cases h
 exact ⟨rfl, zE⟩
 obtain ⟨o132, o133⟩ := o3
 try simp only at h
 refine zA (yh (zn (zs (zs (zr ?_)))))
 refine zU (zl (zn (zb ?_)))
 obtain ⟨o134, h135, h⟩ := zB h
 refine zO (fun (s : List (List Int) × Int) => ⟨[(0, .p (.slc (List.map encAtom a1))), (3, .loc 3 1 0 0), (57, .own 220112 1 0 o132.length), (58, .p (.int .i64 ((o132.length : Nat) : Int))), (59, .p (.int .i64 s.2))], ((3, .arr 126 1 1 [.loc 14 1 0 0]) :: (14, .arr 130 2 1 [.agg [.own 220112 1 0 o132.length, .own 220113 1 0 s.1.length]]) :: (220112, .arr 29 5 1 (List.map AV.p (List.map encTerm o132))) :: (220113, .arr 62 1 1 (famR 220113 3 1 1 (PV.int .i64) s.1)) :: famL 220113 3 1 1 (PV.int .i64) s.1 [])⟩) (fun (o136 : List (List Int)) => tE (cX Tryz.f27 X w D hT) (.exit 3) ⟨[(0, .p (.slc (List.map encAtom a1))), (3, .loc 3 1 0 0)], ((3, .arr 126 1 1 [.loc 14 1 0 0]) :: (14, .arr 130 2 1 [.agg [.own 220112 1 0 o132.length, .own 220113 1 0 o136.length]]) :: (220112, .arr 29 5 1 (List.map AV.p (List.map encTerm o132))) :: (220113, .arr 62 1 1 (famR 220113 3 1 1 (PV.int .i64) o136)) :: famL 220113 3 1 1 (PV.int .i64) o136 [])⟩) h135 ?_ ?_
 clear h h4 h135
 intro s x h
 obtain ⟨o137, t138⟩ := s
 simp only [denial_Contradictory_l23] at h
 dsimp only
 refine zs (zr ?_)
 refine zU (zl (zn (zs ?_)))
 rcases zI h with ⟨h139, h⟩ | ⟨h139, h⟩
 refine zi (zk (zn (zs (zb (zs (zr ?_))))))
 obtain ⟨x140, h141, h141a, h141b, h⟩ := zX h
 refine zU (zl (zn (zs (zr ?_))))
 refine zU (zl (zn (zb ?_)))
 obtain ⟨o142, h143, h⟩ := zB h
 refine zO (fun (s : List (List Int) × Int) => ⟨[(0, .p (.slc (List.map encAtom a1))), (3, .loc 3 1 0 0), (8, .p (.int .i64 t138)), (9, .loc 9 1 0 0), (57, .own 220112 1 0 o132.length), (58, .p (.int .i64 ((o132.length : Nat) : Int))), (59, .p (.int .i64 t138)), (67, .own 220112 1 0 o132.length), (68, .p (.int .i64 ((o132.length : Nat) : Int))), (69, .p (.int .i64 s.2))], ((3, .arr 126 1 1 [.loc 14 1 0 0]) :: (9, .arr 29 5 1 [.p (encTerm x140)]) :: (14, .arr 130 2 1 [.agg [.own 220112 1 0 o132.length, .own 220113 1 0 s.1.length]]) :: (220112, .arr 29 5 1 (List.map AV.p (List.map encTerm o132))) :: (220113, .arr 62 1 1 (famR 220113 3 1 1 (PV.int .i64) s.1)) :: famL 220113 3 1 1 (PV.int .i64) s.1 [])⟩) (fun (o144 : List (List Int)) => tE (cX Tryz.f27 X w D hT) (.exit 5) ⟨[(0, .p (.slc (List.map encAtom a1))), (3, .loc 3 1 0 0), (57, .own 220112 1 0 o132.length), (58, .p (.int .i64 ((o132.length : Nat) : Int))), (59, .p (.int .i64 t138))], ((3, .arr 126 1 1 [.loc 14 1 0 0]) :: (14, .arr 130 2 1 [.agg [.own 220112 1 0 o132.length, .own 220113 1 0 o144.length]]) :: (220112, .arr 29 5 1 (List.map AV.p (List.map encTerm o132))) :: (220113, .arr 62 1 1 (famR 220113 3 1 1 (PV.int .i64) o144)) :: famL 220113 3 1 1 (PV.int .i64) o144 [])⟩) h143 ?_ ?_
 clear h h139 h141 h141a h141b h143
 intro s x h
 obtain ⟨o145, t146⟩ := s
 simp only [denial_Contradictory_l22] at h
 dsimp only
 refine zs (zr ?_)
 refine zU (zl (zn (zs ?_)))
 rcases zI h with ⟨h147, h⟩ | ⟨h147, h⟩
 have h147T := eq_true h147
 refine zi (zk (zn (zs (zb (zs (zr ?_))))))
 obtain ⟨x148, h149, h149a, h149b, h⟩ := zX h
 refine zU (zl (zn ?_))
 obtain ⟨t150, h151, h⟩ := zB h
 refine zJ (fun (o152 : Bool) => tE (cX Tryz.f27 X w D hT) .normal ⟨[(0, .p (.slc (List.map encAtom a1))), (3, .loc 3 1 0 0), (8, .p (.int .i64 t138)), (9, .loc 9 1 0 0), (10, .p (.int .i64 t146)), (57, .own 220112 1 0 o132.length), (58, .p (.int .i64 ((o132.length : Nat) : Int))), (59, .p (.int .i64 t138)), (67, .own 220112 1 0 o132.length), (68, .p (.int .i64 ((o132.length : Nat) : Int))), (69, .p (.int .i64 t146)), (89, .p (.bool o152))], ((3, .arr 126 1 1 [.loc 14 1 0 0]) :: (9, .arr 29 5 1 [.p (encTerm x140)]) :: (14, .arr 130 2 1 [.agg [.own 220112 1 0 o132.length, .own 220113 1 0 o145.length]]) :: (220112, .arr 29 5 1 (List.map AV.p (List.map encTerm o132))) :: (220113, .arr 62 1 1 (famR 220113 3 1 1 (PV.int .i64) o145)) :: famL 220113 3 1 1 (PV.int .i64) o145 [])⟩) t150 ?_ ?_
 replace h := h151
 clear h151
 refine zr ?_
 refine zU ?_
 rcases zI h with ⟨h153, h⟩ | ⟨h153, h⟩
 refine zw 77 true ?_
 refine zg ?_
 refine zg ?_
 refine zg ?_
 refine zU ?_
 rcases zI h with ⟨h154, h⟩ | ⟨h154, h⟩
 refine zw 82 true ?_
 refine zg ?_
 refine zg ?_
 refine zg ?_
 refine zg ?_
 obtain ⟨r155, h156, h⟩ := zB h
 replace h := h.symm
 refine zc (value_Compare_con x140.Value x148.Value _ h156) ?_
 refine zg ?_
 refine zU (zl ?_)
 cases h
 exact ⟨rfl, zE⟩
 refine zw 82 false ?_
 refine zh ?_
 refine zU (zl ?_)
 cases h
 exact ⟨rfl, zE⟩
 refine zw 77 false ?_
 refine zh ?_
 refine zU ?_
 refine zh ?_
 refine zU (zl ?_)
 cases h
 exact ⟨rfl, zE⟩
 try simp only at h
 refine zA (zn ?_)
 rcases zI h with ⟨h157, h⟩ | ⟨h157, h⟩
 refine zi (zr ?_)
 refine zU ?_
 refine zM ⟨[(0, .p (.slc (List.map encAtom a1))), (3, .loc 3 1 0 0), (8, .p (.int .i64 t138)), (9, .loc 9 1 0 0), (57, .own 220112 1 0 o132.length), (58, .p (.int .i64 ((o132.length : Nat) : Int))), (59, .p (.int .i64 t138)), (67, .own 220112 1 0 o132.length), (68, .p (.int .i64 ((o132.length : Nat) : Int))), (69, .p (.int .i64 t146)), (90, .loc 14 1 0 0), (91, .p (.int .i64 t138)), (92, .p (.int .i64 t146))], ((3, .arr 126 1 1 [.loc 14 1 0 0]) :: (9, .arr 29 5 1 [.p (encTerm x140)]) :: (14, .arr 130 2 1 [.agg [.own 220112 1 0 o132.length, .own 220113 1 0 o145.length]]) :: (220112, .arr 29 5 1 (List.map AV.p (List.map encTerm o132))) :: (220113, .arr 62 1 1 (famR 220113 3 1 1 (PV.int .i64) o145)) :: famL 220113 3 1 1 (PV.int .i64) o145 [])⟩ ?_
 refine AL_inline (avs := [.loc 14 1 0 0, .p (.int .i64 t138), .p (.int .i64 t146), .p (.int .i64 2)]) 480 rfl (guard_none rfl) rfl Tryz.func77 rfl Tryz.call77 Tryz.ntmps77 (by simp) (by simp only [go_sem, seval, h147T, h157]; all_goals rfl) ?_
 intro i158 w159 h160
 refine zL ⟨[(0, .loc 14 1 0 0), (1, .p (.int .i64 t138)), (2, .p (.int .i64 t146)), (3, .p (.int .i64 2))], ((3, .arr 126 1 1 [.loc 14 1 0 0]) :: (9, .arr 29 5 1 [.p (encTerm x140)]) :: (14, .arr 130 2 1 [.agg [.own 220112 1 0 o132.length, .own 220113 1 0 o145.length]]) :: (220112, .arr 29 5 1 (List.map AV.p (List.map encTerm o132))) :: (220113, .arr 62 1 1 (famR 220113 3 1 2 (PV.int .i64) o145)) :: famL 220113 3 1 2 (PV.int .i64) o145 [])⟩ ?_
 refine zdl 20 ?_
 obtain ⟨x161, h162, h162a, h162b, h⟩ := zX h
 obtain ⟨x163, h164, h164a, h164b, h⟩ := zX h
 refine yU ?_
 refine ydlS ?_
 refine zW 2 ?_
 refine zM ⟨[], ((3, .arr 126 1 1 [.loc 14 1 0 0]) :: (9, .arr 29 5 1 [.p (encTerm x140)]) :: (14, .arr 130 2 1 [.agg [.own 220112 1 0 o132.length, .own 220113 1 0 ((o145.set t138.toNat (x161.set t146.toNat (if 2 > x163 then 2 else x163)))).length]]) :: (220112, .arr 29 5 1 (List.map AV.p (List.map encTerm o132))) :: (220113, .arr 62 1 1 (famR 220113 3 1 2 (PV.int .i64) (o145.set t138.toNat (x161.set t146.toNat (if 2 > x163 then 2 else x163))))) :: famL 220113 3 1 2 (PV.int .i64) (o145.set t138.toNat (x161.set t146.toNat (if 2 > x163 then 2 else x163))) [])⟩ ?_
 refine zl ?_
 refine inlQ_n (by simp only [Tryz.results77]; simp only [go_sem, seval, h147T, h157]; exact rfl) ?_
 refine zl (yn (zn (zr ?_)))
 refine zU (zl ?_)
 cases h
 exact ⟨rfl, zE⟩
 refine zj (zk (yn (zn (zr ?_))))
 refine zU (zl ?_)
 cases h
 exact ⟨rfl, zE⟩
 have h147T := eq_false h147
 refine zj (zx (ze ?_))
 cases h
 exact ⟨rfl, zE⟩
 try simp only at h
 refine zA (yh (yn (zn (zr ?_))))
 refine zU (zl ?_)
 cases h
 exact ⟨rfl, zE⟩
 refine zj (zx (ze ?_))
 cases h
 exact ⟨rfl, zE⟩
 try simp only at h
 refine zA (yh (zn (zs (zr ?_))))
 refine zU ?_
 refine zM ⟨[(0, .p (.slc (List.map encAtom a1))), (3, .loc 3 1 0 0), (96, .loc 14 1 0 0)], ((3, .arr 126 1 1 [.loc 14 1 0 0]) :: (14, .arr 130 2 1 [.agg [.own 220112 1 0 o132.length, .own 220113 1 0 o134.length]]) :: (220112, .arr 29 5 1 (List.map AV.p (List.map encTerm o132))) :: (220113, .arr 62 1 1 (famR 220113 3 1 1 (PV.int .i64) o134)) :: famL 220113 3 1 1 (PV.int .i64) o134 [])⟩ ?_
 refine AL_inline (avs := [.loc 14 1 0 0]) 509 rfl (guard_none rfl) rfl Tryz.func79 rfl Tryz.call79 Tryz.ntmps79 (by simp) (by simp only [go_sem, seval]; all_goals rfl) ?_
 intro i165 w166 h167
 refine zL ⟨[(0, .loc 14 1 0 0)], ((3, .arr 126 1 1 [.loc 14 1 0 0]) :: (14, .arr 130 2 1 [.agg [.own 220112 1 0 o132.length, .own 220113 1 0 o134.length]]) :: (220112, .arr 29 5 1 (List.map AV.p (List.map encTerm o132))) :: (220113, .arr 62 1 1 (famR 220113 3 1 2 (PV.int .i64) o134)) :: famL 220113 3 1 2 (PV.int .i64) o134 [])⟩ ?_
 refine zs (zr ?_)
 refine zU (zl (zn (zb ?_)))
 obtain ⟨i168, h169, h⟩ := zB h
 refine zO (fun (s : List (List Int) × Int) => ⟨[(0, .loc 14 1 0 0), (9, .p (.int .i64 ((o132.length : Nat) : Int))), (10, .p (.int .i64 s.2))], ((3, .arr 126 1 1 [.loc 14 1 0 0]) :: (14, .arr 130 2 1 [.agg [.own 220112 1 0 o132.length, .own 220113 1 0 s.1.length]]) :: (220112, .arr 29 5 1 (List.map AV.p (List.map encTerm o132))) :: (220113, .arr 62 1 1 (famR 220113 3 1 2 (PV.int .i64) s.1)) :: famL 220113 3 1 2 (PV.int .i64) s.1 [])⟩) (fun (o170 : List (List Int)) => tE ⟨Tryz.prog, 81, 509, X, ((3, .arr 126 1 1 [.loc 14 1 0 0]) :: (14, .arr 130 2 1 [.agg [.own 220112 1 0 o132.length, .own 220113 1 0 o134.length]]) :: (220112, .arr 29 5 1 (List.map AV.p (List.map encTerm o132))) :: (220113, .arr 62 1 1 (famR 220113 3 1 1 (PV.int .i64) o134)) :: famL 220113 3 1 1 (PV.int .i64) o134 []), i165, w166, D, h167⟩ (.exit 0) ⟨[], ((3, .arr 126 1 1 [.loc 14 1 0 0]) :: (14, .arr 130 2 1 [.agg [.own 220112 1 0 o132.length, .own 220113 1 0 o170.length]]) :: (220112, .arr 29 5 1 (List.map AV.p (List.map encTerm o132))) :: (220113, .arr 62 1 1 (famR 220113 3 1 2 (PV.int .i64) o170)) :: famL 220113 3 1 2 (PV.int .i64) o170 [])⟩) h169 ?_ ?_
 clear h h4 h135 h169
 intro s x h
 obtain ⟨o171, t172⟩ := s
 simp only [denial_Contradictory_l49] at h
 dsimp only
 refine zs (zr ?_)
 obtain ⟨h173, h⟩ := ite_some h
 have h173T : keysLe (o134.length) o171 = True := eq_true h173
 refine zU (zl (zn (zs ?_)))
 rcases zI h with ⟨h174, h⟩ | ⟨h174, h⟩
 refine zi (zk (zn (zs (zb (zs (zr ?_))))))
 refine zU (zl (zn (zs (zr ?_))))
 refine zU (zl (zn (zb ?_)))
 obtain ⟨o175, h176, h⟩ := zB h
 refine zO (fun (s : List (List Int) × Int) => ⟨[(0, .loc 14 1 0 0), (2, .p (.int .i64 t172)), (9, .p (.int .i64 ((o132.length : Nat) : Int))), (10, .p (.int .i64 t172)), (17, .p (.int .i64 ((o132.length : Nat) : Int))), (18, .p (.int .i64 s.2))], ((3, .arr 126 1 1 [.loc 14 1 0 0]) :: (14, .arr 130 2 1 [.agg [.own 220112 1 0 o132.length, .own 220113 1 0 s.1.length]]) :: (220112, .arr 29 5 1 (List.map AV.p (List.map encTerm o132))) :: (220113, .arr 62 1 1 (famR 220113 3 1 2 (PV.int .i64) s.1)) :: famL 220113 3 1 2 (PV.int .i64) s.1 [])⟩) (fun (o177 : List (List Int)) => tE ⟨Tryz.prog, 81, 509, X, ((3, .arr 126 1 1 [.loc 14 1 0 0]) :: (14, .arr 130 2 1 [.agg [.own 220112 1 0 o132.length, .own 220113 1 0 o134.length]]) :: (220112, .arr 29 5 1 (List.map AV.p (List.map encTerm o132))) :: (220113, .arr 62 1 1 (famR 220113 3 1 1 (PV.int .i64) o134)) :: famL 220113 3 1 1 (PV.int .i64) o134 []), i165, w166, D, h167⟩ (.exit 2) ⟨[(0, .loc 14 1 0 0), (9, .p (.int .i64 ((o132.length : Nat) : Int))), (10, .p (.int .i64 t172))], ((3, .arr 126 1 1 [.loc 14 1 0 0]) :: (14, .arr 130 2 1 [.agg [.own 220112 1 0 o132.length, .own 220113 1 0 o177.length]]) :: (220112, .arr 29 5 1 (List.map AV.p (List.map encTerm o132))) :: (220113, .arr 62 1 1 (famR 220113 3 1 2 (PV.int .i64) o177)) :: famL 220113 3 1 2 (PV.int .i64) o177 [])⟩) h176 ?_ ?_
 clear h h173 h173T h174 h176
 intro s x h
 obtain ⟨o178, t179⟩ := s
 simp only [denial_Contradictory_l48] at h
 dsimp only
 refine zs (zr ?_)
 obtain ⟨h180, h⟩ := ite_some h
 have h180T : keysLe (o134.length) o178 = True := eq_true h180
 refine zU (zl (zn (zs ?_)))
 rcases zI h with ⟨h181, h⟩ | ⟨h181, h⟩
 refine zi (zk (zn (zs (zb (zs (zr ?_))))))
 refine zU (zl (zn (zs (zr ?_))))
 refine zU (zl (zn (zb ?_)))
 obtain ⟨o182, h183, h⟩ := zB h
 refine zO (fun (s : List (List Int) × Int) => ⟨[(0, .loc 14 1 0 0), (2, .p (.int .i64 t172)), (3, .p (.int .i64 t179)), (9, .p (.int .i64 ((o132.length : Nat) : Int))), (10, .p (.int .i64 t172)), (17, .p (.int .i64 ((o132.length : Nat) : Int))), (18, .p (.int .i64 t179)), (25, .p (.int .i64 ((o132.length : Nat) : Int))), (26, .p (.int .i64 s.2))], ((3, .arr 126 1 1 [.loc 14 1 0 0]) :: (14, .arr 130 2 1 [.agg [.own 220112 1 0 o132.length, .own 220113 1 0 s.1.length]]) :: (220112, .arr 29 5 1 (List.map AV.p (List.map encTerm o132))) :: (220113, .arr 62 1 1 (famR 220113 3 1 2 (PV.int .i64) s.1)) :: famL 220113 3 1 2 (PV.int .i64) s.1 [])⟩) (fun (o184 : List (List Int)) => tE ⟨Tryz.prog, 81, 509, X, ((3, .arr 126 1 1 [.loc 14 1 0 0]) :: (14, .arr 130 2 1 [.agg [.own 220112 1 0 o132.length, .own 220113 1 0 o134.length]]) :: (220112, .arr 29 5 1 (List.map AV.p (List.map encTerm o132))) :: (220113, .arr 62 1 1 (famR 220113 3 1 1 (PV.int .i64) o134)) :: famL 220113 3 1 1 (PV.int .i64) o134 []), i165, w166, D, h167⟩ (.exit 4) ⟨[(0, .loc 14 1 0 0), (2, .p (.int .i64 t172)), (9, .p (.int .i64 ((o132.length : Nat) : Int))), (10, .p (.int .i64 t172)), (17, .p (.int .i64 ((o132.length : Nat) : Int))), (18, .p (.int .i64 t179))], ((3, .arr 126 1 1 [.loc 14 1 0 0]) :: (14, .arr 130 2 1 [.agg [.own 220112 1 0 o132.length, .own 220113 1 0 o184.length]]) :: (220112, .arr 29 5 1 (List.map AV.p (List.map encTerm o132))) :: (220113, .arr 62 1 1 (famR 220113 3 1 2 (PV.int .i64) o184)) :: famL 220113 3 1 2 (PV.int .i64) o184 [])⟩) h183 ?_ ?_
 clear h h180 h180T h181 h183
 intro s x h
 obtain ⟨o185, t186⟩ := s
 simp only [denial_Contradictory_l47] at h
 dsimp only
 refine zs (zr ?_)
 obtain ⟨h187, h⟩ := ite_some h
 have h187T : keysLe (o134.length) o185 = True := eq_true h187
 refine zU (zl (zn (zs ?_)))
 rcases zI h with ⟨h188, h⟩ | ⟨h188, h⟩
 have h188T := eq_true h188
 refine zi (zk (zn (zs (zb (zs (zr ?_))))))
 refine zU (zl (zn ?_))
 obtain ⟨t189, h190, h⟩ := zB h
 refine zJ (fun (o191 : Bool) => tE ⟨Tryz.prog, 81, 509, X, ((3, .arr 126 1 1 [.loc 14 1 0 0]) :: (14, .arr 130 2 1 [.agg [.own 220112 1 0 o132.length, .own 220113 1 0 o134.length]]) :: (220112, .arr 29 5 1 (List.map AV.p (List.map encTerm o132))) :: (220113, .arr 62 1 1 (famR 220113 3 1 1 (PV.int .i64) o134)) :: famL 220113 3 1 1 (PV.int .i64) o134 []), i165, w166, D, h167⟩ .normal ⟨[(0, .loc 14 1 0 0), (2, .p (.int .i64 t172)), (3, .p (.int .i64 t179)), (4, .p (.int .i64 t186)), (9, .p (.int .i64 ((o132.length : Nat) : Int))), (10, .p (.int .i64 t172)), (17, .p (.int .i64 ((o132.length : Nat) : Int))), (18, .p (.int .i64 t179)), (25, .p (.int .i64 ((o132.length : Nat) : Int))), (26, .p (.int .i64 t186)), (52, .p (.bool o191))], ((3, .arr 126 1 1 [.loc 14 1 0 0]) :: (14, .arr 130 2 1 [.agg [.own 220112 1 0 o132.length, .own 220113 1 0 o185.length]]) :: (220112, .arr 29 5 1 (List.map AV.p (List.map encTerm o132))) :: (220113, .arr 62 1 1 (famR 220113 3 1 2 (PV.int .i64) o185)) :: famL 220113 3 1 2 (PV.int .i64) o185 [])⟩) t189 ?_ ?_
 replace h := h190
 clear h190
 refine zr ?_
 obtain ⟨x192, h193, h193a, h193b, h⟩ := zX h
 obtain ⟨x194, h195, h195a, h195b, h⟩ := zX h
 refine zU ?_
 rcases zI h with ⟨h196, h⟩ | ⟨h196, h⟩
 refine zw 40 true ?_
 refine zg ?_
 refine zg ?_
 refine zg ?_
 refine zg ?_
 refine zg ?_
 obtain ⟨x197, h198, h198a, h198b, h⟩ := zX h
 refine zg ?_
 refine zg ?_
 refine zg ?_
 obtain ⟨x199, h200, h200a, h200b, h⟩ := zX h
 replace h := h.symm
 refine zg ?_
 refine zg ?_
 refine zg ?_
 refine zU (zl ?_)
 cases h
 exact ⟨rfl, zE⟩
 refine zw 40 false ?_
 refine zh ?_
 refine zU (zl ?_)
 cases h
 exact ⟨rfl, zE⟩
 try simp only at h
 refine zA (zn ?_)
 rcases zI h with ⟨h201, h⟩ | ⟨h201, h⟩
 refine zi ?_
 refine zdl 24 ?_
 obtain ⟨x202, h203, h203a, h203b, h⟩ := zX h
 obtain ⟨x204, h205, h205a, h205b, h⟩ := zX h
 obtain ⟨x206, h207, h207a, h207b, h⟩ := zX h
 obtain ⟨x208, h209, h209a, h209b, h⟩ := zX h
 refine yU ?_
 refine ydlS ?_
 refine zM ⟨[(0, .loc 14 1 0 0), (2, .p (.int .i64 t172)), (3, .p (.int .i64 t179)), (9, .p (.int .i64 ((o132.length : Nat) : Int))), (10, .p (.int .i64 t172)), (17, .p (.int .i64 ((o132.length : Nat) : Int))), (18, .p (.int .i64 t179)), (25, .p (.int .i64 ((o132.length : Nat) : Int))), (26, .p (.int .i64 t186)), (53, .loc 14 1 0 0), (54, .p (.int .i64 t179)), (55, .p (.int .i64 t186)), (76, .p (.int .i64 (if x208 > x204 then x208 else x204)))], ((3, .arr 126 1 1 [.loc 14 1 0 0]) :: (14, .arr 130 2 1 [.agg [.own 220112 1 0 o132.length, .own 220113 1 0 o185.length]]) :: (220112, .arr 29 5 1 (List.map AV.p (List.map encTerm o132))) :: (220113, .arr 62 1 1 (famR 220113 3 1 2 (PV.int .i64) o185)) :: famL 220113 3 1 2 (PV.int .i64) o185 [])⟩ ?_
 refine AL_inline (avs := [.loc 14 1 0 0, .p (.int .i64 t179), .p (.int .i64 t186), .p (.int .i64 (if x208 > x204 then x208 else x204))]) 590 rfl (guard_none rfl) rfl Tryz.func77 rfl Tryz.call77 Tryz.ntmps77 (by simp) (by simp only [go_sem, seval, h187T, h188T, h201]; all_goals rfl) ?_
 intro i210 w211 h212
 refine zL ⟨[(0, .loc 14 1 0 0), (1, .p (.int .i64 t179)), (2, .p (.int .i64 t186)), (3, .p (.int .i64 (if x208 > x204 then x208 else x204)))], ((3, .arr 126 1 1 [.loc 14 1 0 0]) :: (14, .arr 130 2 1 [.agg [.own 220112 1 0 o132.length, .own 220113 1 0 o185.length]]) :: (220112, .arr 29 5 1 (List.map AV.p (List.map encTerm o132))) :: (220113, .arr 62 1 1 (famR 220113 3 1 3 (PV.int .i64) o185)) :: famL 220113 3 1 3 (PV.int .i64) o185 [])⟩ ?_
 refine zdl 20 ?_
 obtain ⟨x213, h214, h214a, h214b, h⟩ := zX h
 refine yU ?_
 refine ydlS ?_
 refine zW 2 ?_
 refine zM ⟨[], ((3, .arr 126 1 1 [.loc 14 1 0 0]) :: (14, .arr 130 2 1 [.agg [.own 220112 1 0 o132.length, .own 220113 1 0 ((o185.set t179.toNat (x202.set t186.toNat (if (if x208 > x204 then x208 else x204) > x213 then (if x208 > x204 then x208 else x204) else x213)))).length]]) :: (220112, .arr 29 5 1 (List.map AV.p (List.map encTerm o132))) :: (220113, .arr 62 1 1 (famR 220113 3 1 3 (PV.int .i64) (o185.set t179.toNat (x202.set t186.toNat (if (if x208 > x204 then x208 else x204) > x213 then (if x208 > x204 then x208 else x204) else x213))))) :: famL 220113 3 1 3 (PV.int .i64) (o185.set t179.toNat (x202.set t186.toNat (if (if x208 > x204 then x208 else x204) > x213 then (if x208 > x204 then x208 else x204) else x213))) [])⟩ ?_
 refine zl ?_
 refine inlQ_n (by simp only [Tryz.results77]; simp only [go_sem, seval, h187T, h188T, h201]; exact rfl) ?_
 refine zl (yn (zn (zr ?_)))
 refine zU (zl ?_)
 cases h
 exact ⟨rfl, zE⟩
 refine zj (zk (yn (zn (zr ?_))))
 refine zU (zl ?_)
 cases h
 exact ⟨rfl, zE⟩
 have h188T := eq_false h188
 refine zj (zx (ze ?_))
 cases h
 exact ⟨rfl, zE⟩
 try simp only at h
 refine zA (yh (yn (zn (zr ?_))))
 obtain ⟨h215, h⟩ := ite_some h
 have h215T : keysLe (o134.length) o182 = True := eq_true h215
 refine zU (zl ?_)
 cases h
 exact ⟨rfl, zE⟩
 refine zj (zx (ze ?_))
 cases h
 exact ⟨rfl, zE⟩
 try simp only at h
 refine zA (yh (yn (zn (zr ?_))))
 obtain ⟨h216, h⟩ := ite_some h
 have h216T : keysLe (o134.length) o175 = True := eq_true h216
 refine zU (zl ?_)
 cases h
 exact ⟨rfl, zE⟩
 refine zj (zx (ze ?_))
 cases h
 exact ⟨rfl, zE⟩
 try simp only at h
 refine zA (yh ?_)
 obtain ⟨h217, h⟩ := ite_some h
 have h217T : keysLe (o134.length) i168 = True := eq_true h217
 refine inlQ_n (by simp only [Tryz.results79]; simp only [go_sem, seval, h217T]; exact rfl) ?_
 refine zl (zn (zs (zs (zr ?_))))
 refine zU (zl (zn (zb ?_)))
 obtain ⟨o218, h219, h⟩ := zB h
 refine zO (fun (s : Int) => ⟨[(0, .p (.slc (List.map encAtom a1))), (3, .loc 3 1 0 0), (102, .p (.int .i64 ((o132.length : Nat) : Int))), (103, .p (.int .i64 s))], ((3, .arr 126 1 1 [.loc 14 1 0 0]) :: (14, .arr 130 2 1 [.agg [.own 220112 1 0 o132.length, .own 220113 1 0 i168.length]]) :: (220112, .arr 29 5 1 (List.map AV.p (List.map encTerm o132))) :: (220113, .arr 62 1 1 (famR 220113 3 1 1 (PV.int .i64) i168)) :: famL 220113 3 1 1 (PV.int .i64) i168 [])⟩) (fun (o : (Unit) ⊕ (Bool)) => match o with | .inl o220 => tE (cX Tryz.f27 X w D hT) (.exit 7) ⟨[(0, .p (.slc (List.map encAtom a1))), (3, .loc 3 1 0 0)], ((3, .arr 126 1 1 [.loc 14 1 0 0]) :: (14, .arr 130 2 1 [.agg [.own 220112 1 0 o132.length, .own 220113 1 0 i168.length]]) :: (220112, .arr 29 5 1 (List.map AV.p (List.map encTerm o132))) :: (220113, .arr 62 1 1 (famR 220113 3 1 1 (PV.int .i64) i168)) :: famL 220113 3 1 1 (PV.int .i64) i168 [])⟩ | .inr o221 => tR Tryz.prog Tryz.f27 (.bool o221)) h219 ?_ ?_
 clear h h4 h135 h169 h217 h217T h219
 intro t222 x h
 simp only [denial_Contradictory_l50] at h
 refine zs (zr ?_)
 refine zU (zl (zn (zs ?_)))
 rcases zI h with ⟨h223, h⟩ | ⟨h223, h⟩
 refine zi (zk (zn (zs (zb (zs (zr ?_))))))
 refine zU (zl (zn (zs (zr ?_))))
 obtain ⟨x224, h225, h225a, h225b, h⟩ := zX h
 obtain ⟨x226, h227, h227a, h227b, h⟩ := zX h
 refine zU (zl (zn ?_))
 rcases zI h with ⟨h228, h⟩ | ⟨h228, h⟩
 refine zi (zs (zr ?_))
 refine zU (zl (zn (zq (yr (zt ?_)))))
 cases h
 exact ⟨rfl, zT Tryz.results27⟩
 refine zj (zk (yn (zn (zr ?_))))
 refine zU (zl ?_)
 cases h
 exact ⟨rfl, zE⟩
 refine zj (zx (ze ?_))
 cases h
 exact ⟨rfl, zE⟩
 rcases o218 with ⟨⟩ | r229
 try simp only at h
 refine zA (yh (zn (zs (zr ?_))))
 refine zU ?_
 refine zM ⟨[(118, .p (.slc (List.map encAtom a1))), (119, .func (.func 80) [.loc 3 1 0 0])], ((3, .arr 126 1 1 [.loc 14 1 0 0]) :: (14, .arr 130 2 1 [.agg [.own 220112 1 0 o132.length, .own 220113 1 0 i168.length]]) :: (220112, .arr 29 5 1 (List.map AV.p (List.map encTerm o132))) :: (220113, .arr 62 1 1 (famR 220113 3 1 1 (PV.int .i64) i168)) :: famL 220113 3 1 1 (PV.int .i64) i168 [])⟩ ?_
 refine AL_inline (avs := [.p (.slc (List.map encAtom a1)), .func (.func 80) [.loc 3 1 0 0]]) 619 rfl (guard_none rfl) rfl Tryz.func52 rfl Tryz.call52 Tryz.ntmps52 (by simp) (by simp only [go_sem, seval, h217T]; all_goals rfl) ?_
 intro i230 w231 h232
 refine zL ⟨[(0, .p (.slc (List.map encAtom a1))), (1, .func (.func 80) [.loc 3 1 0 0])], ((3, .arr 126 1 1 [.loc 14 1 0 0]) :: (14, .arr 130 2 1 [.agg [.own 220112 1 0 o132.length, .own 220113 1 0 i168.length]]) :: (220112, .arr 29 5 1 (List.map AV.p (List.map encTerm o132))) :: (220113, .arr 62 1 1 (famR 220113 3 1 2 (PV.int .i64) i168)) :: famL 220113 3 1 2 (PV.int .i64) i168 [])⟩ ?_
 refine zs (zr ?_)
 refine zU (zl (zn (zs (zr ?_))))
 refine zU ?_
 refine zM ⟨[(5, .p (.slc (List.map encAtom a1))), (6, .func (.func 80) [.loc 3 1 0 0])], ((3, .arr 126 1 1 [.loc 14 1 0 0]) :: (14, .arr 130 2 1 [.agg [.own 220112 1 0 o132.length, .own 220113 1 0 i168.length]]) :: (220112, .arr 29 5 1 (List.map AV.p (List.map encTerm o132))) :: (220113, .arr 62 1 1 (famR 220113 3 1 2 (PV.int .i64) i168)) :: famL 220113 3 1 2 (PV.int .i64) i168 [])⟩ ?_
 refine AL_inline (avs := [.p (.slc (List.map encAtom a1)), .func (.func 80) [.loc 3 1 0 0]]) 628 rfl (guard_none rfl) rfl Tryz.func105 rfl Tryz.call105 Tryz.ntmps105 (by simp) (by simp only [go_sem, seval, h217T]; all_goals rfl) ?_
 intro i233 w234 h235
 refine zL ⟨[(0, .p (.slc (List.map encAtom a1))), (1, .func (.func 80) [.loc 3 1 0 0])], ((3, .arr 126 1 1 [.loc 14 1 0 0]) :: (14, .arr 130 2 1 [.agg [.own 220112 1 0 o132.length, .own 220113 1 0 i168.length]]) :: (220112, .arr 29 5 1 (List.map AV.p (List.map encTerm o132))) :: (220113, .arr 62 1 1 (famR 220113 3 1 3 (PV.int .i64) i168)) :: famL 220113 3 1 3 (PV.int .i64) i168 [])⟩ ?_
 refine zs (zr ?_)
 refine zU (zl (zn (zs (zs (zr ?_)))))
 refine zU (zl (zn (zb ?_)))
 obtain ⟨o236, h237, h⟩ := zB h
 refine zO (fun (s : List Term × List (List Int) × Int) => ⟨[(0, .p (.slc (List.map encAtom a1))), (1, .func (.func 80) [.loc 3 1 0 0]), (7, .p (.int .i64 (a1.length : Int))), (8, .p (.int .i64 s.2.2))], ((3, .arr 126 1 1 [.loc 14 1 0 0]) :: (14, .arr 130 2 1 [.agg [.own 220112 2 0 s.1.length, .own 220113 2 0 s.2.1.length]]) :: (220112, .arr 29 5 2 (List.map AV.p (List.map encTerm s.1))) :: (220113, .arr 62 1 2 (famR 220113 3 1 3 (PV.int .i64) s.2.1)) :: famL 220113 3 1 3 (PV.int .i64) s.2.1 [])⟩) (fun (o : (List Term × List (List Int)) ⊕ (Int × List Term × List (List Int))) => match o with | .inl o238 => tE ⟨Tryz.prog, 19, 628, X, ((3, .arr 126 1 1 [.loc 14 1 0 0]) :: (14, .arr 130 2 1 [.agg [.own 220112 1 0 o132.length, .own 220113 1 0 i168.length]]) :: (220112, .arr 29 5 1 (List.map AV.p (List.map encTerm o132))) :: (220113, .arr 62 1 1 (famR 220113 3 1 2 (PV.int .i64) i168)) :: famL 220113 3 1 2 (PV.int .i64) i168 []), i233, w234, D, h235⟩ (.exit 0) ⟨[], ((3, .arr 126 1 1 [.loc 14 1 0 0]) :: (14, .arr 130 2 1 [.agg [.own 220112 2 0 o238.1.length, .own 220113 2 0 o238.2.length]]) :: (220112, .arr 29 5 2 (List.map AV.p (List.map encTerm o238.1))) :: (220113, .arr 62 1 2 (famR 220113 3 1 3 (PV.int .i64) o238.2)) :: famL 220113 3 1 3 (PV.int .i64) o238.2 [])⟩ | .inr o239 => tE ⟨Tryz.prog, 19, 628, X, ((3, .arr 126 1 1 [.loc 14 1 0 0]) :: (14, .arr 130 2 1 [.agg [.own 220112 1 0 o132.length, .own 220113 1 0 i168.length]]) :: (220112, .arr 29 5 1 (List.map AV.p (List.map encTerm o132))) :: (220113, .arr 62 1 1 (famR 220113 3 1 2 (PV.int .i64) i168)) :: famL 220113 3 1 2 (PV.int .i64) i168 []), i233, w234, D, h235⟩ .ret ⟨[(4, .p (.int .i64 o239.1))], ((3, .arr 126 1 1 [.loc 14 1 0 0]) :: (14, .arr 130 2 1 [.agg [.own 220112 3 0 o239.2.1.length, .own 220113 3 0 o239.2.2.length]]) :: (220112, .arr 29 5 3 (List.map AV.p (List.map encTerm o239.2.1))) :: (220113, .arr 62 1 3 (famR 220113 3 1 6 (PV.int .i64) o239.2.2)) :: famL 220113 3 1 6 (PV.int .i64) o239.2.2 [])⟩) h237 ?_ ?_
 clear h h4 h135 h169 h217 h217T h219 h237
 intro s x h
 obtain ⟨f240, f241, t242⟩ := s
 simp only [denial_Contradictory_l69] at h
 dsimp only
 refine zs (zr ?_)
 obtain ⟨h243, h⟩ := ite_some h
 have h243T : keysLe (i168.length) f241 = True := eq_true h243
 refine zU (zl (zn (zs ?_)))
 rcases zI h with ⟨h244, h⟩ | ⟨h244, h⟩
 have h244T := eq_true h244
 refine zi (zk (zn (zs (zb (zs (zr ?_))))))
 refine zU (zl (zn (zs (zr ?_))))
 obtain ⟨x245, h246, h246a, h246b, h⟩ := zX h
 refine zU ?_
 refine zM ⟨[(0, .p (.slc (List.map encAtom a1))), (1, .func (.func 80) [.loc 3 1 0 0]), (5, .p (.int .i64 t242)), (7, .p (.int .i64 (a1.length : Int))), (8, .p (.int .i64 t242)), (11, .func (.func 80) [.loc 3 1 0 0]), (15, .p (encAtom x245))], ((3, .arr 126 1 1 [.loc 14 1 0 0]) :: (14, .arr 130 2 1 [.agg [.own 220112 2 0 f240.length, .own 220113 2 0 f241.length]]) :: (220112, .arr 29 5 2 (List.map AV.p (List.map encTerm f240))) :: (220113, .arr 62 1 2 (famR 220113 3 1 3 (PV.int .i64) f241)) :: famL 220113 3 1 3 (PV.int .i64) f241 [])⟩ ?_
 refine AL_inline (avs := [.p (encAtom x245), .loc 3 1 0 0]) 647 rfl (guard_none rfl) rfl Tryz.func80 rfl Tryz.call80 Tryz.ntmps80 (by simp) (by simp only [go_sem, seval, h243T, h244T]; all_goals rfl) ?_
 intro i247 w248 h249
 refine zL ⟨[(0, .p (encAtom x245)), (1, .loc 3 1 0 0)], ((3, .arr 126 1 1 [.loc 14 1 0 0]) :: (14, .arr 130 2 1 [.agg [.own 220112 2 0 f240.length, .own 220113 2 0 f241.length]]) :: (220112, .arr 29 5 2 (List.map AV.p (List.map encTerm f240))) :: (220113, .arr 62 1 2 (famR 220113 3 1 4 (PV.int .i64) f241)) :: famL 220113 3 1 4 (PV.int .i64) f241 [])⟩ ?_
 refine zs (zr ?_)
 refine zU (zl (zn ?_))
 obtain ⟨o250, h251, h⟩ := zB h
 refine zJ (fun (o252 : List Term × List (List Int) × Int × Int) => tE ⟨Tryz.prog, 43, 647, X, ((3, .arr 126 1 1 [.loc 14 1 0 0]) :: (14, .arr 130 2 1 [.agg [.own 220112 2 0 f240.length, .own 220113 2 0 f241.length]]) :: (220112, .arr 29 5 2 (List.map AV.p (List.map encTerm f240))) :: (220113, .arr 62 1 2 (famR 220113 3 1 3 (PV.int .i64) f241)) :: famL 220113 3 1 3 (PV.int .i64) f241 []), i247, w248, D, h249⟩ .normal ⟨[(1, .loc 3 1 0 0), (2, .loc 649 1 0 0), (4, .p (.int .i64 o252.2.2.1)), (5, .p (.int .i64 o252.2.2.2))], ((3, .arr 126 1 1 [.loc 14 1 0 0]) :: (14, .arr 130 2 1 [.agg [.own 220112 3 0 o252.1.length, .own 220113 3 0 o252.2.1.length]]) :: (649, .arr 31 11 1 [.p (encAtom x245)]) :: (220112, .arr 29 5 3 (List.map AV.p (List.map encTerm o252.1))) :: (220113, .arr 62 1 3 (famR 220113 3 1 6 (PV.int .i64) o252.2.1)) :: famL 220113 3 1 6 (PV.int .i64) o252.2.1 [])⟩) o250 ?_ ?_
 replace h := h251
 clear h251
 refine zL ⟨[(1, .loc 3 1 0 0), (2, .loc 649 1 0 0)], ((3, .arr 126 1 1 [.loc 14 1 0 0]) :: (14, .arr 130 2 1 [.agg [.own 220112 2 0 f240.length, .own 220113 2 0 f241.length]]) :: (649, .arr 31 11 1 [.p (encAtom x245)]) :: (220112, .arr 29 5 2 (List.map AV.p (List.map encTerm f240))) :: (220113, .arr 62 1 2 (famR 220113 3 1 4 (PV.int .i64) f241)) :: famL 220113 3 1 4 (PV.int .i64) f241 [])⟩ ?_
 refine zH [3, 649] mixed (fun i253 w254 h255 r256 h257 h258 => ?_)
 refine zHl 0 3 h257 ?_
 refine zHf 1 ?_
 refine zHl 2 649 h257 ?_
 refine zHl 4 3 h257 ?_
 refine zHf 5 ?_
 refine zHl 6 649 h257 ?_
 refine zHs 3 h258 ?_
 refine zM ⟨[(1, .loc 3 1 0 0), (2, .loc 649 1 0 0), (6, .loc 14 1 0 0), (8, .p (encTerm x245.Left)), (10, .loc 14 1 0 0), (12, .p (encTerm x245.Right))], ((3, .arr 126 1 1 [.loc 14 1 0 0]) :: (14, .arr 130 2 1 [.agg [.own 220112 2 0 f240.length, .own 220113 2 0 f241.length]]) :: (649, .arr 31 11 1 [.p (encAtom x245)]) :: (220112, .arr 29 5 2 (List.map AV.p (List.map encTerm f240))) :: (220113, .arr 62 1 2 (famR 220113 3 1 4 (PV.int .i64) f241)) :: famL 220113 3 1 4 (PV.int .i64) f241 [])⟩ ?_
 refine AL_inline (avs := [.loc 14 1 0 0, .p (encTerm x245.Left)]) 690 rfl (guard_none rfl) rfl Tryz.func76 rfl Tryz.call76 Tryz.ntmps76 (by simp) (by simp only [go_sem, seval, h243T, h244T]; all_goals rfl) ?_
 intro i259 w260 h261
 refine zL ⟨[(0, .loc 14 1 0 0), (1, .p (encTerm x245.Left))], ((3, .arr 126 1 1 [.loc 14 1 0 0]) :: (14, .arr 130 2 1 [.agg [.own 220112 2 0 f240.length, .own 220113 2 0 f241.length]]) :: (649, .arr 31 11 1 [.p (encAtom x245)]) :: (220112, .arr 29 5 2 (List.map AV.p (List.map encTerm f240))) :: (220113, .arr 62 1 2 (famR 220113 3 1 5 (PV.int .i64) f241)) :: famL 220113 3 1 5 (PV.int .i64) f241 [])⟩ ?_
 refine zs (zr ?_)
 refine zU (zl (zn (zs (zd ?_))))
 refine yU ?_
 obtain ⟨r262, h263, h⟩ := zB h
 refine yc (slices_Index_Term_con f240 x245.Left _ h263) ?_
 refine yU ?_
 refine ydS ?_
 refine zn (zs (zs (zr ?_)))
 refine zU (zl (zn ?_))
 rcases zI h with ⟨h264, h⟩ | ⟨h264, h⟩
 have h264T := eq_true h264
 refine zi (zs (zr ?_))
 refine zU (zl (zn (zq (zt ?_))))
 refine inlQ_ret (by simp only [Tryz.results76]; simp only [go_sem, seval, h243T, h244T, h264T]; exact rfl) ?_
 refine zl ?_
 refine zHk ⟨stb_loc, stb_rig, trivial⟩ ?_
 refine zHs 7 h258 ?_
 refine zM ⟨[(1, .loc 3 1 0 0), (2, .loc 649 1 0 0), (9, .p (.int .i64 r262)), (10, .loc 14 1 0 0), (12, .p (encTerm x245.Right))], ((3, .arr 126 1 1 [.loc 14 1 0 0]) :: (14, .arr 130 2 1 [.agg [.own 220112 2 0 f240.length, .own 220113 2 0 f241.length]]) :: (649, .arr 31 11 1 [.p (encAtom x245)]) :: (220112, .arr 29 5 2 (List.map AV.p (List.map encTerm f240))) :: (220113, .arr 62 1 2 (famR 220113 3 1 5 (PV.int .i64) f241)) :: famL 220113 3 1 5 (PV.int .i64) f241 [])⟩ ?_
 refine AL_inline (avs := [.loc 14 1 0 0, .p (encTerm x245.Right)]) 771 rfl (guard_none rfl) rfl Tryz.func76 rfl Tryz.call76 Tryz.ntmps76 (by simp) (by simp only [go_sem, seval, h243T, h244T, h264T]; all_goals rfl) ?_
 intro i265 w266 h267
 refine zL ⟨[(0, .loc 14 1 0 0), (1, .p (encTerm x245.Right))], ((3, .arr 126 1 1 [.loc 14 1 0 0]) :: (14, .arr 130 2 1 [.agg [.own 220112 2 0 f240.length, .own 220113 2 0 f241.length]]) :: (649, .arr 31 11 1 [.p (encAtom x245)]) :: (220112, .arr 29 5 2 (List.map AV.p (List.map encTerm f240))) :: (220113, .arr 62 1 2 (famR 220113 3 1 6 (PV.int .i64) f241)) :: famL 220113 3 1 6 (PV.int .i64) f241 [])⟩ ?_
 refine zs (zr ?_)
 refine zU (zl (zn (zs (zd ?_))))
 refine yU ?_
 obtain ⟨r268, h269, h⟩ := zB h
 refine yc (slices_Index_Term_con f240 x245.Right _ h269) ?_
 refine yU ?_
 refine ydS ?_
 refine zn (zs (zs (zr ?_)))
 refine zU (zl (zn ?_))
 rcases zI h with ⟨h270, h⟩ | ⟨h270, h⟩
 have h270T := eq_true h270
 refine zi (zs (zr ?_))
 refine zU (zl (zn (zq (zt ?_))))
 refine inlQ_ret (by simp only [Tryz.results76]; simp only [go_sem, seval, h243T, h244T, h264T, h270T]; exact rfl) ?_
 refine zl ?_
 refine zHk ⟨stb_loc, stb_rig, trivial⟩ ?_
 refine zHm 8 ?_
 refine zHm 9 ?_
 refine zHe ?_
 cases h
 exact ⟨rfl, zE⟩
 have h270T := eq_false h270
 refine zj (zk (zn (zs (zd ?_))))
 obtain ⟨h271, h⟩ := ite_some h
 refine yU ?_
 refine ydS ?_
 refine zn (zs (zs (zr ?_)))
 refine zU (zl (zn (zb ?_)))
 obtain ⟨o272, h273, h⟩ := zB h
 refine zO (fun (s : List (List Int) × Int) => ⟨[(0, .loc 14 1 0 0), (30, .p (.int .i64 ((f241.length : Nat) : Int))), (31, .p (.int .i64 s.2))], ((3, .arr 126 1 1 [.loc 14 1 0 0]) :: (14, .arr 130 2 1 [.agg [.own 220112 3 0 (f240.length + 1), .own 220113 2 0 s.1.length]]) :: (649, .arr 31 11 1 [.p (encAtom x245)]) :: (220112, .arr 29 5 3 (List.map AV.p (List.map encTerm (f240 ++ [x245.Right])))) :: (220113, .arr 62 1 2 (famR 220113 3 1 6 (PV.int .i64) s.1)) :: famL 220113 3 1 6 (PV.int .i64) s.1 [])⟩) (fun (o274 : List (List Int)) => tE ⟨Tryz.prog, 81, 771, X, ((3, .arr 126 1 1 [.loc 14 1 0 0]) :: (14, .arr 130 2 1 [.agg [.own 220112 2 0 f240.length, .own 220113 2 0 f241.length]]) :: (649, .arr 31 11 1 [.p (encAtom x245)]) :: (220112, .arr 29 5 2 (List.map AV.p (List.map encTerm f240))) :: (220113, .arr 62 1 2 (famR 220113 3 1 5 (PV.int .i64) f241)) :: famL 220113 3 1 5 (PV.int .i64) f241 []), i265, w266, D, h267⟩ (.exit 0) ⟨[(0, .loc 14 1 0 0)], ((3, .arr 126 1 1 [.loc 14 1 0 0]) :: (14, .arr 130 2 1 [.agg [.own 220112 3 0 (f240.length + 1), .own 220113 2 0 o274.length]]) :: (649, .arr 31 11 1 [.p (encAtom x245)]) :: (220112, .arr 29 5 3 (List.map AV.p (List.map encTerm (f240 ++ [x245.Right])))) :: (220113, .arr 62 1 2 (famR 220113 3 1 6 (PV.int .i64) o274)) :: famL 220113 3 1 6 (PV.int .i64) o274 [])⟩) h273 ?_ ?_
 clear h h243 h243T h244 h244T h246 h246a h246b h263 h264 h264T h269 h270 h270T h271 h273
 intro s x h
 obtain ⟨o275, t276⟩ := s
 simp only [denial_Contradictory_l66] at h
 dsimp only
 refine zs (zr ?_)
 obtain ⟨h277, h⟩ := ite_some h
 have h277T : keysLe (f241.length) o275 = True := eq_true h277
 refine zU (zl (zn (zs ?_)))
 rcases zI h with ⟨h278, h⟩ | ⟨h278, h⟩
 refine zi (zk (zn (zs (zb (zs (zr ?_))))))
 refine zU (zl (zn (zd ?_)))
 obtain ⟨x279, h280, h280a, h280b, h⟩ := zX h
 obtain ⟨h281, h⟩ := ite_some h
 refine yU ?_
 refine ydS ?_
 refine yn (zn ?_)
 refine zL ⟨[(0, .loc 14 1 0 0), (30, .p (.int .i64 ((f241.length : Nat) : Int))), (31, .p (.int .i64 t276))], ((3, .arr 126 1 1 [.loc 14 1 0 0]) :: (14, .arr 130 2 1 [.agg [.own 220112 3 0 (f240.length + 1), .own 220113 2 0 ((o275.set t276.toNat (x279 ++ [0]))).length]]) :: (649, .arr 31 11 1 [.p (encAtom x245)]) :: (220112, .arr 29 5 3 (List.map AV.p (List.map encTerm (f240 ++ [x245.Right])))) :: (220113, .arr 62 1 2 (famR 220113 3 1 6 (PV.int .i64) (o275.set t276.toNat (x279 ++ [0])))) :: famL 220113 3 1 6 (PV.int .i64) (o275.set t276.toNat (x279 ++ [0])) [])⟩ ?_
 refine zr ?_
 refine zU (zl ?_)
 cases h
 exact ⟨rfl, zE⟩
 refine zj (zx (ze ?_))
 cases h
 exact ⟨rfl, zE⟩
 try simp only at h
 refine zA (yh (zn (zs (zd ?_))))
 obtain ⟨h282, h⟩ := ite_some h
 have h282T : keysLe (f241.length) o272 = True := eq_true h282
 obtain ⟨h283, h⟩ := ite_some h
 obtain ⟨h284, h⟩ := ite_some h
 obtain ⟨h285, h⟩ := ite_some h
 refine yU ?_
 refine ydS ?_
 refine zn ?_
 refine zSwA 831 (fx 220113 o272.length) ?_
 refine zL ⟨[(0, .loc 14 1 0 0)], ((3, .arr 126 1 1 [.loc 14 1 0 0]) :: (14, .arr 130 2 1 [.agg [.own 220112 3 0 (f240.length + 1), .own 220113 3 0 (o272.length + 1)]]) :: (649, .arr 31 11 1 [.p (encAtom x245)]) :: (220112, .arr 29 5 3 (List.map AV.p (List.map encTerm (f240 ++ [x245.Right])))) :: (220113, .arr 62 1 3 (famR 220113 3 1 6 (PV.int .i64) (o272 ++ [(List.replicate (f240.length + 1) 0)]))) :: famL 220113 3 1 6 (PV.int .i64) (o272 ++ [(List.replicate (f240.length + 1) 0)]) [])⟩ ?_
 refine zs (zr ?_)
 refine zU (zl (zn (zs (zr ?_))))
 obtain ⟨x286, h287, h287a, h287b, h⟩ := zX h
 have hx_6900C := h287b
 simp only [List.length_append, List.length_set, List.length_cons, List.length_nil, Nat.zero_add] at hx_6900C
 obtain ⟨x288, h289, h289a, h289b, h⟩ := zX h
 refine zW 10 ?_
 refine zM ⟨[(5, .p (.int .i64 (IntKind.i64.wrap ((((f240.length + 1) : Nat) : Int) - 1))))], ((3, .arr 126 1 1 [.loc 14 1 0 0]) :: (14, .arr 130 2 1 [.agg [.own 220112 3 0 (f240.length + 1), .own 220113 3 0 (((o272 ++ [(List.replicate (f240.length + 1) 0)]).set ((IntKind.i64.wrap ((((f240.length + 1) : Nat) : Int) - 1)).toNat) (x286.set (IntKind.i64.wrap ((((f240.length + 1) : Nat) : Int) - 1)).toNat 1))).length]]) :: (649, .arr 31 11 1 [.p (encAtom x245)]) :: (220112, .arr 29 5 3 (List.map AV.p (List.map encTerm (f240 ++ [x245.Right])))) :: (220113, .arr 62 1 3 (famR 220113 3 1 6 (PV.int .i64) ((o272 ++ [(List.replicate (f240.length + 1) 0)]).set ((IntKind.i64.wrap ((((f240.length + 1) : Nat) : Int) - 1)).toNat) (x286.set (IntKind.i64.wrap ((((f240.length + 1) : Nat) : Int) - 1)).toNat 1)))) :: famL 220113 3 1 6 (PV.int .i64) ((o272 ++ [(List.replicate (f240.length + 1) 0)]).set ((IntKind.i64.wrap ((((f240.length + 1) : Nat) : Int) - 1)).toNat) (x286.set (IntKind.i64.wrap ((((f240.length + 1) : Nat) : Int) - 1)).toNat 1)) [])⟩ ?_
 refine zl (zn (zs (zr ?_)))
 refine zU (zl (zn (zq ?_)))
 refine inlQ_ret (by simp only [Tryz.results76]; simp only [go_sem, seval, h243T, h244T, h264T, h270T, h282T]; exact rfl) ?_
 refine zl ?_
 refine zHk ⟨stb_loc, stb_rig, trivial⟩ ?_
 refine zHm 8 ?_
 refine zHm 9 ?_
 refine zHe ?_
 cases h
 exact ⟨rfl, zE⟩
 have h264T := eq_false h264
 refine zj (zk (zn (zs (zd ?_))))
 obtain ⟨h290, h⟩ := ite_some h
 refine yU ?_
 refine ydS ?_
 refine zn (zs (zs (zr ?_)))
 refine zU (zl (zn (zb ?_)))
 obtain ⟨o291, h292, h⟩ := zB h
 refine zO (fun (s : List (List Int) × Int) => ⟨[(0, .loc 14 1 0 0), (30, .p (.int .i64 ((f241.length : Nat) : Int))), (31, .p (.int .i64 s.2))], ((3, .arr 126 1 1 [.loc 14 1 0 0]) :: (14, .arr 130 2 1 [.agg [.own 220112 3 0 (f240.length + 1), .own 220113 2 0 s.1.length]]) :: (649, .arr 31 11 1 [.p (encAtom x245)]) :: (220112, .arr 29 5 3 (List.map AV.p (List.map encTerm (f240 ++ [x245.Left])))) :: (220113, .arr 62 1 2 (famR 220113 3 1 5 (PV.int .i64) s.1)) :: famL 220113 3 1 5 (PV.int .i64) s.1 [])⟩) (fun (o293 : List (List Int)) => tE ⟨Tryz.prog, 81, 690, X, ((3, .arr 126 1 1 [.loc 14 1 0 0]) :: (14, .arr 130 2 1 [.agg [.own 220112 2 0 f240.length, .own 220113 2 0 f241.length]]) :: (649, .arr 31 11 1 [.p (encAtom x245)]) :: (220112, .arr 29 5 2 (List.map AV.p (List.map encTerm f240))) :: (220113, .arr 62 1 2 (famR 220113 3 1 4 (PV.int .i64) f241)) :: famL 220113 3 1 4 (PV.int .i64) f241 []), i259, w260, D, h261⟩ (.exit 0) ⟨[(0, .loc 14 1 0 0)], ((3, .arr 126 1 1 [.loc 14 1 0 0]) :: (14, .arr 130 2 1 [.agg [.own 220112 3 0 (f240.length + 1), .own 220113 2 0 o293.length]]) :: (649, .arr 31 11 1 [.p (encAtom x245)]) :: (220112, .arr 29 5 3 (List.map AV.p (List.map encTerm (f240 ++ [x245.Left])))) :: (220113, .arr 62 1 2 (famR 220113 3 1 5 (PV.int .i64) o293)) :: famL 220113 3 1 5 (PV.int .i64) o293 [])⟩) h292 ?_ ?_
 clear h h243 h243T h244 h244T h246 h246a h246b h263 h264 h264T h290 h292
 intro s x h
 obtain ⟨o294, t295⟩ := s
 simp only [denial_Contradictory_l67] at h
 dsimp only
 refine zs (zr ?_)
 obtain ⟨h296, h⟩ := ite_some h
 have h296T : keysLe (f241.length) o294 = True := eq_true h296
 refine zU (zl (zn (zs ?_)))
 rcases zI h with ⟨h297, h⟩ | ⟨h297, h⟩
 refine zi (zk (zn (zs (zb (zs (zr ?_))))))
 refine zU (zl (zn (zd ?_)))
 obtain ⟨x298, h299, h299a, h299b, h⟩ := zX h
 obtain ⟨h300, h⟩ := ite_some h
 refine yU ?_
 refine ydS ?_
 refine yn (zn ?_)
 refine zL ⟨[(0, .loc 14 1 0 0), (30, .p (.int .i64 ((f241.length : Nat) : Int))), (31, .p (.int .i64 t295))], ((3, .arr 126 1 1 [.loc 14 1 0 0]) :: (14, .arr 130 2 1 [.agg [.own 220112 3 0 (f240.length + 1), .own 220113 2 0 ((o294.set t295.toNat (x298 ++ [0]))).length]]) :: (649, .arr 31 11 1 [.p (encAtom x245)]) :: (220112, .arr 29 5 3 (List.map AV.p (List.map encTerm (f240 ++ [x245.Left])))) :: (220113, .arr 62 1 2 (famR 220113 3 1 5 (PV.int .i64) (o294.set t295.toNat (x298 ++ [0])))) :: famL 220113 3 1 5 (PV.int .i64) (o294.set t295.toNat (x298 ++ [0])) [])⟩ ?_
 refine zr ?_
 refine zU (zl ?_)
 cases h
 exact ⟨rfl, zE⟩
 refine zj (zx (ze ?_))
 cases h
 exact ⟨rfl, zE⟩
 try simp only at h
 refine zA (yh (zn (zs (zd ?_))))
 obtain ⟨h301, h⟩ := ite_some h
 have h301T : keysLe (f241.length) o291 = True := eq_true h301
 obtain ⟨h302, h⟩ := ite_some h
 obtain ⟨h303, h⟩ := ite_some h
 obtain ⟨h304, h⟩ := ite_some h
 refine yU ?_
 refine ydS ?_
 refine zn ?_
 refine zSwA 750 (fx 220113 o291.length) ?_
 refine zL ⟨[(0, .loc 14 1 0 0)], ((3, .arr 126 1 1 [.loc 14 1 0 0]) :: (14, .arr 130 2 1 [.agg [.own 220112 3 0 (f240.length + 1), .own 220113 3 0 (o291.length + 1)]]) :: (649, .arr 31 11 1 [.p (encAtom x245)]) :: (220112, .arr 29 5 3 (List.map AV.p (List.map encTerm (f240 ++ [x245.Left])))) :: (220113, .arr 62 1 3 (famR 220113 3 1 5 (PV.int .i64) (o291 ++ [(List.replicate (f240.length + 1) 0)]))) :: famL 220113 3 1 5 (PV.int .i64) (o291 ++ [(List.replicate (f240.length + 1) 0)]) [])⟩ ?_
 refine zs (zr ?_)
 refine zU (zl (zn (zs (zr ?_))))
 obtain ⟨x305, h306, h306a, h306b, h⟩ := zX h
 have hx_6935C := h306b
 simp only [List.length_append, List.length_set, List.length_cons, List.length_nil, Nat.zero_add] at hx_6935C
 obtain ⟨x307, h308, h308a, h308b, h⟩ := zX h
 refine zW 10 ?_
 refine zM ⟨[(5, .p (.int .i64 (IntKind.i64.wrap ((((f240.length + 1) : Nat) : Int) - 1))))], ((3, .arr 126 1 1 [.loc 14 1 0 0]) :: (14, .arr 130 2 1 [.agg [.own 220112 3 0 (f240.length + 1), .own 220113 3 0 (((o291 ++ [(List.replicate (f240.length + 1) 0)]).set ((IntKind.i64.wrap ((((f240.length + 1) : Nat) : Int) - 1)).toNat) (x305.set (IntKind.i64.wrap ((((f240.length + 1) : Nat) : Int) - 1)).toNat 1))).length]]) :: (649, .arr 31 11 1 [.p (encAtom x245)]) :: (220112, .arr 29 5 3 (List.map AV.p (List.map encTerm (f240 ++ [x245.Left])))) :: (220113, .arr 62 1 3 (famR 220113 3 1 5 (PV.int .i64) ((o291 ++ [(List.replicate (f240.length + 1) 0)]).set ((IntKind.i64.wrap ((((f240.length + 1) : Nat) : Int) - 1)).toNat) (x305.set (IntKind.i64.wrap ((((f240.length + 1) : Nat) : Int) - 1)).toNat 1)))) :: famL 220113 3 1 5 (PV.int .i64) ((o291 ++ [(List.replicate (f240.length + 1) 0)]).set ((IntKind.i64.wrap ((((f240.length + 1) : Nat) : Int) - 1)).toNat) (x305.set (IntKind.i64.wrap ((((f240.length + 1) : Nat) : Int) - 1)).toNat 1)) [])⟩ ?_
 refine zl (zn (zs (zr ?_)))
 refine zU (zl (zn (zq ?_)))
 refine inlQ_ret (by simp only [Tryz.results76]; simp only [go_sem, seval, h243T, h244T, h264T, h301T]; exact rfl) ?_
 refine zl ?_
 refine zHk ⟨stb_loc, stb_rig, trivial⟩ ?_
 refine zHs 7 h258 ?_
 refine zM ⟨[(1, .loc 3 1 0 0), (2, .loc 649 1 0 0), (9, .p (.int .i64 (IntKind.i64.wrap ((((f240.length + 1) : Nat) : Int) - 1)))), (10, .loc 14 1 0 0), (12, .p (encTerm x245.Right))], ((3, .arr 126 1 1 [.loc 14 1 0 0]) :: (14, .arr 130 2 1 [.agg [.own 220112 3 0 (f240.length + 1), .own 220113 3 0 (((o291 ++ [(List.replicate (f240.length + 1) 0)]).set ((IntKind.i64.wrap ((((f240.length + 1) : Nat) : Int) - 1)).toNat) (x305.set (IntKind.i64.wrap ((((f240.length + 1) : Nat) : Int) - 1)).toNat 1))).length]]) :: (649, .arr 31 11 1 [.p (encAtom x245)]) :: (220112, .arr 29 5 3 (List.map AV.p (List.map encTerm (f240 ++ [x245.Left])))) :: (220113, .arr 62 1 3 (famR 220113 3 1 5 (PV.int .i64) ((o291 ++ [(List.replicate (f240.length + 1) 0)]).set ((IntKind.i64.wrap ((((f240.length + 1) : Nat) : Int) - 1)).toNat) (x305.set (IntKind.i64.wrap ((((f240.length + 1) : Nat) : Int) - 1)).toNat 1)))) :: famL 220113 3 1 5 (PV.int .i64) ((o291 ++ [(List.replicate (f240.length + 1) 0)]).set ((IntKind.i64.wrap ((((f240.length + 1) : Nat) : Int) - 1)).toNat) (x305.set (IntKind.i64.wrap ((((f240.length + 1) : Nat) : Int) - 1)).toNat 1)) [])⟩ ?_
 refine AL_inline (avs := [.loc 14 1 0 0, .p (encTerm x245.Right)]) 852 rfl (guard_none rfl) rfl Tryz.func76 rfl Tryz.call76 Tryz.ntmps76 (by simp) (by simp only [go_sem, seval, h243T, h244T, h264T, h301T]; all_goals rfl) ?_
 intro i309 w310 h311
 refine zL ⟨[(0, .loc 14 1 0 0), (1, .p (encTerm x245.Right))], ((3, .arr 126 1 1 [.loc 14 1 0 0]) :: (14, .arr 130 2 1 [.agg [.own 220112 3 0 (f240.length + 1), .own 220113 3 0 (((o291 ++ [(List.replicate (f240.length + 1) 0)]).set ((IntKind.i64.wrap ((((f240.length + 1) : Nat) : Int) - 1)).toNat) (x305.set (IntKind.i64.wrap ((((f240.length + 1) : Nat) : Int) - 1)).toNat 1))).length]]) :: (649, .arr 31 11 1 [.p (encAtom x245)]) :: (220112, .arr 29 5 3 (List.map AV.p (List.map encTerm (f240 ++ [x245.Left])))) :: (220113, .arr 62 1 3 (famR 220113 3 1 6 (PV.int .i64) ((o291 ++ [(List.replicate (f240.length + 1) 0)]).set ((IntKind.i64.wrap ((((f240.length + 1) : Nat) : Int) - 1)).toNat) (x305.set (IntKind.i64.wrap ((((f240.length + 1) : Nat) : Int) - 1)).toNat 1)))) :: famL 220113 3 1 6 (PV.int .i64) ((o291 ++ [(List.replicate (f240.length + 1) 0)]).set ((IntKind.i64.wrap ((((f240.length + 1) : Nat) : Int) - 1)).toNat) (x305.set (IntKind.i64.wrap ((((f240.length + 1) : Nat) : Int) - 1)).toNat 1)) [])⟩ ?_
 refine zs (zr ?_)
 refine zU (zl (zn (zs (zd ?_))))
 refine yU ?_
 obtain ⟨r312, h313, h⟩ := zB h
 refine yc (slices_Index_Term_con (f240 ++ [x245.Left]) x245.Right _ h313) ?_
 refine yU ?_
 refine ydS ?_
 refine zn (zs (zs (zr ?_)))
 refine zU (zl (zn ?_))
 rcases zI h with ⟨h314, h⟩ | ⟨h314, h⟩
 have h314T := eq_true h314
 refine zi (zs (zr ?_))
 refine zU (zl (zn (zq (zt ?_))))
 refine inlQ_ret (by simp only [Tryz.results76]; simp only [go_sem, seval, h243T, h244T, h264T, h301T, h314T]; exact rfl) ?_
 refine zl ?_
 refine zHk ⟨stb_loc, stb_rig, trivial⟩ ?_
 refine zHm 8 ?_
 refine zHm 9 ?_
 refine zHe ?_
 cases h
 exact ⟨rfl, zE⟩
 have h314T := eq_false h314
 refine zj (zk (zn (zs (zd ?_))))
 obtain ⟨h315, h⟩ := ite_some h
 refine yU ?_
 refine ydS ?_
 refine zn (zs (zs (zr ?_)))
 refine zU (zl (zn (zb ?_)))
 obtain ⟨o316, h317, h⟩ := zB h
 refine zO (fun (s : List (List Int) × Int) => ⟨[(0, .loc 14 1 0 0), (30, .p (.int .i64 (((((o291 ++ [(List.replicate (f240.length + 1) 0)]).set ((IntKind.i64.wrap ((((f240.length + 1) : Nat) : Int) - 1)).toNat) (x305.set (IntKind.i64.wrap ((((f240.length + 1) : Nat) : Int) - 1)).toNat 1))).length : Nat) : Int))), (31, .p (.int .i64 s.2))], ((3, .arr 126 1 1 [.loc 14 1 0 0]) :: (14, .arr 130 2 1 [.agg [.own 220112 4 0 ((f240.length + 1) + 1), .own 220113 3 0 s.1.length]]) :: (649, .arr 31 11 1 [.p (encAtom x245)]) :: (220112, .arr 29 5 4 (List.map AV.p (List.map encTerm ((f240 ++ [x245.Left]) ++ [x245.Right])))) :: (220113, .arr 62 1 3 (famR 220113 3 1 6 (PV.int .i64) s.1)) :: famL 220113 3 1 6 (PV.int .i64) s.1 [])⟩) (fun (o318 : List (List Int)) => tE ⟨Tryz.prog, 81, 852, X, ((3, .arr 126 1 1 [.loc 14 1 0 0]) :: (14, .arr 130 2 1 [.agg [.own 220112 3 0 (f240.length + 1), .own 220113 3 0 (((o291 ++ [(List.replicate (f240.length + 1) 0)]).set ((IntKind.i64.wrap ((((f240.length + 1) : Nat) : Int) - 1)).toNat) (x305.set (IntKind.i64.wrap ((((f240.length + 1) : Nat) : Int) - 1)).toNat 1))).length]]) :: (649, .arr 31 11 1 [.p (encAtom x245)]) :: (220112, .arr 29 5 3 (List.map AV.p (List.map encTerm (f240 ++ [x245.Left])))) :: (220113, .arr 62 1 3 (famR 220113 3 1 5 (PV.int .i64) ((o291 ++ [(List.replicate (f240.length + 1) 0)]).set ((IntKind.i64.wrap ((((f240.length + 1) : Nat) : Int) - 1)).toNat) (x305.set (IntKind.i64.wrap ((((f240.length + 1) : Nat) : Int) - 1)).toNat 1)))) :: famL 220113 3 1 5 (PV.int .i64) ((o291 ++ [(List.replicate (f240.length + 1) 0)]).set ((IntKind.i64.wrap ((((f240.length + 1) : Nat) : Int) - 1)).toNat) (x305.set (IntKind.i64.wrap ((((f240.length + 1) : Nat) : Int) - 1)).toNat 1)) []), i309, w310, D, h311⟩ (.exit 0) ⟨[(0, .loc 14 1 0 0)], ((3, .arr 126 1 1 [.loc 14 1 0 0]) :: (14, .arr 130 2 1 [.agg [.own 220112 4 0 ((f240.length + 1) + 1), .own 220113 3 0 o318.length]]) :: (649, .arr 31 11 1 [.p (encAtom x245)]) :: (220112, .arr 29 5 4 (List.map AV.p (List.map encTerm ((f240 ++ [x245.Left]) ++ [x245.Right])))) :: (220113, .arr 62 1 3 (famR 220113 3 1 6 (PV.int .i64) o318)) :: famL 220113 3 1 6 (PV.int .i64) o318 [])⟩) h317 ?_ ?_
 clear h h243 h243T h244 h244T h246 h246a h246b h263 h264 h264T h290 h292 h301 h301T h302 h303 h304 h306 h306a h306b hx_6935C h308 h308a h308b h313 h314 h314T h315 h317
 intro s x h
 obtain ⟨o319, t320⟩ := s
 simp only [denial_Contradictory_l68] at h
 dsimp only
 refine zs (zr ?_)
 obtain ⟨h321, h⟩ := ite_some h
 have h321T : keysLe ((o291 ++ [(List.replicate (f240.length + 1) 0)]).length) o319 = True := eq_true h321
 try simp only [go_sem, seval] at h321T
 refine zU (zl (zn (zs ?_)))
 rcases zI h with ⟨h322, h⟩ | ⟨h322, h⟩
 refine zi (zk (zn (zs (zb (zs (zr ?_))))))
 refine zU (zl (zn (zd ?_)))
 obtain ⟨x323, h324, h324a, h324b, h⟩ := zX h
 obtain ⟨h325, h⟩ := ite_some h
 refine yU ?_
 refine ydS ?_
 refine yn (zn ?_)
 refine zL ⟨[(0, .loc 14 1 0 0), (30, .p (.int .i64 (((((o291 ++ [(List.replicate (f240.length + 1) 0)]).set ((IntKind.i64.wrap ((((f240.length + 1) : Nat) : Int) - 1)).toNat) (x305.set (IntKind.i64.wrap ((((f240.length + 1) : Nat) : Int) - 1)).toNat 1))).length : Nat) : Int))), (31, .p (.int .i64 t320))], ((3, .arr 126 1 1 [.loc 14 1 0 0]) :: (14, .arr 130 2 1 [.agg [.own 220112 4 0 ((f240.length + 1) + 1), .own 220113 3 0 ((o319.set t320.toNat (x323 ++ [0]))).length]]) :: (649, .arr 31 11 1 [.p (encAtom x245)]) :: (220112, .arr 29 5 4 (List.map AV.p (List.map encTerm ((f240 ++ [x245.Left]) ++ [x245.Right])))) :: (220113, .arr 62 1 3 (famR 220113 3 1 6 (PV.int .i64) (o319.set t320.toNat (x323 ++ [0])))) :: famL 220113 3 1 6 (PV.int .i64) (o319.set t320.toNat (x323 ++ [0])) [])⟩ ?_
 refine zr ?_
 refine zU (zl ?_)
 cases h
 exact ⟨rfl, zE⟩
 refine zj (zx (ze ?_))
 cases h
 exact ⟨rfl, zE⟩
 try simp only at h
 refine zA (yh (zn (zs (zd ?_))))
 obtain ⟨h326, h⟩ := ite_some h
 have h326T : keysLe ((o291 ++ [(List.replicate (f240.length + 1) 0)]).length) o316 = True := eq_true h326
 try simp only [go_sem, seval] at h326T
 obtain ⟨h327, h⟩ := ite_some h
 obtain ⟨h328, h⟩ := ite_some h
 obtain ⟨h329, h⟩ := ite_some h
 refine yU ?_
 refine ydS ?_
 refine zn ?_
 refine zSwA 912 (fx 220113 o316.length) ?_
 refine zL ⟨[(0, .loc 14 1 0 0)], ((3, .arr 126 1 1 [.loc 14 1 0 0]) :: (14, .arr 130 2 1 [.agg [.own 220112 4 0 ((f240.length + 1) + 1), .own 220113 4 0 (o316.length + 1)]]) :: (649, .arr 31 11 1 [.p (encAtom x245)]) :: (220112, .arr 29 5 4 (List.map AV.p (List.map encTerm ((f240 ++ [x245.Left]) ++ [x245.Right])))) :: (220113, .arr 62 1 4 (famR 220113 3 1 6 (PV.int .i64) (o316 ++ [(List.replicate ((f240.length + 1) + 1) 0)]))) :: famL 220113 3 1 6 (PV.int .i64) (o316 ++ [(List.replicate ((f240.length + 1) + 1) 0)]) [])⟩ ?_
 refine zs (zr ?_)
 refine zU (zl (zn (zs (zr ?_))))
 obtain ⟨x330, h331, h331a, h331b, h⟩ := zX h
 have hx_6977C := h331b
 simp only [List.length_append, List.length_set, List.length_cons, List.length_nil, Nat.zero_add] at hx_6977C
 obtain ⟨x332, h333, h333a, h333b, h⟩ := zX h
 refine zW 10 ?_
 refine zM ⟨[(5, .p (.int .i64 (IntKind.i64.wrap (((((f240.length + 1) + 1) : Nat) : Int) - 1))))], ((3, .arr 126 1 1 [.loc 14 1 0 0]) :: (14, .arr 130 2 1 [.agg [.own 220112 4 0 ((f240.length + 1) + 1), .own 220113 4 0 (((o316 ++ [(List.replicate ((f240.length + 1) + 1) 0)]).set ((IntKind.i64.wrap (((((f240.length + 1) + 1) : Nat) : Int) - 1)).toNat) (x330.set (IntKind.i64.wrap (((((f240.length + 1) + 1) : Nat) : Int) - 1)).toNat 1))).length]]) :: (649, .arr 31 11 1 [.p (encAtom x245)]) :: (220112, .arr 29 5 4 (List.map AV.p (List.map encTerm ((f240 ++ [x245.Left]) ++ [x245.Right])))) :: (220113, .arr 62 1 4 (famR 220113 3 1 6 (PV.int .i64) ((o316 ++ [(List.replicate ((f240.length + 1) + 1) 0)]).set ((IntKind.i64.wrap (((((f240.length + 1) + 1) : Nat) : Int) - 1)).toNat) (x330.set (IntKind.i64.wrap (((((f240.length + 1) + 1) : Nat) : Int) - 1)).toNat 1)))) :: famL 220113 3 1 6 (PV.int .i64) ((o316 ++ [(List.replicate ((f240.length + 1) + 1) 0)]).set ((IntKind.i64.wrap (((((f240.length + 1) + 1) : Nat) : Int) - 1)).toNat) (x330.set (IntKind.i64.wrap (((((f240.length + 1) + 1) : Nat) : Int) - 1)).toNat 1)) [])⟩ ?_
 refine zl (zn (zs (zr ?_)))
 refine zU (zl (zn (zq ?_)))
 refine inlQ_ret (by simp only [Tryz.results76]; simp only [go_sem, seval, h243T, h244T, h264T, h301T, h314T, h326T]; exact rfl) ?_
 obtain ⟨h334, h⟩ := ite_some h
 have h334T : keysLe (f241.length) o316 = True := eq_true h334
 refine zl ?_
 refine zHk ⟨stb_loc, stb_rig, trivial⟩ ?_
 refine zHm 8 ?_
 refine zHm 9 ?_
 refine zHe ?_
 cases h
 exact ⟨rfl, zE⟩
 obtain ⟨t335, t336, l337, r338⟩ := o250
 try simp only at h
 refine zA (zn (zs (zr ?_)))
 obtain ⟨h339, h⟩ := ite_some h
 have h339T : keysLe (f241.length) t336 = True := eq_true h339
 refine zU ?_
 rcases zI h with ⟨h340, h⟩ | ⟨h340, h⟩
 refine zw 17 true ?_
 refine zg ?_
 refine zg ?_
 refine zg ?_
 refine zg ?_
 refine zg ?_
 obtain ⟨x341, h342, h342a, h342b, h⟩ := zX h
 refine zg ?_
 refine zg ?_
 refine zg ?_
 obtain ⟨x343, h344, h344a, h344b, h⟩ := zX h
 refine zg ?_
 refine zg ?_
 refine zg ?_
 refine zU ?_
 rcases zI h with ⟨h345, h⟩ | ⟨h345, h⟩
 have h345T := eq_true h345
 refine zw 30 true ?_
 refine zg ?_
 refine zg ?_
 refine zg ?_
 refine zg ?_
 refine zg ?_
 obtain ⟨x346, h347, h347a, h347b, h⟩ := zX h
 refine zg ?_
 refine zg ?_
 refine zg ?_
 obtain ⟨x348, h349, h349a, h349b, h⟩ := zX h
 refine zg ?_
 refine zg ?_
 refine zg ?_
 refine zU (zl (zn (zq ?_)))
 refine inlQ_ret (by simp only [Tryz.results80]; simp only [go_sem, seval, h243T, h244T, h339T, h340, h345T]; exact rfl) ?_
 obtain ⟨h350, h⟩ := ite_some h
 have h350T : keysLe (i168.length) t336 = True := eq_true h350
 refine zl (zn ?_)
 rcases zI h with ⟨h351, h⟩ | ⟨h351, h⟩
 refine zi (zs (zr ?_))
 refine zU (zl (zn (zq (yr (zt ?_)))))
 cases h
 exact ⟨rfl, zE⟩
 refine zj (zk (yn (zn (zr ?_))))
 refine zU (zl ?_)
 cases h
 exact ⟨rfl, zE⟩
 have h345T := eq_false h345
 refine zw 30 false ?_
 refine zh ?_
 refine zU (zl (zn (zq ?_)))
 refine inlQ_ret (by simp only [Tryz.results80]; simp only [go_sem, seval, h243T, h244T, h339T, h340, h345T]; exact rfl) ?_
 obtain ⟨h352, h⟩ := ite_some h
 have h352T : keysLe (i168.length) t336 = True := eq_true h352
 refine zl (zn ?_)
 refine zj (zk (yn (zn (zr ?_))))
 refine zU (zl ?_)
 cases h
 exact ⟨rfl, zE⟩
 have h340F := Bool.eq_false_iff.2 h340
 refine zw 17 false ?_
 refine zh ?_
 refine zU ?_
 refine zh ?_
 refine zU (zl (zn (zq ?_)))
 refine inlQ_ret (by simp only [Tryz.results80]; simp only [go_sem, seval, h243T, h244T, h339T, h340F]; exact rfl) ?_
 obtain ⟨h353, h⟩ := ite_some h
 have h353T : keysLe (i168.length) t336 = True := eq_true h353
 refine zl (zn ?_)
 refine zj (zk (yn (zn (zr ?_))))
 refine zU (zl ?_)
 cases h
 exact ⟨rfl, zE⟩
 have h244T := eq_false h244
 refine zj (zx (ze ?_))
 cases h
 exact ⟨rfl, zE⟩
 rcases o236 with ⟨f354, f355⟩ | ⟨t356, f357, f358⟩
 try simp only at h
 refine zA (yh (zn (zs (zr ?_))))
 obtain ⟨h359, h⟩ := ite_some h
 have h359T : keysLe (i168.length) f355 = True := eq_true h359
 refine zU (zl (zn (zq ?_)))
 refine inlQ_ret (by simp only [Tryz.results105]; simp only [go_sem, seval, h217T, h359T]; exact rfl) ?_
 refine zU (zl (zn (zq ?_)))
 refine inlQ_ret (by simp only [Tryz.results52]; simp only [go_sem, seval, h217T, h359T]; exact rfl) ?_
 refine zU (zl (zn (zq ?_)))
 cases h
 exact zT Tryz.results27
 try simp only at h
 refine zA (yr (zt ?_))
 obtain ⟨h360, h⟩ := ite_some h
 have h360T : keysLe (i168.length) f358 = True := eq_true h360
 refine inlQ_ret (by simp only [Tryz.results105]; simp only [go_sem, seval, h217T, h360T]; exact rfl) ?_
 refine zU (zl (zn (zq ?_)))
 refine inlQ_ret (by simp only [Tryz.results52]; simp only [go_sem, seval, h217T, h360T]; exact rfl) ?_
 refine zU (zl (zn (zq ?_)))
 cases h
 exact zT Tryz.results27
 try simp only at h
 refine zZ fun s hq => ?_
 refine yr (zt ?_)
 cases h
 exact hq
end Go.Proofs.YtlaodgbkpmdhoaaGreatDoor
set_option linter.unusedVariables false
set_option linter.unusedSimpArgs false
namespace Go.Proofs.YtlaodgbkpmdhoaaGreatDoor
open Go Go.Ab
set_option maxHeartbeats 4000000 in
theorem slices_IndexFunc_Atom_con {D : Prop} (s1 : List Atom) (f2 : Atom → Option (Bool)) (f2_k : FuncId) (f2_cs : List PV) (f2_h : ∀ (y3 : Atom) (r4 : Bool), f2 y3 = some r4 → Con D Tryz.prog f2_k ((encAtom y3) :: f2_cs) (.bool r4)) (r5 : Int) (h : slices_IndexFunc_Atom s1 f2 = some r5) : Con D Tryz.prog 105 [(.slc (List.map encAtom s1)), .func (.func f2_k) f2_cs] (.int .i64 r5) := by
 refine zP Tryz.call105 Tryz.func105 rfl Tryz.ntmps105 fun X w hT => ?_
 simp only [slices_IndexFunc_Atom] at h
 refine zs (zr ?_)
 refine zU (zl (zn (zs (zs (zr ?_)))))
 refine zU (zl (zn (zb ?_)))
 obtain ⟨o6, h7, h⟩ := zB h
 refine zO (fun (s : Int) => ⟨[(0, .p (.slc (List.map encAtom s1))), (1, .p (.func (.func f2_k) f2_cs)), (7, .p (.int .i64 (s1.length : Int))), (8, .p (.int .i64 s))], []⟩) (fun (o : (Unit) ⊕ (Int)) => match o with | .inl o8 => tE (cX Tryz.f105 X w D hT) (.exit 0) ⟨[], []⟩ | .inr o9 => tR Tryz.prog Tryz.f105 (.int .i64 o9)) h7 ?_ ?_
 clear h h7
 intro t10 x h
 simp only [slices_IndexFunc_Atom_l1] at h
 refine zs (zr ?_)
 refine zU (zl (zn (zs ?_)))
 rcases zI h with ⟨h11, h⟩ | ⟨h11, h⟩
 refine zi (zk (zn (zs (zb (zs (zr ?_))))))
 refine zU (zl (zn (zs (zr ?_))))
 obtain ⟨x12, h13, h13a, h13b, h⟩ := zX h
 refine zU ?_
 obtain ⟨r14, h15, h⟩ := zB h
 refine zc (f2_h x12 _ h15) ?_
 refine zl (zn ?_)
 rcases zI h with ⟨h16, h⟩ | ⟨h16, h⟩
 refine zi (zs (zr ?_))
 refine zU (zl (zn (zq (yr (zt ?_)))))
 cases h
 exact ⟨rfl, zT Tryz.results105⟩
 refine zj (zk (yn (zn (zr ?_))))
 refine zU (zl ?_)
 cases h
 exact ⟨rfl, zE⟩
 refine zj (zx (ze ?_))
 cases h
 exact ⟨rfl, zE⟩
 rcases o6 with ⟨⟩ | r17
 try simp only at h
 refine zA (yh (zn (zs (zr ?_))))
 refine zU (zl (zn (zq ?_)))
 cases h
 exact zT Tryz.results105
 try simp only at h
 refine zZ fun s hq => ?_
 refine yr (zt ?_)
 cases h
 exact hq
end Go.Proofs.YtlaodgbkpmdhoaaGreatDoor
set_option linter.unusedVariables false
set_option linter.unusedSimpArgs false
namespace Go.Proofs.YtlaodgbkpmdhoaaGreatDoor
open Go Go.Ab
set_option maxHeartbeats 4000000 in
theorem slices_ContainsFunc_Atom_con {D : Prop} (s1 : List Atom) (f2 : Atom → Option (Bool)) (f2_k : FuncId) (f2_cs : List PV) (f2_h : ∀ (y3 : Atom) (r4 : Bool), f2 y3 = some r4 → Con D Tryz.prog f2_k ((encAtom y3) :: f2_cs) (.bool r4)) (r5 : Bool) (h : slices_ContainsFunc_Atom s1 f2 = some r5) : Con D Tryz.prog 52 [(.slc (List.map encAtom s1)), .func (.func f2_k) f2_cs] (.bool r5) := by
 refine zP Tryz.call52 Tryz.func52 rfl Tryz.ntmps52 fun X w hT => ?_
 simp only [slices_ContainsFunc_Atom] at h
 refine zs (zr ?_)
 refine zU (zl (zn (zs (zr ?_))))
 refine zU ?_
 obtain ⟨r6, h7, h⟩ := zB h
 refine zc (slices_IndexFunc_Atom_con s1 f2 f2_k f2_cs f2_h _ h7) ?_
 refine zU (zl (zn (zq ?_)))
 cases h
 exact zT Tryz.results52
end Go.Proofs.YtlaodgbkpmdhoaaGreatDoor
set_option linter.unusedVariables false
set_option linter.unusedSimpArgs false
namespace Go.Proofs.YtlaodgbkpmdhoaaGreatDoor
open Go Go.Ab
set_option maxHeartbeats 4000000 in
theorem value_Valid_con {D : Prop} (v1 : Value) (r2 : Bool) (h : value_Valid v1 = some r2) : Con D Tryz.prog 106 [(encValue v1)] (.bool r2) := by
 refine zP Tryz.call106 Tryz.func106 rfl Tryz.ntmps106 fun X w hT => ?_
 simp only [value_Valid] at h
 refine zs (zr ?_)
 refine zU (zl (zn (zs (zs (zr ?_)))))
 refine zU (zl (zn (zb (zs (zr ?_)))))
 refine zU (zl (zn ?_))
 rcases zI h with ⟨h3, h⟩ | ⟨h3, h⟩
 refine zi (zs (zr ?_))
 refine zU ?_
 rcases zI h with ⟨h4, h⟩ | ⟨h4, h⟩
 replace h := h.symm
 refine zw 10 true ?_
 refine zg ?_
 refine zg ?_
 refine zg ?_
 refine zU (zl (zn (zq (yr (zt ?_)))))
 cases h
 exact zT Tryz.results106
 refine zw 10 false ?_
 refine zh ?_
 refine zU (zl (zn (zq (yr (zt ?_)))))
 cases h
 exact zT Tryz.results106
 refine zj (zs (zr ?_))
 refine zU (zl (zn ?_))
 rcases zI h with ⟨h5, h⟩ | ⟨h5, h⟩
 refine zi (zs (zr ?_))
 refine zU (zl (zn (zq (yr (zt ?_)))))
 cases h
 exact zT Tryz.results106
 refine zj (zs (zr ?_))
 refine zU (zl (zn ?_))
 rcases zI h with ⟨h6, h⟩ | ⟨h6, h⟩
 refine zi (zs (zr ?_))
 refine zU ?_
 rcases zI h with ⟨h7, h⟩ | ⟨h7, h⟩
 replace h := h.symm
 refine zw 25 true ?_
 refine zg ?_
 refine zg ?_
 refine zg ?_
 refine zg ?_
 refine zU (zl (zn (zq (yr (zt ?_)))))
 cases h
 exact zT Tryz.results106
 refine zw 25 false ?_
 refine zh ?_
 refine zU (zl (zn (zq (yr (zt ?_)))))
 cases h
 exact zT Tryz.results106
 refine zj (zs (zr ?_))
 refine zU (zl (zn ?_))
 rcases zI h with ⟨h8, h⟩ | ⟨h8, h⟩
 refine zi (zs (zr ?_))
 refine zU ?_
 rcases zI h with ⟨h9, h⟩ | ⟨h9, h⟩
 replace h := h.symm
 refine zw 36 true ?_
 refine zg ?_
 refine zg ?_
 refine zg ?_
 refine zU (zl (zn (zq (yr (zt ?_)))))
 cases h
 exact zT Tryz.results106
 refine zw 36 false ?_
 refine zh ?_
 refine zU (zl (zn (zq (yr (zt ?_)))))
 cases h
 exact zT Tryz.results106
 refine zj (zk (yn (zn (zs (zr ?_)))))
 refine zU (zl (zn (zq ?_)))
 cases h
 exact zT Tryz.results106
end Go.Proofs.YtlaodgbkpmdhoaaGreatDoor
set_option linter.unusedVariables false
set_option linter.unusedSimpArgs false
namespace Go.Proofs.YtlaodgbkpmdhoaaGreatDoor
open Go Go.Ab
set_option maxRecDepth 20000 in
set_option maxHeartbeats 4000000 in
theorem denial_termValid_con {D : Prop} (n1 : Int) (v2 : Int) (t3 : Term) (r4 : Bool) (h : denial_termValid n1 v2 t3 = some r4) : Con D Tryz.prog 54 [(.int .i64 n1), (.int .i64 v2), (encTerm t3)] (.bool r4) := by
 refine zP Tryz.call54 Tryz.func54 rfl Tryz.ntmps54 fun X w hT => ?_
 simp only [denial_termValid] at h
 refine zs (zr ?_)
 refine zU (zl (zn (zs (zs (zr ?_)))))
 refine zU (zl (zn ?_))
 rcases zI h with ⟨h5, h⟩ | ⟨h5, h⟩
 refine zi (zs (zr ?_))
 refine zU ?_
 rcases zI h with ⟨h6, h⟩ | ⟨h6, h⟩
 refine zw 13 true ?_
 refine zg ?_
 refine zg ?_
 obtain ⟨r7, h8, h⟩ := zB h
 refine zc (value_Valid_con t3.Value _ h8) ?_
 refine zU (zl (zn (zq (zt ?_))))
 cases h
 exact zT Tryz.results54
 refine zw 13 false ?_
 refine zh ?_
 refine zU (zl (zn (zq (zt ?_))))
 cases h
 exact zT Tryz.results54
 refine zj (zk (zn (zs (zr ?_))))
 refine zU ?_
 rcases zI h with ⟨h9, h⟩ | ⟨h9, h⟩
 refine zw 21 true ?_
 refine zg ?_
 refine zg ?_
 refine zg ?_
 refine zg ?_
 refine zU ?_
 rcases zI h with ⟨h10, h⟩ | ⟨h10, h⟩
 refine zw 27 true ?_
 refine zg ?_
 refine zg ?_
 refine zg ?_
 refine zU ?_
 rcases zI h with ⟨h11, h⟩ | ⟨h11, h⟩
 refine zw 32 true ?_
 refine zg ?_
 refine zg ?_
 refine zg ?_
 refine zg ?_
 refine zU ?_
 rcases zI h with ⟨h12, h⟩ | ⟨h12, h⟩
 replace h := h.symm
 refine zw 38 true ?_
 refine zg ?_
 refine zg ?_
 refine zg ?_
 refine zg ?_
 refine zU (zl (zn (zq ?_)))
 cases h
 exact zT Tryz.results54
 refine zw 38 false ?_
 refine zh ?_
 refine zU (zl (zn (zq ?_)))
 cases h
 exact zT Tryz.results54
 refine zw 32 false ?_
 refine zh ?_
 refine zU ?_
 refine zh ?_
 refine zU (zl (zn (zq ?_)))
 cases h
 exact zT Tryz.results54
 refine zw 27 false ?_
 refine zh ?_
 refine zU ?_
 refine zh ?_
 refine zU ?_
 refine zh ?_
 refine zU (zl (zn (zq ?_)))
 cases h
 exact zT Tryz.results54
 refine zw 21 false ?_
 refine zh ?_
 refine zU ?_
 refine zh ?_
 refine zU ?_
 refine zh ?_
 refine zU ?_
 refine zh ?_
 refine zU (zl (zn (zq ?_)))
 cases h
 exact zT Tryz.results54
end Go.Proofs.YtlaodgbkpmdhoaaGreatDoor
set_option linter.unusedVariables false
set_option linter.unusedSimpArgs false
namespace Go.Proofs.YtlaodgbkpmdhoaaGreatDoor
open Go Go.Ab
set_option maxRecDepth 20000 in
set_option maxHeartbeats 4000000 in
theorem denial_Valid_1_con {D : Prop} (a1 : Atom) (c2 : Int) (c3 : Denial) (r4 : Bool) (h : denial_Valid_1 a1 c2 c3 = some r4) : Con D Tryz.prog 53 [(encAtom a1), .imm [.int .i64 c2], .imm [.int .i64 c3.Vars, .slc (List.map encAtom c3.Atoms)]] (.bool r4) := by
 refine zP Tryz.call53 Tryz.func53 rfl Tryz.ntmps53 fun X w hT => ?_
 simp only [denial_Valid_1] at h
 refine zs (zr ?_)
 refine zU (zl (zn (zs (zr ?_))))
 refine zU ?_
 rcases zI h with ⟨h5, h⟩ | ⟨h5, h⟩
 refine zw 8 true ?_
 refine zh ?_
 refine zU ?_
 refine zh ?_
 refine zU ?_
 refine zh ?_
 refine zU (zl (zn (zq ?_)))
 cases h
 exact zT Tryz.results53
 refine zw 8 false ?_
 refine zg ?_
 refine zg ?_
 refine zg ?_
 refine zU ?_
 rcases zI h with ⟨h6, h⟩ | ⟨h6, h⟩
 refine zw 13 true ?_
 refine zh ?_
 refine zU ?_
 refine zh ?_
 refine zU (zl (zn (zq ?_)))
 cases h
 exact zT Tryz.results53
 refine zw 13 false ?_
 refine zg ?_
 refine zg ?_
 refine zg ?_
 refine zg ?_
 refine zg ?_
 obtain ⟨r7, h8, h⟩ := zB h
 refine zc (denial_termValid_con c2 c3.Vars a1.Left _ h8) ?_
 refine zg ?_
 refine zU ?_
 rcases zI h with ⟨h9, h⟩ | ⟨h9, h⟩
 refine zw 22 false ?_
 refine zg ?_
 refine zg ?_
 refine zg ?_
 refine zg ?_
 refine zg ?_
 obtain ⟨r10, h11, h⟩ := zB h
 replace h := h.symm
 refine zc (denial_termValid_con c2 c3.Vars a1.Right _ h11) ?_
 refine zg ?_
 refine zU (zl (zn (zq ?_)))
 cases h
 exact zT Tryz.results53
 refine zw 22 true ?_
 refine zh ?_
 refine zU (zl (zn (zq ?_)))
 cases h
 exact zT Tryz.results53
end Go.Proofs.YtlaodgbkpmdhoaaGreatDoor
set_option linter.unusedVariables false
set_option linter.unusedSimpArgs false
namespace Go.Proofs.YtlaodgbkpmdhoaaGreatDoor
open Go Go.Ab
set_option maxHeartbeats 4000000 in
theorem denial_Valid_con {D : Prop} (n1 : Int) (d2 : Denial) (r3 : Bool) (h : denial_Valid n1 d2 = some r3) : Con D Tryz.prog 12 [(.int .i64 n1), (encDenial d2)] (.bool r3) := by
 refine zP Tryz.call12 Tryz.func12 rfl Tryz.ntmps12 fun X w hT => ?_
 simp only [denial_Valid] at h
 refine zs (zr ?_)
 refine zU (zl (zn (zs (zs (zr ?_)))))
 refine zU ?_
 rcases zI h with ⟨h4, h⟩ | ⟨h4, h⟩
 refine zw 8 true ?_
 refine zh ?_
 refine zU ?_
 refine zh ?_
 refine zU (zl (zn ?_))
 refine zi (zs (zr ?_))
 refine zU (zl (zn (zq (zt ?_))))
 cases h
 exact zT Tryz.results12
 refine zw 8 false ?_
 refine zg ?_
 refine zg ?_
 refine zg ?_
 refine zU ?_
 rcases zI h with ⟨h5, h⟩ | ⟨h5, h⟩
 refine zw 13 true ?_
 refine zh ?_
 refine zU (zl (zn ?_))
 refine zi (zs (zr ?_))
 refine zU (zl (zn (zq (zt ?_))))
 cases h
 exact zT Tryz.results12
 refine zw 13 false ?_
 refine zg ?_
 refine zg ?_
 refine zg ?_
 refine zg ?_
 refine zU (zl (zn ?_))
 rcases zI h with ⟨h6, h⟩ | ⟨h6, h⟩
 refine zi (zs (zr ?_))
 refine zU (zl (zn (zq (zt ?_))))
 cases h
 exact zT Tryz.results12
 refine zj (zk (zn (zs (zr ?_))))
 refine zU ?_
 obtain ⟨r7, h8, h⟩ := zB h
 refine zc (slices_ContainsFunc_Atom_con d2.Atoms (fun (y9 : Atom) => denial_Valid_1 y9 n1 d2) 53 [.imm [.int .i64 n1], .imm [.int .i64 d2.Vars, .slc (List.map encAtom d2.Atoms)]] (fun y9 r h => denial_Valid_1_con y9 n1 d2 r h) _ h8) ?_
 refine zU (zl (zn (zq ?_)))
 cases h
 exact zT Tryz.results12
end Go.Proofs.YtlaodgbkpmdhoaaGreatDoor
set_option linter.unusedVariables false
set_option linter.unusedSimpArgs false
namespace Go.Proofs.YtlaodgbkpmdhoaaGreatDoor
open Go Go.Ab
set_option maxRecDepth 20000 in
set_option maxHeartbeats 4000000 in
theorem table_isName_con {D : Prop} (s1 : List UInt8) (r2 : Bool) (h : table_isName s1 = some r2) : Con D Tryz.prog 142 [(.str s1)] (.bool r2) := by
 refine zP Tryz.call142 Tryz.func142 rfl Tryz.ntmps142 fun X w hT => ?_
 simp only [table_isName] at h
 refine zs (zr ?_)
 refine zU (zl (zn (zs (zs (zr ?_)))))
 refine zU ?_
 rcases zI h with ⟨h3, h⟩ | ⟨h3, h⟩
 refine zw 8 true ?_
 refine zh ?_
 refine zU ?_
 refine zh ?_
 refine zU (zl (zn ?_))
 refine zi (zs (zr ?_))
 refine zU (zl (zn (zq (zt ?_))))
 cases h
 exact zT Tryz.results142
 refine zw 8 false ?_
 refine zg ?_
 refine zg ?_
 refine zg ?_
 refine zU ?_
 rcases zI h with ⟨h4, h⟩ | ⟨h4, h⟩
 refine zw 13 true ?_
 refine zh ?_
 refine zU (zl (zn ?_))
 refine zi (zs (zr ?_))
 refine zU (zl (zn (zq (zt ?_))))
 cases h
 exact zT Tryz.results142
 refine zw 13 false ?_
 refine zg ?_
 refine zg ?_
 refine zU (zl (zn ?_))
 rcases zI h with ⟨h5, h⟩ | ⟨h5, h⟩
 refine zi (zs (zr ?_))
 refine zU (zl (zn (zq (zt ?_))))
 cases h
 exact zT Tryz.results142
 refine zj (zk (zn (zs (zs (zr ?_)))))
 refine zU (zl (zn (zb ?_)))
 obtain ⟨o6, h7, h⟩ := zB h
 refine zO (fun (s : Int) => ⟨[(0, .p (.str s1)), (18, .p (.int .i64 (s1.length : Int))), (19, .p (.int .i64 s))], []⟩) (fun (o : (Unit) ⊕ (Bool)) => match o with | .inl o8 => tE (cX Tryz.f142 X w D hT) (.exit 0) ⟨[], []⟩ | .inr o9 => tR Tryz.prog Tryz.f142 (.bool o9)) h7 ?_ ?_
 clear h h3 h4 h5 h7
 intro t10 x h
 simp only [table_isName_l1] at h
 refine zs (zr ?_)
 refine zU (zl (zn (zs ?_)))
 rcases zI h with ⟨h11, h⟩ | ⟨h11, h⟩
 refine zi (zk (zn (zs (zb (zs (zr ?_))))))
 refine zU (zl (zn (zs (zr ?_))))
 obtain ⟨c12, h13, h13a, h13b, h⟩ := zX h
 refine zU (zl (zn ?_))
 obtain ⟨l14, h15, h⟩ := zB h
 refine zJ (fun (o16 : Bool) => tE (cX Tryz.f142 X w D hT) .normal ⟨[(0, .p (.str s1)), (3, .p (.int .i64 t10)), (4, .p (.int .u8 ((c12.toNat : Nat) : Int))), (5, .p (.bool o16)), (18, .p (.int .i64 (s1.length : Int))), (19, .p (.int .i64 t10))], []⟩) l14 ?_ ?_
 replace h := h15
 clear h15
 refine zr ?_
 refine zU ?_
 rcases zI h with ⟨h17, h⟩ | ⟨h17, h⟩
 refine zw 27 true ?_
 refine zg ?_
 refine zg ?_
 refine zU ?_
 rcases zI h with ⟨h18, h⟩ | ⟨h18, h⟩
 refine zw 31 true ?_
 refine zh ?_
 refine zU ?_
 refine zh ?_
 refine zU (zl ?_)
 cases h
 exact ⟨rfl, zE⟩
 refine zw 31 false ?_
 refine zg ?_
 refine zg ?_
 refine zg ?_
 rcases zI h with ⟨h19, h⟩ | ⟨h19, h⟩
 refine zw 34 true ?_
 refine zg ?_
 refine zg ?_
 refine zg ?_
 refine zU ?_
 rcases zI h with ⟨h20, h⟩ | ⟨h20, h⟩
 refine zw 39 true ?_
 refine zh ?_
 refine zU (zl ?_)
 cases h
 exact ⟨rfl, zE⟩
 replace h := h.symm
 refine zw 39 false ?_
 refine zg ?_
 refine zg ?_
 refine zU (zl ?_)
 cases h
 exact ⟨rfl, zE⟩
 replace h := h.symm
 refine zw 34 false ?_
 refine zh ?_
 refine zg ?_
 refine zU ?_
 refine zg ?_
 refine zg ?_
 refine zU (zl ?_)
 cases h
 exact ⟨rfl, zE⟩
 refine zw 27 false ?_
 refine zh ?_
 refine zU ?_
 refine zg ?_
 refine zg ?_
 refine zg ?_
 rcases zI h with ⟨h21, h⟩ | ⟨h21, h⟩
 refine zw 34 true ?_
 refine zg ?_
 refine zg ?_
 refine zg ?_
 refine zU ?_
 rcases zI h with ⟨h22, h⟩ | ⟨h22, h⟩
 refine zw 39 true ?_
 refine zh ?_
 refine zU (zl ?_)
 cases h
 exact ⟨rfl, zE⟩
 replace h := h.symm
 refine zw 39 false ?_
 refine zg ?_
 refine zg ?_
 refine zU (zl ?_)
 cases h
 exact ⟨rfl, zE⟩
 replace h := h.symm
 refine zw 34 false ?_
 refine zh ?_
 refine zg ?_
 refine zU ?_
 refine zg ?_
 refine zg ?_
 refine zU (zl ?_)
 cases h
 exact ⟨rfl, zE⟩
 try simp only at h
 refine zA (zn (zs (zr ?_)))
 refine zU ?_
 rcases zI h with ⟨h23, h⟩ | ⟨h23, h⟩
 refine zw 45 false ?_
 refine zh ?_
 refine zU (zl (zn ?_))
 refine zj (zk (yn (zn (zr ?_))))
 refine zU (zl ?_)
 cases h
 exact ⟨rfl, zE⟩
 refine zw 45 true ?_
 refine zg ?_
 refine zg ?_
 refine zg ?_
 rcases zI h with ⟨h24, h⟩ | ⟨h24, h⟩
 replace h := h.symm
 refine zw 48 true ?_
 refine zh ?_
 refine zg ?_
 refine zg ?_
 refine zh ?_
 refine zg ?_
 refine zU (zl (zn ?_))
 refine zi (zs (zr ?_))
 refine zU (zl (zn (zq (yr (zt ?_)))))
 cases h
 exact ⟨rfl, zT Tryz.results142⟩
 refine zw 48 false ?_
 refine zg ?_
 refine zg ?_
 refine zg ?_
 refine zg ?_
 rcases zI h with ⟨h25, h⟩ | ⟨h25, h⟩
 replace h := h.symm
 refine zw 52 true ?_
 refine zh ?_
 refine zg ?_
 refine zU (zl (zn ?_))
 refine zi (zs (zr ?_))
 refine zU (zl (zn (zq (yr (zt ?_)))))
 cases h
 exact ⟨rfl, zT Tryz.results142⟩
 refine zw 52 false ?_
 refine zg ?_
 refine zg ?_
 refine zg ?_
 refine zU (zl (zn ?_))
 rcases zI h with ⟨h26, h⟩ | ⟨h26, h⟩
 refine zi (zs (zr ?_))
 refine zU (zl (zn (zq (yr (zt ?_)))))
 cases h
 exact ⟨rfl, zT Tryz.results142⟩
 refine zj (zk (yn (zn (zr ?_))))
 refine zU (zl ?_)
 cases h
 exact ⟨rfl, zE⟩
 refine zj (zx (ze ?_))
 cases h
 exact ⟨rfl, zE⟩
 rcases o6 with ⟨⟩ | r27
 try simp only at h
 refine zA (yh (zn (zs (zr ?_))))
 refine zU (zl (zn (zq ?_)))
 cases h
 exact zT Tryz.results142
 try simp only at h
 refine zZ fun s hq => ?_
 refine yr (zt ?_)
 cases h
 exact hq
end Go.Proofs.YtlaodgbkpmdhoaaGreatDoor
set_option linter.unusedVariables false
set_option linter.unusedSimpArgs false
namespace Go.Proofs.YtlaodgbkpmdhoaaGreatDoor
open Go Go.Ab
set_option maxHeartbeats 4000000 in
theorem slices_Index_string_con {D : Prop} (s1 : List (List UInt8)) (v2 : List UInt8) (r3 : Int) (h : slices_Index_string s1 v2 = some r3) : Con D Tryz.prog 172 [(.slc (List.map PV.str s1)), (.str v2)] (.int .i64 r3) := by
 refine zP Tryz.call172 Tryz.func172 rfl Tryz.ntmps172 fun X w hT => ?_
 simp only [slices_Index_string] at h
 refine zs (zr ?_)
 refine zU (zl (zn (zs (zs (zr ?_)))))
 refine zU (zl (zn (zb ?_)))
 obtain ⟨o4, h5, h⟩ := zB h
 refine zO (fun (s : Int) => ⟨[(0, .p (.slc (List.map PV.str s1))), (1, .p (.str v2)), (7, .p (.int .i64 (s1.length : Int))), (8, .p (.int .i64 s))], []⟩) (fun (o : (Unit) ⊕ (Int)) => match o with | .inl o6 => tE (cX Tryz.f172 X w D hT) (.exit 0) ⟨[], []⟩ | .inr o7 => tR Tryz.prog Tryz.f172 (.int .i64 o7)) h5 ?_ ?_
 clear h h5
 intro t8 x h
 simp only [slices_Index_string_l1] at h
 refine zs (zr ?_)
 refine zU (zl (zn (zs ?_)))
 rcases zI h with ⟨h9, h⟩ | ⟨h9, h⟩
 refine zi (zk (zn (zs (zb (zs (zr ?_))))))
 refine zU (zl (zn (zs (zr ?_))))
 obtain ⟨x10, h11, h11a, h11b, h⟩ := zX h
 refine zU (zl (zn ?_))
 rcases zI h with ⟨h12, h⟩ | ⟨h12, h⟩
 refine zi (zs (zr ?_))
 refine zU (zl (zn (zq (yr (zt ?_)))))
 cases h
 exact ⟨rfl, zT Tryz.results172⟩
 refine zj (zk (yn (zn (zr ?_))))
 refine zU (zl ?_)
 cases h
 exact ⟨rfl, zE⟩
 refine zj (zx (ze ?_))
 cases h
 exact ⟨rfl, zE⟩
 rcases o4 with ⟨⟩ | r13
 try simp only at h
 refine zA (yh (zn (zs (zr ?_))))
 refine zU (zl (zn (zq ?_)))
 cases h
 exact zT Tryz.results172
 try simp only at h
 refine zZ fun s hq => ?_
 refine yr (zt ?_)
 cases h
 exact hq
end Go.Proofs.YtlaodgbkpmdhoaaGreatDoor
set_option linter.unusedVariables false
set_option linter.unusedSimpArgs false
namespace Go.Proofs.YtlaodgbkpmdhoaaGreatDoor
open Go Go.Ab
set_option maxHeartbeats 4000000 in
theorem slices_Contains_string_con {D : Prop} (s1 : List (List UInt8)) (v2 : List UInt8) (r3 : Bool) (h : slices_Contains_string s1 v2 = some r3) : Con D Tryz.prog 143 [(.slc (List.map PV.str s1)), (.str v2)] (.bool r3) := by
 refine zP Tryz.call143 Tryz.func143 rfl Tryz.ntmps143 fun X w hT => ?_
 simp only [slices_Contains_string] at h
 refine zs (zr ?_)
 refine zU (zl (zn (zs (zr ?_))))
 refine zU ?_
 obtain ⟨r4, h5, h⟩ := zB h
 refine zc (slices_Index_string_con s1 v2 _ h5) ?_
 refine zU (zl (zn (zq ?_)))
 cases h
 exact zT Tryz.results143
end Go.Proofs.YtlaodgbkpmdhoaaGreatDoor
set_option linter.unusedVariables false
set_option linter.unusedSimpArgs false
namespace Go.Proofs.YtlaodgbkpmdhoaaGreatDoor
open Go Go.Ab
set_option maxHeartbeats 4000000 in
theorem slices_IndexFunc_Value_con {D : Prop} (s1 : List Value) (f2 : Value → Option (Bool)) (f2_k : FuncId) (f2_cs : List PV) (f2_h : ∀ (y3 : Value) (r4 : Bool), f2 y3 = some r4 → Con D Tryz.prog f2_k ((encValue y3) :: f2_cs) (.bool r4)) (r5 : Int) (h : slices_IndexFunc_Value s1 f2 = some r5) : Con D Tryz.prog 183 [(.slc (List.map encValue s1)), .func (.func f2_k) f2_cs] (.int .i64 r5) := by
 refine zP Tryz.call183 Tryz.func183 rfl Tryz.ntmps183 fun X w hT => ?_
 simp only [slices_IndexFunc_Value] at h
 refine zs (zr ?_)
 refine zU (zl (zn (zs (zs (zr ?_)))))
 refine zU (zl (zn (zb ?_)))
 obtain ⟨o6, h7, h⟩ := zB h
 refine zO (fun (s : Int) => ⟨[(0, .p (.slc (List.map encValue s1))), (1, .p (.func (.func f2_k) f2_cs)), (7, .p (.int .i64 (s1.length : Int))), (8, .p (.int .i64 s))], []⟩) (fun (o : (Unit) ⊕ (Int)) => match o with | .inl o8 => tE (cX Tryz.f183 X w D hT) (.exit 0) ⟨[], []⟩ | .inr o9 => tR Tryz.prog Tryz.f183 (.int .i64 o9)) h7 ?_ ?_
 clear h h7
 intro t10 x h
 simp only [slices_IndexFunc_Value_l1] at h
 refine zs (zr ?_)
 refine zU (zl (zn (zs ?_)))
 rcases zI h with ⟨h11, h⟩ | ⟨h11, h⟩
 refine zi (zk (zn (zs (zb (zs (zr ?_))))))
 refine zU (zl (zn (zs (zr ?_))))
 obtain ⟨x12, h13, h13a, h13b, h⟩ := zX h
 refine zU ?_
 obtain ⟨r14, h15, h⟩ := zB h
 refine zc (f2_h x12 _ h15) ?_
 refine zl (zn ?_)
 rcases zI h with ⟨h16, h⟩ | ⟨h16, h⟩
 refine zi (zs (zr ?_))
 refine zU (zl (zn (zq (yr (zt ?_)))))
 cases h
 exact ⟨rfl, zT Tryz.results183⟩
 refine zj (zk (yn (zn (zr ?_))))
 refine zU (zl ?_)
 cases h
 exact ⟨rfl, zE⟩
 refine zj (zx (ze ?_))
 cases h
 exact ⟨rfl, zE⟩
 rcases o6 with ⟨⟩ | r17
 try simp only at h
 refine zA (yh (zn (zs (zr ?_))))
 refine zU (zl (zn (zq ?_)))
 cases h
 exact zT Tryz.results183
 try simp only at h
 refine zZ fun s hq => ?_
 refine yr (zt ?_)
 cases h
 exact hq
end Go.Proofs.YtlaodgbkpmdhoaaGreatDoor
set_option linter.unusedVariables false
set_option linter.unusedSimpArgs false
namespace Go.Proofs.YtlaodgbkpmdhoaaGreatDoor
open Go Go.Ab
set_option maxHeartbeats 4000000 in
theorem slices_ContainsFunc_Value_con {D : Prop} (s1 : List Value) (f2 : Value → Option (Bool)) (f2_k : FuncId) (f2_cs : List PV) (f2_h : ∀ (y3 : Value) (r4 : Bool), f2 y3 = some r4 → Con D Tryz.prog f2_k ((encValue y3) :: f2_cs) (.bool r4)) (r5 : Bool) (h : slices_ContainsFunc_Value s1 f2 = some r5) : Con D Tryz.prog 173 [(.slc (List.map encValue s1)), .func (.func f2_k) f2_cs] (.bool r5) := by
 refine zP Tryz.call173 Tryz.func173 rfl Tryz.ntmps173 fun X w hT => ?_
 simp only [slices_ContainsFunc_Value] at h
 refine zs (zr ?_)
 refine zU (zl (zn (zs (zr ?_))))
 refine zU ?_
 obtain ⟨r6, h7, h⟩ := zB h
 refine zc (slices_IndexFunc_Value_con s1 f2 f2_k f2_cs f2_h _ h7) ?_
 refine zU (zl (zn (zq ?_)))
 cases h
 exact zT Tryz.results173
end Go.Proofs.YtlaodgbkpmdhoaaGreatDoor
set_option linter.unusedVariables false
set_option linter.unusedSimpArgs false
namespace Go.Proofs.YtlaodgbkpmdhoaaGreatDoor
open Go Go.Ab
set_option maxHeartbeats 4000000 in
theorem table_validValues_1_con {D : Prop} (v1 : Value) (r2 : Bool) (h : table_validValues_1 v1 = some r2) : Con D Tryz.prog 174 [(encValue v1)] (.bool r2) := by
 refine zP Tryz.call174 Tryz.func174 rfl Tryz.ntmps174 fun X w hT => ?_
 simp only [table_validValues_1] at h
 refine zs (zr ?_)
 refine zU (zl (zn (zs (zr ?_))))
 refine zU ?_
 obtain ⟨r3, h4, h⟩ := zB h
 refine zc (value_Valid_con v1 _ h4) ?_
 refine zU (zl (zn (zq ?_)))
 cases h
 exact zT Tryz.results174
end Go.Proofs.YtlaodgbkpmdhoaaGreatDoor
set_option linter.unusedVariables false
set_option linter.unusedSimpArgs false
namespace Go.Proofs.YtlaodgbkpmdhoaaGreatDoor
open Go Go.Ab
set_option maxHeartbeats 4000000 in
theorem table_validValues_con {D : Prop} (l1 : List Value) (r2 : Bool) (h : table_validValues l1 = some r2) : Con D Tryz.prog 144 [(.slc (List.map encValue l1))] (.bool r2) := by
 refine zP Tryz.call144 Tryz.func144 rfl Tryz.ntmps144 fun X w hT => ?_
 simp only [table_validValues] at h
 refine zs (zr ?_)
 refine zU (zl (zn (zs (zr ?_))))
 refine zU ?_
 obtain ⟨r3, h4, h⟩ := zB h
 refine zc (slices_ContainsFunc_Value_con l1 (fun (y5 : Value) => table_validValues_1 y5) 174 [] (fun y5 r h => table_validValues_1_con y5 r h) _ h4) ?_
 refine zU (zl (zn (zq ?_)))
 cases h
 exact zT Tryz.results144
end Go.Proofs.YtlaodgbkpmdhoaaGreatDoor
set_option linter.unusedVariables false
set_option linter.unusedSimpArgs false
namespace Go.Proofs.YtlaodgbkpmdhoaaGreatDoor
open Go Go.Ab
set_option maxHeartbeats 4000000 in
theorem table_Valid_con {D : Prop} (t1 : Table) (r2 : Int) (h : table_Valid t1 = some r2) : Con D Tryz.prog 122 [(encTable t1)] (.int .i64 r2) := by
 refine zP Tryz.call122 Tryz.func122 rfl Tryz.ntmps122 fun X w hT => ?_
 simp only [table_Valid] at h
 refine zs (zr ?_)
 refine zU (zl (zn (zs (zs (zr ?_)))))
 refine zU ?_
 obtain ⟨r3, h4, h⟩ := zB h
 refine zc (table_isName_con t1.Name _ h4) ?_
 refine zU (zl (zn ?_))
 rcases zI h with ⟨h5, h⟩ | ⟨h5, h⟩
 refine zj (zk (zn (zs (zs (zr ?_)))))
 refine zU ?_
 rcases zI h with ⟨h6, h⟩ | ⟨h6, h⟩
 refine zw 16 true ?_
 refine zh ?_
 refine zU (zl (zn ?_))
 refine zi (zs (zr ?_))
 refine zU (zl (zn (zq (zt ?_))))
 cases h
 exact zT Tryz.results122
 refine zw 16 false ?_
 refine zg ?_
 refine zg ?_
 refine zg ?_
 refine zg ?_
 refine zU (zl (zn ?_))
 rcases zI h with ⟨h7, h⟩ | ⟨h7, h⟩
 refine zi (zs (zr ?_))
 refine zU (zl (zn (zq (zt ?_))))
 cases h
 exact zT Tryz.results122
 refine zj (zk (zn (zs (zs (zr ?_)))))
 refine zU (zl (zn (zb ?_)))
 obtain ⟨o8, h9, h⟩ := zB h
 refine zO (fun (s : Int) => ⟨[(1, .loc 1 1 0 0), (23, .p (.slc (List.map PV.str t1.Attrs))), (24, .p (.int .i64 (t1.Attrs.length : Int))), (25, .p (.int .i64 s))], [(1, .arr 41 3 1 [.p (encTable t1)])]⟩) (fun (o : (Unit) ⊕ (Int)) => match o with | .inl o10 => tE (cX Tryz.f122 X w D hT) (.exit 0) ⟨[(1, .loc 1 1 0 0)], [(1, .arr 41 3 1 [.p (encTable t1)])]⟩ | .inr o11 => tR Tryz.prog Tryz.f122 (.int .i64 o11)) h9 ?_ ?_
 clear h h4 h5 h6 h7 h9
 intro t12 x h
 simp only [table_Valid_l1] at h
 refine zs (zr ?_)
 refine zU (zl (zn (zs ?_)))
 rcases zI h with ⟨h13, h⟩ | ⟨h13, h⟩
 refine zi (zk (zn (zs (zb (zs (zr ?_))))))
 obtain ⟨x14, h15, h15a, h15b, h⟩ := zX h
 refine zU (zl (zn (zs (zr ?_))))
 refine zU ?_
 obtain ⟨r16, h17, h⟩ := zB h
 refine zc (table_isName_con x14 _ h17) ?_
 refine zU ?_
 rcases zI h with ⟨h18, h⟩ | ⟨h18, h⟩
 refine zw 33 false ?_
 refine zg ?_
 refine zg ?_
 refine zg ?_
 obtain ⟨h19, h⟩ := ite_some h
 obtain ⟨h20, h⟩ := ite_some h
 refine zg ?_
 refine zg ?_
 obtain ⟨r21, h22, h⟩ := zB h
 refine zc (slices_Contains_string_con (t1.Attrs.take (t12.toNat)) x14 _ h22) ?_
 refine zU (zl (zn ?_))
 rcases zI h with ⟨h23, h⟩ | ⟨h23, h⟩
 refine zi (zs (zr ?_))
 refine zU (zl (zn (zq (yr (zt ?_)))))
 cases h
 exact ⟨rfl, zT Tryz.results122⟩
 refine zj (zk (yn (zn (zr ?_))))
 refine zU (zl ?_)
 cases h
 exact ⟨rfl, zE⟩
 refine zw 33 true ?_
 refine zh ?_
 refine zU (zl (zn ?_))
 refine zi (zs (zr ?_))
 refine zU (zl (zn (zq (yr (zt ?_)))))
 cases h
 exact ⟨rfl, zT Tryz.results122⟩
 refine zj (zx (ze ?_))
 cases h
 exact ⟨rfl, zE⟩
 rcases o8 with ⟨⟩ | r24
 try simp only at h
 refine zA (yh (zn (zs (zr ?_))))
 refine zU (zl (zn (zs (zs (zr ?_)))))
 refine zU (zl (zn (zb ?_)))
 obtain ⟨o25, h26, h⟩ := zB h
 refine zO (fun (s : Int × Int) => ⟨[(1, .loc 1 1 0 0), (5, .p (.int .i64 s.1)), (43, .p (.slc (List.map encRow t1.Rows))), (44, .p (.int .i64 (t1.Rows.length : Int))), (45, .p (.int .i64 s.2))], [(1, .arr 41 3 1 [.p (encTable t1)])]⟩) (fun (o : (Unit) ⊕ (Int)) => match o with | .inl o27 => tE (cX Tryz.f122 X w D hT) (.exit 2) ⟨[], []⟩ | .inr o28 => tR Tryz.prog Tryz.f122 (.int .i64 o28)) h26 ?_ ?_
 clear h h4 h5 h6 h7 h9 h26
 intro s x h
 obtain ⟨l29, t30⟩ := s
 simp only [table_Valid_l2] at h
 dsimp only
 refine zs (zr ?_)
 refine zU (zl (zn (zs ?_)))
 rcases zI h with ⟨h31, h⟩ | ⟨h31, h⟩
 refine zi (zk (zn (zs (zb (zs (zr ?_))))))
 obtain ⟨x32, h33, h33a, h33b, h⟩ := zX h
 refine zU (zl (zn (zs (zb (zs (zr ?_))))))
 refine zU (zl (zn ?_))
 rcases zI h with ⟨h34, h⟩ | ⟨h34, h⟩
 refine zi (zs (zr ?_))
 refine zU (zl (zn (zq (yr (zt (yr (zt ?_)))))))
 cases h
 exact ⟨rfl, zT Tryz.results122⟩
 refine zj (zs (zr ?_))
 refine zU (zl (zn ?_))
 rcases zI h with ⟨h35, h⟩ | ⟨h35, h⟩
 refine zi (zs (zr ?_))
 refine zU (zl (zn (zq (yr (zt (yr (zt ?_)))))))
 cases h
 exact ⟨rfl, zT Tryz.results122⟩
 refine zj (zs (zr ?_))
 refine zU ?_
 obtain ⟨r36, h37, h⟩ := zB h
 refine zc (table_validValues_con x32.Values _ h37) ?_
 refine zU (zl (zn ?_))
 rcases zI h with ⟨h38, h⟩ | ⟨h38, h⟩
 refine zj (zk (yn (zn (zr ?_))))
 refine zU (zl (yn (zn (zr ?_))))
 refine zU (zl ?_)
 cases h
 exact ⟨rfl, zE⟩
 refine zi (zs (zr ?_))
 refine zU (zl (zn (zq (yr (zt (yr (zt ?_)))))))
 cases h
 exact ⟨rfl, zT Tryz.results122⟩
 refine zj (zx (ze ?_))
 cases h
 exact ⟨rfl, zE⟩
 rcases o25 with ⟨⟩ | r39
 try simp only at h
 refine zA (yh (zn (zs (zr ?_))))
 refine zU (zl (zn (zq ?_)))
 cases h
 exact zT Tryz.results122
 try simp only at h
 refine zZ fun s hq => ?_
 refine yr (zt ?_)
 cases h
 exact hq
 try simp only at h
 refine zZ fun s hq => ?_
 refine yr (zt ?_)
 cases h
 exact hq
 refine zi (zs (zr ?_))
 refine zU (zl (zn (zq (zt ?_))))
 cases h
 exact zT Tryz.results122
end Go.Proofs.YtlaodgbkpmdhoaaGreatDoor
set_option linter.unusedVariables false
set_option linter.unusedSimpArgs false
namespace Go.Proofs.YtlaodgbkpmdhoaaGreatDoor
open Go Go.Ab
set_option maxHeartbeats 4000000 in
theorem denial_checked_con {D : Prop} (t1 : Table) (d2 : Denial) (r3 : Int) (h : denial_checked t1 d2 = some r3) : Con D Tryz.prog 81 [(encTable t1), (encDenial d2)] (.int .i64 r3) := by
 refine zP Tryz.call81 Tryz.func81 rfl Tryz.ntmps81 fun X w hT => ?_
 simp only [denial_checked] at h
 refine zs (zr ?_)
 refine zU (zl (zn (zs (zs (zr ?_)))))
 refine zU ?_
 obtain ⟨r4, h5, h⟩ := zB h
 refine zc (table_Valid_con t1 _ h5) ?_
 refine zU (zl (zn (zs (zr ?_))))
 refine zU (zl (zn ?_))
 rcases zI h with ⟨h6, h⟩ | ⟨h6, h⟩
 refine zi (zs (zr ?_))
 refine zU (zl (zn (zq (zt ?_))))
 cases h
 exact zT Tryz.results81
 refine zj (zk (zn (zs (zb (zs (zr ?_))))))
 refine zU ?_
 obtain ⟨r7, h8, h⟩ := zB h
 refine zc (denial_Valid_con (t1.Attrs.length : Int) d2 _ h8) ?_
 refine zU (zl (zn ?_))
 rcases zI h with ⟨h9, h⟩ | ⟨h9, h⟩
 refine zj (zs (zr ?_))
 refine zU ?_
 rcases zI h with ⟨h10, h⟩ | ⟨h10, h⟩
 refine zw 22 true ?_
 refine zg ?_
 refine zg ?_
 refine zg ?_
 refine zg ?_
 refine zU (zl (zn ?_))
 rcases zI h with ⟨h11, h⟩ | ⟨h11, h⟩
 refine zi (zs (zr ?_))
 refine zU (zl (zn (zq (yr (zt ?_)))))
 cases h
 exact zT Tryz.results81
 refine zj (zk (yn (zn (zs (zr ?_)))))
 refine zU (zl (zn (zq ?_)))
 cases h
 exact zT Tryz.results81
 refine zw 22 false ?_
 refine zh ?_
 refine zU (zl (zn ?_))
 refine zj (zk (yn (zn (zs (zr ?_)))))
 refine zU (zl (zn (zq ?_)))
 cases h
 exact zT Tryz.results81
 refine zi (zs (zr ?_))
 refine zU (zl (zn (zq (yr (zt ?_)))))
 cases h
 exact zT Tryz.results81
end Go.Proofs.YtlaodgbkpmdhoaaGreatDoor
set_option linter.unusedVariables false
set_option linter.unusedSimpArgs false
namespace Go.Proofs.YtlaodgbkpmdhoaaGreatDoor
open Go Go.Ab
set_option maxHeartbeats 4000000 in
theorem slices_Compare_int64_con {D : Prop} (s1 : List Int) (s2 : List Int) (r3 : Int) (h : slices_Compare_int64 s1 s2 = some r3) : Con D Tryz.prog 86 [(.slc (List.map (PV.int .i64) s1)), (.slc (List.map (PV.int .i64) s2))] (.int .i64 r3) := by
 refine zP Tryz.call86 Tryz.func86 rfl Tryz.ntmps86 fun X w hT => ?_
 simp only [slices_Compare_int64] at h
 refine zs (zr ?_)
 refine zU (zl (zn (zs (zs (zr ?_)))))
 refine zU (zl (zn (zb ?_)))
 obtain ⟨o4, h5, h⟩ := zB h
 refine zO (fun (s : Int) => ⟨[(0, .p (.slc (List.map (PV.int .i64) s1))), (1, .p (.slc (List.map (PV.int .i64) s2))), (9, .p (.slc (List.map (PV.int .i64) s1))), (10, .p (.int .i64 (s1.length : Int))), (11, .p (.int .i64 s))], []⟩) (fun (o : (Unit) ⊕ (Int)) => match o with | .inl o6 => tE (cX Tryz.f86 X w D hT) (.exit 0) ⟨[(0, .p (.slc (List.map (PV.int .i64) s1))), (1, .p (.slc (List.map (PV.int .i64) s2)))], []⟩ | .inr o7 => tR Tryz.prog Tryz.f86 (.int .i64 o7)) h5 ?_ ?_
 clear h h5
 intro t8 x h
 simp only [slices_Compare_int64_l1] at h
 refine zs (zr ?_)
 refine zU (zl (zn (zs ?_)))
 rcases zI h with ⟨h9, h⟩ | ⟨h9, h⟩
 refine zi (zk (zn (zs (zb (zs (zr ?_))))))
 obtain ⟨x10, h11, h11a, h11b, h⟩ := zX h
 refine zU (zl (zn (zs (zs (zr ?_)))))
 refine zU (zl (zn ?_))
 rcases zI h with ⟨h12, h⟩ | ⟨h12, h⟩
 refine zi (zs (zr ?_))
 refine zU (zl (zn (zq (zt (yr (zt ?_))))))
 cases h
 exact ⟨rfl, zT Tryz.results86⟩
 refine zj (zk (zn (zs (zr ?_))))
 obtain ⟨x13, h14, h14a, h14b, h⟩ := zX h
 refine zU (zl (zn (zs (zr ?_))))
 refine zU ?_
 obtain ⟨r15, h16, h⟩ := zB h
 refine zc (cmp_Compare_int64_con x10 x13 _ h16) ?_
 refine zU (zl (zn (zs (zr ?_))))
 refine zU (zl (zn ?_))
 rcases zI h with ⟨h17, h⟩ | ⟨h17, h⟩
 refine zi (zs (zr ?_))
 refine zU (zl (zn (zq (yr (zt ?_)))))
 cases h
 exact ⟨rfl, zT Tryz.results86⟩
 refine zj (zk (yn (zn (zr ?_))))
 refine zU (zl ?_)
 cases h
 exact ⟨rfl, zE⟩
 refine zj (zx (ze ?_))
 cases h
 exact ⟨rfl, zE⟩
 rcases o4 with ⟨⟩ | r18
 try simp only at h
 refine zA (yh (zn (zs (zs (zr ?_)))))
 refine zU (zl (zn ?_))
 rcases zI h with ⟨h19, h⟩ | ⟨h19, h⟩
 refine zi (zs (zr ?_))
 refine zU (zl (zn (zq (zt ?_))))
 cases h
 exact zT Tryz.results86
 refine zj (zk (zn (zs (zr ?_))))
 refine zU (zl (zn (zq ?_)))
 cases h
 exact zT Tryz.results86
 try simp only at h
 refine zZ fun s hq => ?_
 refine yr (zt ?_)
 cases h
 exact hq
end Go.Proofs.YtlaodgbkpmdhoaaGreatDoor
set_option linter.unusedVariables false
set_option linter.unusedSimpArgs false
namespace Go.Proofs.YtlaodgbkpmdhoaaGreatDoor
open Go Go.Ab
set_option maxRecDepth 20000 in
set_option maxHeartbeats 4000000 in
theorem denial_get_con {D : Prop} (r1 : List Row) (t2 : Term) (r3 : Value) (h : denial_get r1 t2 = some r3) : Con D Tryz.prog 145 [(.slc (List.map encRow r1)), (encTerm t2)] (encValue r3) := by
 refine zP Tryz.call145 Tryz.func145 rfl Tryz.ntmps145 fun X w hT => ?_
 simp only [denial_get] at h
 refine zs (zr ?_)
 refine zU (zl (zn (zs (zs (zr ?_)))))
 refine zU (zl (zn ?_))
 rcases zI h with ⟨h4, h⟩ | ⟨h4, h⟩
 refine zi (zs (zr ?_))
 refine zU (zl (zn (zq (zt ?_))))
 cases h
 exact zT Tryz.results145
 refine zj (zk (zn (zs (zd ?_))))
 obtain ⟨x5, h6, h6a, h6b, h⟩ := zX h
 obtain ⟨x7, h8, h8a, h8b, h⟩ := zX h
 refine yU ?_
 refine yd (zn (zq ?_))
 cases h
 exact zT Tryz.results145
end Go.Proofs.YtlaodgbkpmdhoaaGreatDoor
set_option linter.unusedVariables false
set_option linter.unusedSimpArgs false
namespace Go.Proofs.YtlaodgbkpmdhoaaGreatDoor
open Go Go.Ab
set_option maxRecDepth 20000 in
set_option maxHeartbeats 4000000 in
theorem denial_satisfied_con {D : Prop} (r1 : List Row) (l2 : List Atom) (r3 : Bool) (h : denial_satisfied r1 l2 = some r3) : Con D Tryz.prog 123 [(.slc (List.map encRow r1)), (.slc (List.map encAtom l2))] (.bool r3) := by
 refine zP Tryz.call123 Tryz.func123 rfl Tryz.ntmps123 fun X w hT => ?_
 simp only [denial_satisfied] at h
 refine zs (zr ?_)
 refine zU (zl (zn (zs (zs (zr ?_)))))
 refine zU (zl (zn (zb ?_)))
 obtain ⟨o4, h5, h⟩ := zB h
 refine zO (fun (s : Int) => ⟨[(0, .p (.slc (List.map encRow r1))), (9, .p (.slc (List.map encAtom l2))), (10, .p (.int .i64 (l2.length : Int))), (11, .p (.int .i64 s))], []⟩) (fun (o : (Unit) ⊕ (Bool)) => match o with | .inl o6 => tE (cX Tryz.f123 X w D hT) (.exit 0) ⟨[], []⟩ | .inr o7 => tR Tryz.prog Tryz.f123 (.bool o7)) h5 ?_ ?_
 clear h h5
 intro t8 x h
 simp only [denial_satisfied_l1] at h
 refine zs (zr ?_)
 refine zU (zl (zn (zs ?_)))
 rcases zI h with ⟨h9, h⟩ | ⟨h9, h⟩
 refine zi (zk (zn (zs (zb (zs (zr ?_))))))
 obtain ⟨x10, h11, h11a, h11b, h⟩ := zX h
 refine zU (zl (zn (zs (zd ?_))))
 refine yU ?_
 obtain ⟨r12, h13, h⟩ := zB h
 refine yc (denial_get_con r1 x10.Left _ h13) ?_
 refine yU ?_
 obtain ⟨r14, h15, h⟩ := zB h
 refine yc (denial_get_con r1 x10.Right _ h15) ?_
 obtain ⟨r16, h17, h⟩ := zB h
 refine yc (value_Compare_con r12 r14 _ h17) ?_
 refine yU ?_
 refine yd (zn (zs (zr ?_)))
 refine zU (zl (zn (zs (zs (zr ?_)))))
 refine zU (zl (zn (zb (zs (zr ?_)))))
 refine zU (zl (zn ?_))
 rcases zI h with ⟨h18, h⟩ | ⟨h18, h⟩
 refine zi (zr ?_)
 refine zU (zl (yn (zn (zs (zr ?_)))))
 refine zU (zl (zn ?_))
 rcases zI h with ⟨h19, h⟩ | ⟨h19, h⟩
 refine zj (zk (yn (zn (zr ?_))))
 refine zU (zl ?_)
 cases h
 exact ⟨rfl, zE⟩
 refine zi (zs (zr ?_))
 refine zU (zl (zn (zq (yr (zt ?_)))))
 cases h
 exact ⟨rfl, zT Tryz.results123⟩
 refine zj (zs (zr ?_))
 refine zU (zl (zn ?_))
 rcases zI h with ⟨h20, h⟩ | ⟨h20, h⟩
 refine zi (zr ?_)
 refine zU (zl (yn (zn (zs (zr ?_)))))
 refine zU (zl (zn ?_))
 rcases zI h with ⟨h21, h⟩ | ⟨h21, h⟩
 refine zj (zk (yn (zn (zr ?_))))
 refine zU (zl ?_)
 cases h
 exact ⟨rfl, zE⟩
 refine zi (zs (zr ?_))
 refine zU (zl (zn (zq (yr (zt ?_)))))
 cases h
 exact ⟨rfl, zT Tryz.results123⟩
 refine zj (zs (zr ?_))
 refine zU (zl (zn ?_))
 rcases zI h with ⟨h22, h⟩ | ⟨h22, h⟩
 refine zi (zr ?_)
 refine zU (zl (yn (zn (zs (zr ?_)))))
 refine zU (zl (zn ?_))
 rcases zI h with ⟨h23, h⟩ | ⟨h23, h⟩
 refine zj (zk (yn (zn (zr ?_))))
 refine zU (zl ?_)
 cases h
 exact ⟨rfl, zE⟩
 refine zi (zs (zr ?_))
 refine zU (zl (zn (zq (yr (zt ?_)))))
 cases h
 exact ⟨rfl, zT Tryz.results123⟩
 refine zj (zs (zr ?_))
 refine zU (zl (zn ?_))
 rcases zI h with ⟨h24, h⟩ | ⟨h24, h⟩
 refine zi (zr ?_)
 refine zU (zl (yn (zn (zs (zr ?_)))))
 refine zU (zl (zn ?_))
 rcases zI h with ⟨h25, h⟩ | ⟨h25, h⟩
 refine zj (zk (yn (zn (zr ?_))))
 refine zU (zl ?_)
 cases h
 exact ⟨rfl, zE⟩
 refine zi (zs (zr ?_))
 refine zU (zl (zn (zq (yr (zt ?_)))))
 cases h
 exact ⟨rfl, zT Tryz.results123⟩
 refine zj (zk (yn (zn (zs (zr ?_)))))
 refine zU (zl (zn ?_))
 refine zi (zs (zr ?_))
 refine zU (zl (zn (zq (yr (zt ?_)))))
 cases h
 exact ⟨rfl, zT Tryz.results123⟩
 refine zj (zx (ze ?_))
 cases h
 exact ⟨rfl, zE⟩
 rcases o4 with ⟨⟩ | r26
 try simp only at h
 refine zA (yh (zn (zs (zr ?_))))
 refine zU (zl (zn (zq ?_)))
 cases h
 exact zT Tryz.results123
 try simp only at h
 refine zZ fun s hq => ?_
 refine yr (zt ?_)
 cases h
 exact hq
end Go.Proofs.YtlaodgbkpmdhoaaGreatDoor
set_option linter.unusedVariables false
set_option linter.unusedSimpArgs false
namespace Go.Proofs.YtlaodgbkpmdhoaaGreatDoor
open Go Go.Ab
set_option maxHeartbeats 4000000 in
theorem slices_IndexFunc_Row_con {D : Prop} (s1 : List Row) (f2 : Row → Option (Bool)) (f2_k : FuncId) (f2_cs : List PV) (f2_h : ∀ (y3 : Row) (r4 : Bool), f2 y3 = some r4 → Con D Tryz.prog f2_k ((encRow y3) :: f2_cs) (.bool r4)) (r5 : Int) (h : slices_IndexFunc_Row s1 f2 = some r5) : Con D Tryz.prog 146 [(.slc (List.map encRow s1)), .func (.func f2_k) f2_cs] (.int .i64 r5) := by
 refine zP Tryz.call146 Tryz.func146 rfl Tryz.ntmps146 fun X w hT => ?_
 simp only [slices_IndexFunc_Row] at h
 refine zs (zr ?_)
 refine zU (zl (zn (zs (zs (zr ?_)))))
 refine zU (zl (zn (zb ?_)))
 obtain ⟨o6, h7, h⟩ := zB h
 refine zO (fun (s : Int) => ⟨[(0, .p (.slc (List.map encRow s1))), (1, .p (.func (.func f2_k) f2_cs)), (7, .p (.int .i64 (s1.length : Int))), (8, .p (.int .i64 s))], []⟩) (fun (o : (Unit) ⊕ (Int)) => match o with | .inl o8 => tE (cX Tryz.f146 X w D hT) (.exit 0) ⟨[], []⟩ | .inr o9 => tR Tryz.prog Tryz.f146 (.int .i64 o9)) h7 ?_ ?_
 clear h h7
 intro t10 x h
 simp only [slices_IndexFunc_Row_l1] at h
 refine zs (zr ?_)
 refine zU (zl (zn (zs ?_)))
 rcases zI h with ⟨h11, h⟩ | ⟨h11, h⟩
 refine zi (zk (zn (zs (zb (zs (zr ?_))))))
 refine zU (zl (zn (zs (zr ?_))))
 obtain ⟨x12, h13, h13a, h13b, h⟩ := zX h
 refine zU ?_
 obtain ⟨r14, h15, h⟩ := zB h
 refine zc (f2_h x12 _ h15) ?_
 refine zl (zn ?_)
 rcases zI h with ⟨h16, h⟩ | ⟨h16, h⟩
 refine zi (zs (zr ?_))
 refine zU (zl (zn (zq (yr (zt ?_)))))
 cases h
 exact ⟨rfl, zT Tryz.results146⟩
 refine zj (zk (yn (zn (zr ?_))))
 refine zU (zl ?_)
 cases h
 exact ⟨rfl, zE⟩
 refine zj (zx (ze ?_))
 cases h
 exact ⟨rfl, zE⟩
 rcases o6 with ⟨⟩ | r17
 try simp only at h
 refine zA (yh (zn (zs (zr ?_))))
 refine zU (zl (zn (zq ?_)))
 cases h
 exact zT Tryz.results146
 try simp only at h
 refine zZ fun s hq => ?_
 refine yr (zt ?_)
 cases h
 exact hq
end Go.Proofs.YtlaodgbkpmdhoaaGreatDoor
set_option linter.unusedVariables false
set_option linter.unusedSimpArgs false
namespace Go.Proofs.YtlaodgbkpmdhoaaGreatDoor
open Go Go.Ab
set_option maxHeartbeats 4000000 in
theorem slices_ContainsFunc_Row_con {D : Prop} (s1 : List Row) (f2 : Row → Option (Bool)) (f2_k : FuncId) (f2_cs : List PV) (f2_h : ∀ (y3 : Row) (r4 : Bool), f2 y3 = some r4 → Con D Tryz.prog f2_k ((encRow y3) :: f2_cs) (.bool r4)) (r5 : Bool) (h : slices_ContainsFunc_Row s1 f2 = some r5) : Con D Tryz.prog 124 [(.slc (List.map encRow s1)), .func (.func f2_k) f2_cs] (.bool r5) := by
 refine zP Tryz.call124 Tryz.func124 rfl Tryz.ntmps124 fun X w hT => ?_
 simp only [slices_ContainsFunc_Row] at h
 refine zs (zr ?_)
 refine zU (zl (zn (zs (zr ?_))))
 refine zU ?_
 obtain ⟨r6, h7, h⟩ := zB h
 refine zc (slices_IndexFunc_Row_con s1 f2 f2_k f2_cs f2_h _ h7) ?_
 refine zU (zl (zn (zq ?_)))
 cases h
 exact zT Tryz.results124
end Go.Proofs.YtlaodgbkpmdhoaaGreatDoor
set_option linter.unusedVariables false
set_option linter.unusedSimpArgs false
namespace Go.Proofs.YtlaodgbkpmdhoaaGreatDoor
open Go Go.Ab
set_option maxHeartbeats 4000000 in
theorem denial_visit_1_con {D : Prop} (x1 : Row) (c2 : Row) (r3 : Bool) (h : denial_visit_1 x1 c2 = some r3) : Con D Tryz.prog 125 [(encRow x1), .imm [.int .i64 c2.ID, .slc (List.map encValue c2.Values)]] (.bool r3) := by
 refine zP Tryz.call125 Tryz.func125 rfl Tryz.ntmps125 fun X w hT => ?_
 simp only [denial_visit_1] at h
 refine zs (zr ?_)
 refine zU (zl (zn (zs (zr ?_))))
 refine zU (zl (zn (zq ?_)))
 cases h
 exact zT Tryz.results125
end Go.Proofs.YtlaodgbkpmdhoaaGreatDoor
