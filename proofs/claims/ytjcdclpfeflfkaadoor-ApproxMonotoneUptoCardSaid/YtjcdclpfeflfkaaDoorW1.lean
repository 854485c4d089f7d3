/- Each function of the program computes what its Lean function says, where that has a value. -/
import Derived.Shelf.SortM.Plain
import Derived.Shelf.SortM.SortNone
import Derived.Ground.SlgmProg
import Derived.Shelf.Strings.Builder1
import Derived.Ground.NamesProg
import Derived.Shelf.Small.Strs
import Derived.Shelf.Spec.BitsCarry
import Derived.Test.YtjcdclpfeflfkaaDoorT1
import Derived.Test.YtjcdclpfeflfkaaDoorL1
import Derived.Test.YtjcdclpfeflfkaaDoorA3
set_option linter.unusedVariables false
set_option linter.unusedSimpArgs false
namespace Go.Proofs.YtjcdclpfeflfkaaDoor
open Go Go.Ab
theorem mixed : Tryd.prog.follows .mixedOrders = true := by kernel_rfl
@[reducible] noncomputable def cX (f : Func) (X : Nat → Prop) (w : World) (D : Prop) (hT : TabOk Tryd.prog (fun b => X b ∨ F (fun _ => none) (hget []) b) w) : Cx := ⟨Tryd.prog, f.ntmps, 0, X, [], fun _ => none, w, D, hT⟩
theorem zd {N B : Nat} {X : Nat → Prop} {H0 : List (Nat × AO)} {inj0 : Inj} {w0 : World} {D : Prop} {tb : TabOk Tryd.prog (fun b => X b ∨ F inj0 (hget H0) b) w0} {Q : Exit → St → Prop} {st : St} {id : Nat} {l : List Oper} (h : DGo ⟨Tryd.prog, N, B, X, H0, inj0, w0, D, tb⟩ l.toArray l st [] (DK ⟨Tryd.prog, N, B, X, H0, inj0, w0, D, tb⟩ l.toArray Q)) (hs : slotsOk l.toArray = true := by kernel_rfl) : AWp ⟨Tryd.prog, N, B, X, H0, inj0, w0, D, tb⟩ (.region id l.toArray true) Q st := awp_drawn_walk mixed hs h
theorem zdl (n : Nat) {N B : Nat} {X : Nat → Prop} {H0 : List (Nat × AO)} {inj0 : Inj} {w0 : World} {D : Prop} {tb : TabOk Tryd.prog (fun b => X b ∨ F inj0 (hget H0) b) w0} {Q : Exit → St → Prop} {st : St} {id : Nat} {l : List Oper} (h : DGo ⟨Tryd.prog, N, B, X, H0, inj0, w0, D, tb⟩ l.toArray (l.take n) st [] (DKL ⟨Tryd.prog, N, B, X, H0, inj0, w0, D, tb⟩ l.toArray (l.drop n) Q)) (hs : slotsOk l.toArray = true := by kernel_rfl) (hl : lastOk l.toArray n = true := by kernel_rfl) : AWp ⟨Tryd.prog, N, B, X, H0, inj0, w0, D, tb⟩ (.region id l.toArray true) Q st := awp_drawn_last n mixed hs hl h
def encValue (x : Value) : PV := .agg [.int .i64 x.Kind, .int .i64 x.Num, .str x.Str]
@[go_sem] theorem encValue_fold (x : Value) : PV.agg [.int .i64 x.Kind, .int .i64 x.Num, .str x.Str] = encValue x := rfl
@[go_sem] theorem encValue_cells (x : Value) : (encValue x).cells = [.int .i64 x.Kind, .int .i64 x.Num, .str x.Str] := rfl
@[go_sem] theorem encValue_isAgg (x : Value) : (encValue x).isAgg = true := rfl
@[go_sem] theorem encValue_isTup (x : Value) : (encValue x).isTup = false := rfl
@[go_sem] theorem encValue_sl (l : List Value) : ((l.map encValue).all fun y => y.cells.length == 3) = true := by simp [encValue, PV.cells]
@[go_sem] theorem encValue_ok (l : List Value) : ((l.map encValue).map AV.p).all (elemOk 3) = true := elemOkAll_map _ _ _ fun _ => ⟨rfl, rfl⟩
@[go_sem] theorem encValue_flat (x : Value) : (encValue x).flat = true := rfl
def encDrossref03_Recipe (x : Drossref03_Recipe) : PV := .agg [.int .u8 x.Attrs, .int .u8 x.Gap, .slc (List.map (encL (PV.int .u8)) x.Rows)]
@[go_sem] theorem encDrossref03_Recipe_fold (x : Drossref03_Recipe) : PV.agg [.int .u8 x.Attrs, .int .u8 x.Gap, .slc (List.map (encL (PV.int .u8)) x.Rows)] = encDrossref03_Recipe x := rfl
@[go_sem] theorem encDrossref03_Recipe_cells (x : Drossref03_Recipe) : (encDrossref03_Recipe x).cells = [.int .u8 x.Attrs, .int .u8 x.Gap, .slc (List.map (encL (PV.int .u8)) x.Rows)] := rfl
@[go_sem] theorem encDrossref03_Recipe_isAgg (x : Drossref03_Recipe) : (encDrossref03_Recipe x).isAgg = true := rfl
@[go_sem] theorem encDrossref03_Recipe_isTup (x : Drossref03_Recipe) : (encDrossref03_Recipe x).isTup = false := rfl
@[go_sem] theorem encDrossref03_Recipe_sl (l : List Drossref03_Recipe) : ((l.map encDrossref03_Recipe).all fun y => y.cells.length == 3) = true := by simp [encDrossref03_Recipe, PV.cells]
@[go_sem] theorem encDrossref03_Recipe_ok (l : List Drossref03_Recipe) : ((l.map encDrossref03_Recipe).map AV.p).all (elemOk 3) = true := elemOkAll_map _ _ _ fun _ => ⟨rfl, rfl⟩
def encRow (x : Row) : PV := .agg [.int .i64 x.ID, .slc (List.map encValue x.Values)]
@[go_sem] theorem encRow_fold (x : Row) : PV.agg [.int .i64 x.ID, .slc (List.map encValue x.Values)] = encRow x := rfl
@[go_sem] theorem encRow_cells (x : Row) : (encRow x).cells = [.int .i64 x.ID, .slc (List.map encValue x.Values)] := rfl
@[go_sem] theorem encRow_isAgg (x : Row) : (encRow x).isAgg = true := rfl
@[go_sem] theorem encRow_isTup (x : Row) : (encRow x).isTup = false := rfl
@[go_sem] theorem encRow_sl (l : List Row) : ((l.map encRow).all fun y => y.cells.length == 2) = true := by simp [encRow, PV.cells]
@[go_sem] theorem encRow_ok (l : List Row) : ((l.map encRow).map AV.p).all (elemOk 2) = true := elemOkAll_map _ _ _ fun _ => ⟨rfl, rfl⟩
def encTable (x : Table) : PV := .agg [.str x.Name, .slc (List.map PV.str x.Attrs), .slc (List.map encRow x.Rows)]
@[go_sem] theorem encTable_fold (x : Table) : PV.agg [.str x.Name, .slc (List.map PV.str x.Attrs), .slc (List.map encRow x.Rows)] = encTable x := rfl
@[go_sem] theorem encTable_cells (x : Table) : (encTable x).cells = [.str x.Name, .slc (List.map PV.str x.Attrs), .slc (List.map encRow x.Rows)] := rfl
@[go_sem] theorem encTable_isAgg (x : Table) : (encTable x).isAgg = true := rfl
@[go_sem] theorem encTable_isTup (x : Table) : (encTable x).isTup = false := rfl
@[go_sem] theorem encTable_sl (l : List Table) : ((l.map encTable).all fun y => y.cells.length == 3) = true := by simp [encTable, PV.cells]
@[go_sem] theorem encTable_ok (l : List Table) : ((l.map encTable).map AV.p).all (elemOk 3) = true := elemOkAll_map _ _ _ fun _ => ⟨rfl, rfl⟩
def encFD (x : FD) : PV := .agg [.int .u32 x.Lhs, .int .u32 x.Rhs]
@[go_sem] theorem encFD_fold (x : FD) : PV.agg [.int .u32 x.Lhs, .int .u32 x.Rhs] = encFD x := rfl
@[go_sem] theorem encFD_cells (x : FD) : (encFD x).cells = [.int .u32 x.Lhs, .int .u32 x.Rhs] := rfl
@[go_sem] theorem encFD_isAgg (x : FD) : (encFD x).isAgg = true := rfl
@[go_sem] theorem encFD_isTup (x : FD) : (encFD x).isTup = false := rfl
@[go_sem] theorem encFD_sl (l : List FD) : ((l.map encFD).all fun y => y.cells.length == 2) = true := by simp [encFD, PV.cells]
@[go_sem] theorem encFD_ok (l : List FD) : ((l.map encFD).map AV.p).all (elemOk 2) = true := elemOkAll_map _ _ _ fun _ => ⟨rfl, rfl⟩
@[go_sem] theorem encFD_flat (x : FD) : (encFD x).flat = true := rfl
def encPartition (x : Partition) : PV := .agg [.int .i64 x.Rows, .slc (List.map (encL (PV.int .i64)) x.Classes)]
@[go_sem] theorem encPartition_fold (x : Partition) : PV.agg [.int .i64 x.Rows, .slc (List.map (encL (PV.int .i64)) x.Classes)] = encPartition x := rfl
@[go_sem] theorem encPartition_cells (x : Partition) : (encPartition x).cells = [.int .i64 x.Rows, .slc (List.map (encL (PV.int .i64)) x.Classes)] := rfl
@[go_sem] theorem encPartition_isAgg (x : Partition) : (encPartition x).isAgg = true := rfl
@[go_sem] theorem encPartition_isTup (x : Partition) : (encPartition x).isTup = false := rfl
@[go_sem] theorem encPartition_sl (l : List Partition) : ((l.map encPartition).all fun y => y.cells.length == 2) = true := by simp [encPartition, PV.cells]
@[go_sem] theorem encPartition_ok (l : List Partition) : ((l.map encPartition).map AV.p).all (elemOk 2) = true := elemOkAll_map _ _ _ fun _ => ⟨rfl, rfl⟩
def encRatio (x : Ratio) : PV := .agg [.int .i64 x.Num, .int .i64 x.Den]
@[go_sem] theorem encRatio_fold (x : Ratio) : PV.agg [.int .i64 x.Num, .int .i64 x.Den] = encRatio x := rfl
@[go_sem] theorem encRatio_cells (x : Ratio) : (encRatio x).cells = [.int .i64 x.Num, .int .i64 x.Den] := rfl
@[go_sem] theorem encRatio_isAgg (x : Ratio) : (encRatio x).isAgg = true := rfl
@[go_sem] theorem encRatio_isTup (x : Ratio) : (encRatio x).isTup = false := rfl
@[go_sem] theorem encRatio_sl (l : List Ratio) : ((l.map encRatio).all fun y => y.cells.length == 2) = true := by simp [encRatio, PV.cells]
@[go_sem] theorem encRatio_ok (l : List Ratio) : ((l.map encRatio).map AV.p).all (elemOk 2) = true := elemOkAll_map _ _ _ fun _ => ⟨rfl, rfl⟩
@[go_sem] theorem encRatio_flat (x : Ratio) : (encRatio x).flat = true := rfl
def encDrossref04_Wide (x : Drossref04_Wide) : PV := .agg [.int .u64 x.Hi, .int .u64 x.Lo]
@[go_sem] theorem encDrossref04_Wide_fold (x : Drossref04_Wide) : PV.agg [.int .u64 x.Hi, .int .u64 x.Lo] = encDrossref04_Wide x := rfl
@[go_sem] theorem encDrossref04_Wide_cells (x : Drossref04_Wide) : (encDrossref04_Wide x).cells = [.int .u64 x.Hi, .int .u64 x.Lo] := rfl
@[go_sem] theorem encDrossref04_Wide_isAgg (x : Drossref04_Wide) : (encDrossref04_Wide x).isAgg = true := rfl
@[go_sem] theorem encDrossref04_Wide_isTup (x : Drossref04_Wide) : (encDrossref04_Wide x).isTup = false := rfl
@[go_sem] theorem encDrossref04_Wide_sl (l : List Drossref04_Wide) : ((l.map encDrossref04_Wide).all fun y => y.cells.length == 2) = true := by simp [encDrossref04_Wide, PV.cells]
@[go_sem] theorem encDrossref04_Wide_ok (l : List Drossref04_Wide) : ((l.map encDrossref04_Wide).map AV.p).all (elemOk 2) = true := elemOkAll_map _ _ _ fun _ => ⟨rfl, rfl⟩
@[go_sem] theorem encDrossref04_Wide_flat (x : Drossref04_Wide) : (encDrossref04_Wide x).flat = true := rfl
def encArr4_uint8 (x : Arr4_uint8) : PV := .agg [.int .u8 x.x0, .int .u8 x.x1, .int .u8 x.x2, .int .u8 x.x3]
@[go_sem] theorem encArr4_uint8_fold (x : Arr4_uint8) : PV.agg [.int .u8 x.x0, .int .u8 x.x1, .int .u8 x.x2, .int .u8 x.x3] = encArr4_uint8 x := rfl
@[go_sem] theorem encArr4_uint8_cells (x : Arr4_uint8) : (encArr4_uint8 x).cells = [.int .u8 x.x0, .int .u8 x.x1, .int .u8 x.x2, .int .u8 x.x3] := rfl
@[go_sem] theorem encArr4_uint8_isAgg (x : Arr4_uint8) : (encArr4_uint8 x).isAgg = true := rfl
@[go_sem] theorem encArr4_uint8_isTup (x : Arr4_uint8) : (encArr4_uint8 x).isTup = false := rfl
@[go_sem] theorem encArr4_uint8_sl (l : List Arr4_uint8) : ((l.map encArr4_uint8).all fun y => y.cells.length == 4) = true := by simp [encArr4_uint8, PV.cells]
@[go_sem] theorem encArr4_uint8_ok (l : List Arr4_uint8) : ((l.map encArr4_uint8).map AV.p).all (elemOk 4) = true := elemOkAll_map _ _ _ fun _ => ⟨rfl, rfl⟩
@[go_sem] theorem encArr4_uint8_flat (x : Arr4_uint8) : (encArr4_uint8 x).flat = true := rfl
def encArr32_uint8 (x : Arr32_uint8) : PV := .agg [.int .u8 x.x0, .int .u8 x.x1, .int .u8 x.x2, .int .u8 x.x3, .int .u8 x.x4, .int .u8 x.x5, .int .u8 x.x6, .int .u8 x.x7, .int .u8 x.x8, .int .u8 x.x9, .int .u8 x.x10, .int .u8 x.x11, .int .u8 x.x12, .int .u8 x.x13, .int .u8 x.x14, .int .u8 x.x15, .int .u8 x.x16, .int .u8 x.x17, .int .u8 x.x18, .int .u8 x.x19, .int .u8 x.x20, .int .u8 x.x21, .int .u8 x.x22, .int .u8 x.x23, .int .u8 x.x24, .int .u8 x.x25, .int .u8 x.x26, .int .u8 x.x27, .int .u8 x.x28, .int .u8 x.x29, .int .u8 x.x30, .int .u8 x.x31]
@[go_sem] theorem encArr32_uint8_fold (x : Arr32_uint8) : PV.agg [.int .u8 x.x0, .int .u8 x.x1, .int .u8 x.x2, .int .u8 x.x3, .int .u8 x.x4, .int .u8 x.x5, .int .u8 x.x6, .int .u8 x.x7, .int .u8 x.x8, .int .u8 x.x9, .int .u8 x.x10, .int .u8 x.x11, .int .u8 x.x12, .int .u8 x.x13, .int .u8 x.x14, .int .u8 x.x15, .int .u8 x.x16, .int .u8 x.x17, .int .u8 x.x18, .int .u8 x.x19, .int .u8 x.x20, .int .u8 x.x21, .int .u8 x.x22, .int .u8 x.x23, .int .u8 x.x24, .int .u8 x.x25, .int .u8 x.x26, .int .u8 x.x27, .int .u8 x.x28, .int .u8 x.x29, .int .u8 x.x30, .int .u8 x.x31] = encArr32_uint8 x := rfl
@[go_sem] theorem encArr32_uint8_cells (x : Arr32_uint8) : (encArr32_uint8 x).cells = [.int .u8 x.x0, .int .u8 x.x1, .int .u8 x.x2, .int .u8 x.x3, .int .u8 x.x4, .int .u8 x.x5, .int .u8 x.x6, .int .u8 x.x7, .int .u8 x.x8, .int .u8 x.x9, .int .u8 x.x10, .int .u8 x.x11, .int .u8 x.x12, .int .u8 x.x13, .int .u8 x.x14, .int .u8 x.x15, .int .u8 x.x16, .int .u8 x.x17, .int .u8 x.x18, .int .u8 x.x19, .int .u8 x.x20, .int .u8 x.x21, .int .u8 x.x22, .int .u8 x.x23, .int .u8 x.x24, .int .u8 x.x25, .int .u8 x.x26, .int .u8 x.x27, .int .u8 x.x28, .int .u8 x.x29, .int .u8 x.x30, .int .u8 x.x31] := rfl
@[go_sem] theorem encArr32_uint8_isAgg (x : Arr32_uint8) : (encArr32_uint8 x).isAgg = true := rfl
@[go_sem] theorem encArr32_uint8_isTup (x : Arr32_uint8) : (encArr32_uint8 x).isTup = false := rfl
@[go_sem] theorem encArr32_uint8_sl (l : List Arr32_uint8) : ((l.map encArr32_uint8).all fun y => y.cells.length == 32) = true := by simp [encArr32_uint8, PV.cells]
@[go_sem] theorem encArr32_uint8_ok (l : List Arr32_uint8) : ((l.map encArr32_uint8).map AV.p).all (elemOk 32) = true := elemOkAll_map _ _ _ fun _ => ⟨rfl, rfl⟩
@[go_sem] theorem encArr32_uint8_flat (x : Arr32_uint8) : (encArr32_uint8 x).flat = true := rfl
end Go.Proofs.YtjcdclpfeflfkaaDoor
set_option linter.unusedVariables false
set_option linter.unusedSimpArgs false
namespace Go.Proofs.YtjcdclpfeflfkaaDoor
open Go Go.Ab
set_option maxHeartbeats 4000000 in
theorem drossref01_Of_con {D : Prop} (c1 : Int) (r2 : Value) (h : drossref01_Of c1 = some r2) : Con D Tryd.prog 37 [(.int .u8 c1)] (encValue r2) := by
 refine zP Tryd.call37 Tryd.func37 rfl Tryd.ntmps37 fun X w hT => ?_
 simp only [drossref01_Of] at h
 refine zs (zr ?_)
 refine zU (zl (zn (zs (zs (zr ?_)))))
 refine zU (zl (zn (zb (zs (zr ?_)))))
 refine zU (zl (zn ?_))
 rcases zI h with ⟨h3, h⟩ | ⟨h3, h⟩
 refine zi (zs (zr ?_))
 refine zU (zl (zn (zq (yr (zt ?_)))))
 cases h
 exact zT Tryd.results37
 refine zj (zs (zr ?_))
 refine zU (zl (zn ?_))
 rcases zI h with ⟨h4, h⟩ | ⟨h4, h⟩
 refine zi (zs (zr ?_))
 refine zU (zl (zn (zq (yr (zt ?_)))))
 cases h
 exact zT Tryd.results37
 refine zj (zs (zr ?_))
 refine zU (zl (zn ?_))
 rcases zI h with ⟨h5, h⟩ | ⟨h5, h⟩
 refine zi (zs (zr ?_))
 refine zU (zl (zn (zq (yr (zt ?_)))))
 cases h
 exact zT Tryd.results37
 refine zj (zs (zr ?_))
 refine zU (zl (zn ?_))
 rcases zI h with ⟨h6, h⟩ | ⟨h6, h⟩
 refine zi (zs (zr ?_))
 refine zU (zl (zn (zq (yr (zt ?_)))))
 cases h
 exact zT Tryd.results37
 refine zj (zs (zr ?_))
 refine zU (zl (zn ?_))
 rcases zI h with ⟨h7, h⟩ | ⟨h7, h⟩
 refine zi (zs (zr ?_))
 refine zU (zl (zn (zq (yr (zt ?_)))))
 cases h
 exact zT Tryd.results37
 refine zj (zs (zr ?_))
 refine zU (zl (zn ?_))
 rcases zI h with ⟨h8, h⟩ | ⟨h8, h⟩
 refine zi (zs (zr ?_))
 refine zU (zl (zn (zq (yr (zt ?_)))))
 cases h
 exact zT Tryd.results37
 refine zj (zs (zr ?_))
 refine zU (zl (zn ?_))
 rcases zI h with ⟨h9, h⟩ | ⟨h9, h⟩
 refine zi (zs (zr ?_))
 refine zU (zl (zn (zq (yr (zt ?_)))))
 cases h
 exact zT Tryd.results37
 refine zj (zs (zr ?_))
 refine zU (zl (zn ?_))
 rcases zI h with ⟨h10, h⟩ | ⟨h10, h⟩
 refine zi (zs (zr ?_))
 refine zU (zl (zn (zq (yr (zt ?_)))))
 cases h
 exact zT Tryd.results37
 refine zj (zs (zr ?_))
 refine zU (zl (zn ?_))
 rcases zI h with ⟨h11, h⟩ | ⟨h11, h⟩
 refine zi (zs (zr ?_))
 refine zU (zl (zn (zq (yr (zt ?_)))))
 cases h
 exact zT Tryd.results37
 refine zj (zs (zr ?_))
 refine zU (zl (zn ?_))
 rcases zI h with ⟨h12, h⟩ | ⟨h12, h⟩
 refine zi (zs (zr ?_))
 refine zU (zl (zn (zq (yr (zt ?_)))))
 cases h
 exact zT Tryd.results37
 refine zj (zs (zr ?_))
 refine zU (zl (zn ?_))
 rcases zI h with ⟨h13, h⟩ | ⟨h13, h⟩
 refine zi (zs (zr ?_))
 refine zU (zl (zn (zq (yr (zt ?_)))))
 cases h
 exact zT Tryd.results37
 refine zj (zk (yn (zn (zs (zr ?_)))))
 refine zU (zl (zn (zq ?_)))
 cases h
 exact zT Tryd.results37
end Go.Proofs.YtjcdclpfeflfkaaDoor
set_option linter.unusedVariables false
set_option linter.unusedSimpArgs false
namespace Go.Proofs.YtjcdclpfeflfkaaDoor
open Go Go.Ab
set_option maxHeartbeats 4000000 in
theorem drossref03_Wide_con {D : Prop} (x1 : Drossref03_Recipe) (n2 : Int) (r3 : Table) (h : drossref03_Wide x1 n2 = some r3) : Con D Tryd.prog 18 [(encDrossref03_Recipe x1), (.int .i64 n2)] (encTable r3) := by
 refine zP Tryd.call18 Tryd.func18 rfl Tryd.ntmps18 fun X w hT => ?_
 simp only [drossref03_Wide] at h
 refine zs (zr ?_)
 refine zU (zl (zn (zs (zr ?_))))
 obtain ⟨h4, h⟩ := ite_some h
 obtain ⟨h5, h⟩ := ite_some h
 refine zW 4 ?_
 obtain ⟨l6, h7, h⟩ := zB h
 replace h7 := Option.some.inj h7
 refine AL_le (st' := ⟨[(1, .p (.int .i64 n2)), (2, .loc 2 1 0 0), (4, .loc 4 1 0 0), (10, .own 10 1 0 0), (13, .own 11 1 0 n2.toNat)], [(2, .arr 24 3 1 [.p (encDrossref03_Recipe x1)]), (4, .arr 28 3 1 [.agg [.p (.str []), .nils, .nils]]), (10, .arr 9 1 1 []), (11, .arr 9 1 1 (List.map AV.p (List.map PV.str l6)))]⟩) (by simp only [go_sem, seval, ← h7]; all_goals ((repeat' refine And.intro ?_ ?_) <;> first | rfl | (simp; done) | (simp; rfl) | (simp [*]; done) | (simp [*]; rfl))) ?_
 have h7n : l6.length = 8 := by rw [← h7]; rfl
 clear h7
 obtain ⟨h8, h⟩ := ite_some h
 refine zU (zl (zn (zs (zs (zr ?_)))))
 refine zU (zl (zn (zb ?_)))
 obtain ⟨t9, h10, h⟩ := zB h
 refine zO (fun (s : List Row × Int) => ⟨[(1, .p (.int .i64 n2)), (2, .loc 2 1 0 0), (4, .loc 4 1 0 0), (5, .loc 5 1 0 0), (6, .p (.int .i64 s.2))], [(2, .arr 24 3 1 [.p (encDrossref03_Recipe x1)]), (4, .arr 28 3 1 [.agg [.p (.str []), .nils, .nils]]), (5, .arr 28 3 1 [.agg [.p (.str [114]), .own 10 1 0 ((l6.take n2.toNat)).length, .own 64 1 0 s.1.length]]), (10, .arr 9 1 1 (List.map AV.p (List.map PV.str (l6.take n2.toNat)))), (64, .arr 40 2 1 (List.map AV.p (List.map encRow s.1)))]⟩) (fun (o11 : List Row) => tE (cX Tryd.f18 X w D hT) (.exit 0) ⟨[(4, .loc 4 1 0 0), (5, .loc 5 1 0 0)], [(4, .arr 28 3 1 [.agg [.p (.str []), .nils, .nils]]), (5, .arr 28 3 1 [.agg [.p (.str [114]), .own 10 1 0 ((l6.take n2.toNat)).length, .own 64 1 0 o11.length]]), (10, .arr 9 1 1 (List.map AV.p (List.map PV.str (l6.take n2.toNat)))), (64, .arr 40 2 1 (List.map AV.p (List.map encRow o11)))]⟩) h10 ?_ ?_
 clear h h4 h5 h7n h8 h10
 intro s x h
 obtain ⟨t12, i13⟩ := s
 simp only [drossref03_Wide_l4] at h
 dsimp only
 refine zs (zs (zr ?_))
 refine zU (zl (zn ?_))
 rcases zI h with ⟨h14, h⟩ | ⟨h14, h⟩
 refine zi (zk (zn (zs (zb (zs (zr ?_))))))
 refine zU (zl (zn (zs (zs (zr ?_)))))
 refine zU (zl (zn (zb ?_)))
 obtain ⟨r15, h16, h⟩ := zB h
 refine zO (fun (s : List Value × Int) => ⟨[(1, .p (.int .i64 n2)), (2, .loc 2 1 0 0), (4, .loc 4 1 0 0), (5, .loc 5 1 0 0), (6, .p (.int .i64 i13)), (7, .loc 7 1 0 0), (8, .p (.int .i64 s.2))], [(2, .arr 24 3 1 [.p (encDrossref03_Recipe x1)]), (4, .arr 28 3 1 [.agg [.p (.str []), .nils, .nils]]), (5, .arr 28 3 1 [.agg [.p (.str [114]), .own 10 1 0 ((l6.take n2.toNat)).length, .own 64 1 0 t12.length]]), (7, .arr 40 2 1 [.agg [.p (.int .i64 (IntKind.i64.wrap (1 + (IntKind.i64.wrap (i13 * (IntKind.i64.wrap (1 + (IntKind.i64.wrap (Int.tmod x1.Gap 3))))))))), .own 58 1 0 s.1.length]]), (10, .arr 9 1 1 (List.map AV.p (List.map PV.str (l6.take n2.toNat)))), (58, .arr 83 3 1 (List.map AV.p (List.map encValue s.1))), (64, .arr 40 2 1 (List.map AV.p (List.map encRow t12)))]⟩) (fun (o17 : List Value) => tE (cX Tryd.f18 X w D hT) (.exit 2) ⟨[(1, .p (.int .i64 n2)), (2, .loc 2 1 0 0), (4, .loc 4 1 0 0), (5, .loc 5 1 0 0), (6, .p (.int .i64 i13)), (7, .loc 7 1 0 0)], [(2, .arr 24 3 1 [.p (encDrossref03_Recipe x1)]), (4, .arr 28 3 1 [.agg [.p (.str []), .nils, .nils]]), (5, .arr 28 3 1 [.agg [.p (.str [114]), .own 10 1 0 ((l6.take n2.toNat)).length, .own 64 1 0 t12.length]]), (7, .arr 40 2 1 [.agg [.p (.int .i64 (IntKind.i64.wrap (1 + (IntKind.i64.wrap (i13 * (IntKind.i64.wrap (1 + (IntKind.i64.wrap (Int.tmod x1.Gap 3))))))))), .own 58 1 0 o17.length]]), (10, .arr 9 1 1 (List.map AV.p (List.map PV.str (l6.take n2.toNat)))), (58, .arr 83 3 1 (List.map AV.p (List.map encValue o17))), (64, .arr 40 2 1 (List.map AV.p (List.map encRow t12)))]⟩) h16 ?_ ?_
 clear h h14 h16
 intro s x h
 obtain ⟨r18, k19⟩ := s
 simp only [drossref03_Wide_l3] at h
 dsimp only
 refine zs (zs (zr ?_))
 refine zU (zl (zn ?_))
 rcases zI h with ⟨h20, h⟩ | ⟨h20, h⟩
 refine zi (zk (zn (zs (zb (zs (zr ?_))))))
 refine zU (zl (zn (zs (zs (zr ?_)))))
 obtain ⟨x21, h22, h22a, h22b, h⟩ := zX h
 refine zU (zl (zn ?_))
 rcases zI h with ⟨h23, h⟩ | ⟨h23, h⟩
 refine zi (zr ?_)
 obtain ⟨x24, h25, h25a, h25b, h⟩ := zX h
 refine zU (zl (zn (zd ?_)))
 refine yU ?_
 obtain ⟨r26, h27, h⟩ := zB h
 refine yc (drossref01_Of_con x24 _ h27) ?_
 obtain ⟨h28, h⟩ := ite_some h
 refine yU ?_
 refine yd (yn (zn (zr ?_)))
 refine zU (zl ?_)
 cases h
 exact ⟨rfl, zE⟩
 refine zj (zk (zn (zd ?_)))
 refine yU ?_
 obtain ⟨r29, h30, h⟩ := zB h
 refine yc (drossref01_Of_con 0 _ h30) ?_
 obtain ⟨h31, h⟩ := ite_some h
 refine yU ?_
 refine yd (yn (zn (zr ?_)))
 refine zU (zl ?_)
 cases h
 exact ⟨rfl, zE⟩
 refine zj (zx (ze ?_))
 cases h
 exact ⟨rfl, zE⟩
 try simp only at h
 refine zA (yh (zn (zr ?_)))
 refine zW 4 ?_
 refine zM ⟨[(1, .p (.int .i64 n2)), (2, .loc 2 1 0 0), (4, .loc 4 1 0 0), (5, .loc 5 1 0 0), (6, .p (.int .i64 i13)), (61, .own 64 1 0 t12.length), (63, .own 63 1 0 1)], [(2, .arr 24 3 1 [.p (encDrossref03_Recipe x1)]), (4, .arr 28 3 1 [.agg [.p (.str []), .nils, .nils]]), (5, .arr 28 3 1 [.agg [.p (.str [114]), .own 10 1 0 ((l6.take n2.toNat)).length, .own 64 1 0 t12.length]]), (10, .arr 9 1 1 (List.map AV.p (List.map PV.str (l6.take n2.toNat)))), (63, .arr 40 2 1 [.p (.agg [.int .i64 (IntKind.i64.wrap (1 + (IntKind.i64.wrap (i13 * (IntKind.i64.wrap (1 + (IntKind.i64.wrap (Int.tmod x1.Gap 3)))))))), .slc (List.map encValue r15)])]), (64, .arr 40 2 1 (List.map AV.p (List.map encRow t12)))]⟩ ?_
 obtain ⟨h32, h⟩ := ite_some h
 refine zU (zl (yn (zn (zr ?_))))
 refine zU (zl ?_)
 cases h
 exact ⟨rfl, zE⟩
 refine zj (zx (ze ?_))
 cases h
 exact ⟨rfl, zE⟩
 try simp only at h
 refine zA (yh (zn (zs (zr ?_))))
 refine zU (zl (zn (zq ?_)))
 cases h
 exact zT Tryd.results18
end Go.Proofs.YtjcdclpfeflfkaaDoor
set_option linter.unusedVariables false
set_option linter.unusedSimpArgs false
namespace Go.Proofs.YtjcdclpfeflfkaaDoor
open Go Go.Ab
set_option maxHeartbeats 4000000 in
theorem drossref03_Table_con {D : Prop} (x1 : Drossref03_Recipe) (m2 : Int) (r3 : Table × Bool) (h : drossref03_Table x1 m2 = some r3) : Con D Tryd.prog 7 [(encDrossref03_Recipe x1), (.int .i64 m2)] (.tup [(encTable r3.1), (.bool r3.2)]) := by
 refine zP Tryd.call7 Tryd.func7 rfl Tryd.ntmps7 fun X w hT => ?_
 simp only [drossref03_Table] at h
 refine zs (zr ?_)
 refine zU (zl (zn (zs (zs (zr ?_)))))
 refine zU (zl (zn ?_))
 rcases zI h with ⟨h4, h⟩ | ⟨h4, h⟩
 refine zi (zs (zr ?_))
 refine zU (zl (zn (zq (zt ?_))))
 cases h
 exact zT Tryd.results7
 refine zj (zk (zn (zs (zr ?_))))
 refine zU ?_
 obtain ⟨r5, h6, h⟩ := zB h
 refine zc (drossref03_Wide_con x1 (IntKind.i64.wrap (Int.tmod x1.Attrs 6)) _ h6) ?_
 refine zU (zl (zn (zq ?_)))
 cases h
 exact zT Tryd.results7
end Go.Proofs.YtjcdclpfeflfkaaDoor
namespace Go.Proofs
open Go Go.Ab Go.Shelf
def YtjcdclpfeflfkaaDoor.sort28_ren : Go.Shelf.Ren := ⟨fun | 5 => 28 | 8 => 46 | 7 => 45 | 19 => 69 | 20 => 70 | 10 => 60 | 11 => 61 | 12 => 62 | 13 => 63 | 14 => 64 | 15 => 65 | 16 => 66 | 17 => 67 | 18 => 68 | 30 => 90 | 31 => 91 | 32 => 92 | 33 => 93 | 34 => 94 | 35 => 95 | 40 => 108 | n => n, fun | 23 => 37 | 25 => 2 | 3 => 3 | 32 => 100 | 22 => 37 | 0 => 0 | 44 => 32 | 46 => 75 | 4 => 4 | 36 => 114 | 35 => 113 | 41 => 97 | 5 => 5 | 9 => 9 | 53 => 146 | 57 => 150 | 63 => 161 | 64 => 162 | n => n, fun | n => n⟩
theorem YtjcdclpfeflfkaaDoor.sort28 : Go.Proofs.SlLaysM.n5 Tryd.prog YtjcdclpfeflfkaaDoor.sort28_ren := {
  mixed := by kernel_rfl
  f5 := ⟨Tryd.f28.name, by decide, Tryd.func28.trans (congrArg some (by kernel_rfl))⟩
  f7 := ⟨Tryd.f45.name, by decide, Tryd.func45.trans (congrArg some (by kernel_rfl))⟩
  f8 := Tryd.func46.trans (congrArg some (by kernel_rfl))
  f10 := ⟨Tryd.f60.name, by decide, Tryd.func60.trans (congrArg some (by kernel_rfl))⟩
  f11 := ⟨Tryd.f61.name, by decide, Tryd.func61.trans (congrArg some (by kernel_rfl))⟩
  f12 := ⟨Tryd.f62.name, by decide, Tryd.func62.trans (congrArg some (by kernel_rfl))⟩
  f13 := ⟨Tryd.f63.name, by decide, Tryd.func63.trans (congrArg some (by kernel_rfl))⟩
  f14 := ⟨Tryd.f64.name, by decide, Tryd.func64.trans (congrArg some (by kernel_rfl))⟩
  f15 := ⟨Tryd.f65.name, by decide, Tryd.func65.trans (congrArg some (by kernel_rfl))⟩
  f16 := ⟨Tryd.f66.name, by decide, Tryd.func66.trans (congrArg some (by kernel_rfl))⟩
  f17 := ⟨Tryd.f67.name, by decide, Tryd.func67.trans (congrArg some (by kernel_rfl))⟩
  f18 := ⟨Tryd.f68.name, by decide, Tryd.func68.trans (congrArg some (by kernel_rfl))⟩
  f19 := Tryd.func69.trans (congrArg some (by kernel_rfl))
  f20 := Tryd.func70.trans (congrArg some (by kernel_rfl))
  f30 := ⟨Tryd.f90.name, by decide, Tryd.func90.trans (congrArg some (by kernel_rfl))⟩
  f31 := Tryd.func91.trans (congrArg some (by kernel_rfl))
  f32 := Tryd.func92.trans (congrArg some (by kernel_rfl))
  f33 := ⟨Tryd.f93.name, by decide, Tryd.func93.trans (congrArg some (by kernel_rfl))⟩
  f34 := ⟨Tryd.f94.name, by decide, Tryd.func94.trans (congrArg some (by kernel_rfl))⟩
  f35 := ⟨Tryd.f95.name, by decide, Tryd.func95.trans (congrArg some (by kernel_rfl))⟩
  f40 := ⟨Tryd.f108.name, by decide, Tryd.func108.trans (congrArg some (by kernel_rfl))⟩
  t0 := Tryd.underlying0
  a0 := Tryd.isAgg0
  z0 := Tryd.sizeOf0
  v0 := Tryd.zeroValue0
  t3 := Tryd.underlying3
  a3 := Tryd.isAgg3
  z3 := Tryd.sizeOf3
  v3 := Tryd.zeroValue3
  t4 := Tryd.underlying4
  a4 := Tryd.isAgg4
  z4 := Tryd.sizeOf4
  v4 := Tryd.zeroValue4
  t5 := Tryd.underlying5
  a5 := Tryd.isAgg5
  z5 := Tryd.sizeOf5
  v5 := Tryd.zeroValue5
  t9 := Tryd.underlying9
  a9 := Tryd.isAgg9
  z9 := Tryd.sizeOf9
  v9 := Tryd.zeroValue9
  t22 := Tryd.underlying37
  a22 := Tryd.isAgg37
  z22 := Tryd.sizeOf37
  v22 := Tryd.zeroValue37
  t23 := Tryd.underlying37
  a23 := Tryd.isAgg37
  z23 := Tryd.sizeOf37
  v23 := Tryd.zeroValue37
  t25 := Tryd.underlying2
  a25 := Tryd.isAgg2
  z25 := Tryd.sizeOf2
  v25 := Tryd.zeroValue2
  t32 := Tryd.underlying100
  a32 := Tryd.isAgg100
  z32 := Tryd.sizeOf100
  v32 := Tryd.zeroValue100
  t35 := Tryd.underlying113
  a35 := Tryd.isAgg113
  z35 := Tryd.sizeOf113
  v35 := Tryd.zeroValue113
  t36 := Tryd.underlying114
  a36 := Tryd.isAgg114
  z36 := Tryd.sizeOf114
  v36 := Tryd.zeroValue114
  t41 := Tryd.underlying97
  a41 := Tryd.isAgg97
  z41 := Tryd.sizeOf97
  v41 := Tryd.zeroValue97
  t44 := Tryd.underlying32
  a44 := Tryd.isAgg32
  z44 := Tryd.sizeOf32
  v44 := Tryd.zeroValue32
  t46 := Tryd.underlying75
  a46 := Tryd.isAgg75
  z46 := Tryd.sizeOf75
  v46 := Tryd.zeroValue75
  t53 := Tryd.underlying146
  a53 := Tryd.isAgg146
  z53 := Tryd.sizeOf146
  v53 := Tryd.zeroValue146
  t57 := Tryd.underlying150
  a57 := Tryd.isAgg150
  z57 := Tryd.sizeOf150
  v57 := Tryd.zeroValue150
  t63 := Tryd.underlying161
  a63 := Tryd.isAgg161
  z63 := Tryd.sizeOf161
  v63 := Tryd.zeroValue161
  t64 := Tryd.underlying162
  a64 := Tryd.isAgg162
  z64 := Tryd.sizeOf162
  v64 := Tryd.zeroValue162 }
theorem YtjcdclpfeflfkaaDoor.srt28 : SrtI Tryd.prog 28 := ⟨Tryd.call28, fun blk off cap zs w hH hb hs => AnyM.slices_Sort_int YtjcdclpfeflfkaaDoor.sort28 blk off cap zs w hH hb hs, fun p cap w => AnyM.slices_Sort_int_none YtjcdclpfeflfkaaDoor.sort28 p cap w⟩
end Go.Proofs
set_option linter.unusedVariables false
set_option linter.unusedSimpArgs false
namespace Go.Proofs.YtjcdclpfeflfkaaDoor
open Go Go.Ab
set_option maxRecDepth 20000 in
set_option maxHeartbeats 4000000 in
theorem table_isName_con {D : Prop} (s1 : List UInt8) (r2 : Bool) (h : table_isName s1 = some r2) : Con D Tryd.prog 55 [(.str s1)] (.bool r2) := by
 refine zP Tryd.call55 Tryd.func55 rfl Tryd.ntmps55 fun X w hT => ?_
 simp only [table_isName] at h
 refine zs (zr ?_)
 refine zU (zl (zn (zs (zs (zr ?_)))))
 refine zU ?_
 rcases zI h with ⟨h3, h⟩ | ⟨h3, h⟩
 refine zw 8 true ?_
 refine zh ?_
 refine zU ?_
 refine zh ?_
 refine zU (zl (zn ?_))
 refine zi (zs (zr ?_))
 refine zU (zl (zn (zq (zt ?_))))
 cases h
 exact zT Tryd.results55
 refine zw 8 false ?_
 refine zg ?_
 refine zg ?_
 refine zg ?_
 refine zU ?_
 rcases zI h with ⟨h4, h⟩ | ⟨h4, h⟩
 refine zw 13 true ?_
 refine zh ?_
 refine zU (zl (zn ?_))
 refine zi (zs (zr ?_))
 refine zU (zl (zn (zq (zt ?_))))
 cases h
 exact zT Tryd.results55
 refine zw 13 false ?_
 refine zg ?_
 refine zg ?_
 refine zU (zl (zn ?_))
 rcases zI h with ⟨h5, h⟩ | ⟨h5, h⟩
 refine zi (zs (zr ?_))
 refine zU (zl (zn (zq (zt ?_))))
 cases h
 exact zT Tryd.results55
 refine zj (zk (zn (zs (zs (zr ?_)))))
 refine zU (zl (zn (zb ?_)))
 obtain ⟨o6, h7, h⟩ := zB h
 refine zO (fun (s : Int) => ⟨[(0, .p (.str s1)), (18, .p (.int .i64 (s1.length : Int))), (19, .p (.int .i64 s))], []⟩) (fun (o : (Unit) ⊕ (Bool)) => match o with | .inl o8 => tE (cX Tryd.f55 X w D hT) (.exit 0) ⟨[], []⟩ | .inr o9 => tR Tryd.prog Tryd.f55 (.bool o9)) h7 ?_ ?_
 clear h h3 h4 h5 h7
 intro t10 x h
 simp only [table_isName_l1] at h
 refine zs (zr ?_)
 refine zU (zl (zn (zs ?_)))
 rcases zI h with ⟨h11, h⟩ | ⟨h11, h⟩
 refine zi (zk (zn (zs (zb (zs (zr ?_))))))
 refine zU (zl (zn (zs (zr ?_))))
 obtain ⟨c12, h13, h13a, h13b, h⟩ := zX h
 refine zU (zl (zn ?_))
 obtain ⟨l14, h15, h⟩ := zB h
 refine zJ (fun (o16 : Bool) => tE (cX Tryd.f55 X w D hT) .normal ⟨[(0, .p (.str s1)), (3, .p (.int .i64 t10)), (4, .p (.int .u8 ((c12.toNat : Nat) : Int))), (5, .p (.bool o16)), (18, .p (.int .i64 (s1.length : Int))), (19, .p (.int .i64 t10))], []⟩) l14 ?_ ?_
 replace h := h15
 clear h15
 refine zr ?_
 refine zU ?_
 rcases zI h with ⟨h17, h⟩ | ⟨h17, h⟩
 refine zw 27 true ?_
 refine zg ?_
 refine zg ?_
 refine zU ?_
 rcases zI h with ⟨h18, h⟩ | ⟨h18, h⟩
 refine zw 31 true ?_
 refine zh ?_
 refine zU ?_
 refine zh ?_
 refine zU (zl ?_)
 cases h
 exact ⟨rfl, zE⟩
 refine zw 31 false ?_
 refine zg ?_
 refine zg ?_
 refine zg ?_
 rcases zI h with ⟨h19, h⟩ | ⟨h19, h⟩
 refine zw 34 true ?_
 refine zg ?_
 refine zg ?_
 refine zg ?_
 refine zU ?_
 rcases zI h with ⟨h20, h⟩ | ⟨h20, h⟩
 refine zw 39 true ?_
 refine zh ?_
 refine zU (zl ?_)
 cases h
 exact ⟨rfl, zE⟩
 replace h := h.symm
 refine zw 39 false ?_
 refine zg ?_
 refine zg ?_
 refine zU (zl ?_)
 cases h
 exact ⟨rfl, zE⟩
 replace h := h.symm
 refine zw 34 false ?_
 refine zh ?_
 refine zg ?_
 refine zU ?_
 refine zg ?_
 refine zg ?_
 refine zU (zl ?_)
 cases h
 exact ⟨rfl, zE⟩
 refine zw 27 false ?_
 refine zh ?_
 refine zU ?_
 refine zg ?_
 refine zg ?_
 refine zg ?_
 rcases zI h with ⟨h21, h⟩ | ⟨h21, h⟩
 refine zw 34 true ?_
 refine zg ?_
 refine zg ?_
 refine zg ?_
 refine zU ?_
 rcases zI h with ⟨h22, h⟩ | ⟨h22, h⟩
 refine zw 39 true ?_
 refine zh ?_
 refine zU (zl ?_)
 cases h
 exact ⟨rfl, zE⟩
 replace h := h.symm
 refine zw 39 false ?_
 refine zg ?_
 refine zg ?_
 refine zU (zl ?_)
 cases h
 exact ⟨rfl, zE⟩
 replace h := h.symm
 refine zw 34 false ?_
 refine zh ?_
 refine zg ?_
 refine zU ?_
 refine zg ?_
 refine zg ?_
 refine zU (zl ?_)
 cases h
 exact ⟨rfl, zE⟩
 try simp only at h
 refine zA (zn (zs (zr ?_)))
 refine zU ?_
 rcases zI h with ⟨h23, h⟩ | ⟨h23, h⟩
 refine zw 45 false ?_
 refine zh ?_
 refine zU (zl (zn ?_))
 refine zj (zk (yn (zn (zr ?_))))
 refine zU (zl ?_)
 cases h
 exact ⟨rfl, zE⟩
 refine zw 45 true ?_
 refine zg ?_
 refine zg ?_
 refine zg ?_
 rcases zI h with ⟨h24, h⟩ | ⟨h24, h⟩
 replace h := h.symm
 refine zw 48 true ?_
 refine zh ?_
 refine zg ?_
 refine zg ?_
 refine zh ?_
 refine zg ?_
 refine zU (zl (zn ?_))
 refine zi (zs (zr ?_))
 refine zU (zl (zn (zq (yr (zt ?_)))))
 cases h
 exact ⟨rfl, zT Tryd.results55⟩
 refine zw 48 false ?_
 refine zg ?_
 refine zg ?_
 refine zg ?_
 refine zg ?_
 rcases zI h with ⟨h25, h⟩ | ⟨h25, h⟩
 replace h := h.symm
 refine zw 52 true ?_
 refine zh ?_
 refine zg ?_
 refine zU (zl (zn ?_))
 refine zi (zs (zr ?_))
 refine zU (zl (zn (zq (yr (zt ?_)))))
 cases h
 exact ⟨rfl, zT Tryd.results55⟩
 refine zw 52 false ?_
 refine zg ?_
 refine zg ?_
 refine zg ?_
 refine zU (zl (zn ?_))
 rcases zI h with ⟨h26, h⟩ | ⟨h26, h⟩
 refine zi (zs (zr ?_))
 refine zU (zl (zn (zq (yr (zt ?_)))))
 cases h
 exact ⟨rfl, zT Tryd.results55⟩
 refine zj (zk (yn (zn (zr ?_))))
 refine zU (zl ?_)
 cases h
 exact ⟨rfl, zE⟩
 refine zj (zx (ze ?_))
 cases h
 exact ⟨rfl, zE⟩
 rcases o6 with ⟨⟩ | r27
 try simp only at h
 refine zA (yh (zn (zs (zr ?_))))
 refine zU (zl (zn (zq ?_)))
 cases h
 exact zT Tryd.results55
 try simp only at h
 refine zZ fun s hq => ?_
 refine yr (zt ?_)
 cases h
 exact hq
end Go.Proofs.YtjcdclpfeflfkaaDoor
set_option linter.unusedVariables false
set_option linter.unusedSimpArgs false
namespace Go.Proofs.YtjcdclpfeflfkaaDoor
open Go Go.Ab
set_option maxHeartbeats 4000000 in
theorem slices_Index_string_con {D : Prop} (s1 : List (List UInt8)) (v2 : List UInt8) (r3 : Int) (h : slices_Index_string s1 v2 = some r3) : Con D Tryd.prog 81 [(.slc (List.map PV.str s1)), (.str v2)] (.int .i64 r3) := by
 refine zP Tryd.call81 Tryd.func81 rfl Tryd.ntmps81 fun X w hT => ?_
 simp only [slices_Index_string] at h
 refine zs (zr ?_)
 refine zU (zl (zn (zs (zs (zr ?_)))))
 refine zU (zl (zn (zb ?_)))
 obtain ⟨o4, h5, h⟩ := zB h
 refine zO (fun (s : Int) => ⟨[(0, .p (.slc (List.map PV.str s1))), (1, .p (.str v2)), (7, .p (.int .i64 (s1.length : Int))), (8, .p (.int .i64 s))], []⟩) (fun (o : (Unit) ⊕ (Int)) => match o with | .inl o6 => tE (cX Tryd.f81 X w D hT) (.exit 0) ⟨[], []⟩ | .inr o7 => tR Tryd.prog Tryd.f81 (.int .i64 o7)) h5 ?_ ?_
 clear h h5
 intro t8 x h
 simp only [slices_Index_string_l1] at h
 refine zs (zr ?_)
 refine zU (zl (zn (zs ?_)))
 rcases zI h with ⟨h9, h⟩ | ⟨h9, h⟩
 refine zi (zk (zn (zs (zb (zs (zr ?_))))))
 refine zU (zl (zn (zs (zr ?_))))
 obtain ⟨x10, h11, h11a, h11b, h⟩ := zX h
 refine zU (zl (zn ?_))
 rcases zI h with ⟨h12, h⟩ | ⟨h12, h⟩
 refine zi (zs (zr ?_))
 refine zU (zl (zn (zq (yr (zt ?_)))))
 cases h
 exact ⟨rfl, zT Tryd.results81⟩
 refine zj (zk (yn (zn (zr ?_))))
 refine zU (zl ?_)
 cases h
 exact ⟨rfl, zE⟩
 refine zj (zx (ze ?_))
 cases h
 exact ⟨rfl, zE⟩
 rcases o4 with ⟨⟩ | r13
 try simp only at h
 refine zA (yh (zn (zs (zr ?_))))
 refine zU (zl (zn (zq ?_)))
 cases h
 exact zT Tryd.results81
 try simp only at h
 refine zZ fun s hq => ?_
 refine yr (zt ?_)
 cases h
 exact hq
end Go.Proofs.YtjcdclpfeflfkaaDoor
set_option linter.unusedVariables false
set_option linter.unusedSimpArgs false
namespace Go.Proofs.YtjcdclpfeflfkaaDoor
open Go Go.Ab
set_option maxHeartbeats 4000000 in
theorem slices_Contains_string_con {D : Prop} (s1 : List (List UInt8)) (v2 : List UInt8) (r3 : Bool) (h : slices_Contains_string s1 v2 = some r3) : Con D Tryd.prog 56 [(.slc (List.map PV.str s1)), (.str v2)] (.bool r3) := by
 refine zP Tryd.call56 Tryd.func56 rfl Tryd.ntmps56 fun X w hT => ?_
 simp only [slices_Contains_string] at h
 refine zs (zr ?_)
 refine zU (zl (zn (zs (zr ?_))))
 refine zU ?_
 obtain ⟨r4, h5, h⟩ := zB h
 refine zc (slices_Index_string_con s1 v2 _ h5) ?_
 refine zU (zl (zn (zq ?_)))
 cases h
 exact zT Tryd.results56
end Go.Proofs.YtjcdclpfeflfkaaDoor
set_option linter.unusedVariables false
set_option linter.unusedSimpArgs false
namespace Go.Proofs.YtjcdclpfeflfkaaDoor
open Go Go.Ab
set_option maxHeartbeats 4000000 in
theorem slices_IndexFunc_Value_con {D : Prop} (s1 : List Value) (f2 : Value → Option (Bool)) (f2_k : FuncId) (f2_cs : List PV) (f2_h : ∀ (y3 : Value) (r4 : Bool), f2 y3 = some r4 → Con D Tryd.prog f2_k ((encValue y3) :: f2_cs) (.bool r4)) (r5 : Int) (h : slices_IndexFunc_Value s1 f2 = some r5) : Con D Tryd.prog 102 [(.slc (List.map encValue s1)), .func (.func f2_k) f2_cs] (.int .i64 r5) := by
 refine zP Tryd.call102 Tryd.func102 rfl Tryd.ntmps102 fun X w hT => ?_
 simp only [slices_IndexFunc_Value] at h
 refine zs (zr ?_)
 refine zU (zl (zn (zs (zs (zr ?_)))))
 refine zU (zl (zn (zb ?_)))
 obtain ⟨o6, h7, h⟩ := zB h
 refine zO (fun (s : Int) => ⟨[(0, .p (.slc (List.map encValue s1))), (1, .p (.func (.func f2_k) f2_cs)), (7, .p (.int .i64 (s1.length : Int))), (8, .p (.int .i64 s))], []⟩) (fun (o : (Unit) ⊕ (Int)) => match o with | .inl o8 => tE (cX Tryd.f102 X w D hT) (.exit 0) ⟨[], []⟩ | .inr o9 => tR Tryd.prog Tryd.f102 (.int .i64 o9)) h7 ?_ ?_
 clear h h7
 intro t10 x h
 simp only [slices_IndexFunc_Value_l1] at h
 refine zs (zr ?_)
 refine zU (zl (zn (zs ?_)))
 rcases zI h with ⟨h11, h⟩ | ⟨h11, h⟩
 refine zi (zk (zn (zs (zb (zs (zr ?_))))))
 refine zU (zl (zn (zs (zr ?_))))
 obtain ⟨x12, h13, h13a, h13b, h⟩ := zX h
 refine zU ?_
 obtain ⟨r14, h15, h⟩ := zB h
 refine zc (f2_h x12 _ h15) ?_
 refine zl (zn ?_)
 rcases zI h with ⟨h16, h⟩ | ⟨h16, h⟩
 refine zi (zs (zr ?_))
 refine zU (zl (zn (zq (yr (zt ?_)))))
 cases h
 exact ⟨rfl, zT Tryd.results102⟩
 refine zj (zk (yn (zn (zr ?_))))
 refine zU (zl ?_)
 cases h
 exact ⟨rfl, zE⟩
 refine zj (zx (ze ?_))
 cases h
 exact ⟨rfl, zE⟩
 rcases o6 with ⟨⟩ | r17
 try simp only at h
 refine zA (yh (zn (zs (zr ?_))))
 refine zU (zl (zn (zq ?_)))
 cases h
 exact zT Tryd.results102
 try simp only at h
 refine zZ fun s hq => ?_
 refine yr (zt ?_)
 cases h
 exact hq
end Go.Proofs.YtjcdclpfeflfkaaDoor
set_option linter.unusedVariables false
set_option linter.unusedSimpArgs false
namespace Go.Proofs.YtjcdclpfeflfkaaDoor
open Go Go.Ab
set_option maxHeartbeats 4000000 in
theorem slices_ContainsFunc_Value_con {D : Prop} (s1 : List Value) (f2 : Value → Option (Bool)) (f2_k : FuncId) (f2_cs : List PV) (f2_h : ∀ (y3 : Value) (r4 : Bool), f2 y3 = some r4 → Con D Tryd.prog f2_k ((encValue y3) :: f2_cs) (.bool r4)) (r5 : Bool) (h : slices_ContainsFunc_Value s1 f2 = some r5) : Con D Tryd.prog 82 [(.slc (List.map encValue s1)), .func (.func f2_k) f2_cs] (.bool r5) := by
 refine zP Tryd.call82 Tryd.func82 rfl Tryd.ntmps82 fun X w hT => ?_
 simp only [slices_ContainsFunc_Value] at h
 refine zs (zr ?_)
 refine zU (zl (zn (zs (zr ?_))))
 refine zU ?_
 obtain ⟨r6, h7, h⟩ := zB h
 refine zc (slices_IndexFunc_Value_con s1 f2 f2_k f2_cs f2_h _ h7) ?_
 refine zU (zl (zn (zq ?_)))
 cases h
 exact zT Tryd.results82
end Go.Proofs.YtjcdclpfeflfkaaDoor
set_option linter.unusedVariables false
set_option linter.unusedSimpArgs false
namespace Go.Proofs.YtjcdclpfeflfkaaDoor
open Go Go.Ab
set_option maxHeartbeats 4000000 in
theorem value_Valid_con {D : Prop} (v1 : Value) (r2 : Bool) (h : value_Valid v1 = some r2) : Con D Tryd.prog 84 [(encValue v1)] (.bool r2) := by
 refine zP Tryd.call84 Tryd.func84 rfl Tryd.ntmps84 fun X w hT => ?_
 simp only [value_Valid] at h
 refine zs (zr ?_)
 refine zU (zl (zn (zs (zs (zr ?_)))))
 refine zU (zl (zn (zb (zs (zr ?_)))))
 refine zU (zl (zn ?_))
 rcases zI h with ⟨h3, h⟩ | ⟨h3, h⟩
 refine zi (zs (zr ?_))
 refine zU ?_
 rcases zI h with ⟨h4, h⟩ | ⟨h4, h⟩
 replace h := h.symm
 refine zw 10 true ?_
 refine zg ?_
 refine zg ?_
 refine zg ?_
 refine zU (zl (zn (zq (yr (zt ?_)))))
 cases h
 exact zT Tryd.results84
 refine zw 10 false ?_
 refine zh ?_
 refine zU (zl (zn (zq (yr (zt ?_)))))
 cases h
 exact zT Tryd.results84
 refine zj (zs (zr ?_))
 refine zU (zl (zn ?_))
 rcases zI h with ⟨h5, h⟩ | ⟨h5, h⟩
 refine zi (zs (zr ?_))
 refine zU (zl (zn (zq (yr (zt ?_)))))
 cases h
 exact zT Tryd.results84
 refine zj (zs (zr ?_))
 refine zU (zl (zn ?_))
 rcases zI h with ⟨h6, h⟩ | ⟨h6, h⟩
 refine zi (zs (zr ?_))
 refine zU ?_
 rcases zI h with ⟨h7, h⟩ | ⟨h7, h⟩
 replace h := h.symm
 refine zw 25 true ?_
 refine zg ?_
 refine zg ?_
 refine zg ?_
 refine zg ?_
 refine zU (zl (zn (zq (yr (zt ?_)))))
 cases h
 exact zT Tryd.results84
 refine zw 25 false ?_
 refine zh ?_
 refine zU (zl (zn (zq (yr (zt ?_)))))
 cases h
 exact zT Tryd.results84
 refine zj (zs (zr ?_))
 refine zU (zl (zn ?_))
 rcases zI h with ⟨h8, h⟩ | ⟨h8, h⟩
 refine zi (zs (zr ?_))
 refine zU ?_
 rcases zI h with ⟨h9, h⟩ | ⟨h9, h⟩
 replace h := h.symm
 refine zw 36 true ?_
 refine zg ?_
 refine zg ?_
 refine zg ?_
 refine zU (zl (zn (zq (yr (zt ?_)))))
 cases h
 exact zT Tryd.results84
 refine zw 36 false ?_
 refine zh ?_
 refine zU (zl (zn (zq (yr (zt ?_)))))
 cases h
 exact zT Tryd.results84
 refine zj (zk (yn (zn (zs (zr ?_)))))
 refine zU (zl (zn (zq ?_)))
 cases h
 exact zT Tryd.results84
end Go.Proofs.YtjcdclpfeflfkaaDoor
set_option linter.unusedVariables false
set_option linter.unusedSimpArgs false
namespace Go.Proofs.YtjcdclpfeflfkaaDoor
open Go Go.Ab
set_option maxHeartbeats 4000000 in
theorem table_validValues_1_con {D : Prop} (v1 : Value) (r2 : Bool) (h : table_validValues_1 v1 = some r2) : Con D Tryd.prog 83 [(encValue v1)] (.bool r2) := by
 refine zP Tryd.call83 Tryd.func83 rfl Tryd.ntmps83 fun X w hT => ?_
 simp only [table_validValues_1] at h
 refine zs (zr ?_)
 refine zU (zl (zn (zs (zr ?_))))
 refine zU ?_
 obtain ⟨r3, h4, h⟩ := zB h
 refine zc (value_Valid_con v1 _ h4) ?_
 refine zU (zl (zn (zq ?_)))
 cases h
 exact zT Tryd.results83
end Go.Proofs.YtjcdclpfeflfkaaDoor
set_option linter.unusedVariables false
set_option linter.unusedSimpArgs false
namespace Go.Proofs.YtjcdclpfeflfkaaDoor
open Go Go.Ab
set_option maxHeartbeats 4000000 in
theorem table_validValues_con {D : Prop} (l1 : List Value) (r2 : Bool) (h : table_validValues l1 = some r2) : Con D Tryd.prog 57 [(.slc (List.map encValue l1))] (.bool r2) := by
 refine zP Tryd.call57 Tryd.func57 rfl Tryd.ntmps57 fun X w hT => ?_
 simp only [table_validValues] at h
 refine zs (zr ?_)
 refine zU (zl (zn (zs (zr ?_))))
 refine zU ?_
 obtain ⟨r3, h4, h⟩ := zB h
 refine zc (slices_ContainsFunc_Value_con l1 (fun (y5 : Value) => table_validValues_1 y5) 83 [] (fun y5 r h => table_validValues_1_con y5 r h) _ h4) ?_
 refine zU (zl (zn (zq ?_)))
 cases h
 exact zT Tryd.results57
end Go.Proofs.YtjcdclpfeflfkaaDoor
set_option linter.unusedVariables false
set_option linter.unusedSimpArgs false
namespace Go.Proofs.YtjcdclpfeflfkaaDoor
open Go Go.Ab
set_option maxHeartbeats 4000000 in
theorem table_Valid_con {D : Prop} (t1 : Table) (r2 : Int) (h : table_Valid t1 = some r2) : Con D Tryd.prog 43 [(encTable t1)] (.int .i64 r2) := by
 refine zP Tryd.call43 Tryd.func43 rfl Tryd.ntmps43 fun X w hT => ?_
 simp only [table_Valid] at h
 refine zs (zr ?_)
 refine zU (zl (zn (zs (zs (zr ?_)))))
 refine zU ?_
 obtain ⟨r3, h4, h⟩ := zB h
 refine zc (table_isName_con t1.Name _ h4) ?_
 refine zU (zl (zn ?_))
 rcases zI h with ⟨h5, h⟩ | ⟨h5, h⟩
 refine zj (zk (zn (zs (zs (zr ?_)))))
 refine zU ?_
 rcases zI h with ⟨h6, h⟩ | ⟨h6, h⟩
 refine zw 16 true ?_
 refine zh ?_
 refine zU (zl (zn ?_))
 refine zi (zs (zr ?_))
 refine zU (zl (zn (zq (zt ?_))))
 cases h
 exact zT Tryd.results43
 refine zw 16 false ?_
 refine zg ?_
 refine zg ?_
 refine zg ?_
 refine zg ?_
 refine zU (zl (zn ?_))
 rcases zI h with ⟨h7, h⟩ | ⟨h7, h⟩
 refine zi (zs (zr ?_))
 refine zU (zl (zn (zq (zt ?_))))
 cases h
 exact zT Tryd.results43
 refine zj (zk (zn (zs (zs (zr ?_)))))
 refine zU (zl (zn (zb ?_)))
 obtain ⟨o8, h9, h⟩ := zB h
 refine zO (fun (s : Int) => ⟨[(1, .loc 1 1 0 0), (23, .p (.slc (List.map PV.str t1.Attrs))), (24, .p (.int .i64 (t1.Attrs.length : Int))), (25, .p (.int .i64 s))], [(1, .arr 28 3 1 [.p (encTable t1)])]⟩) (fun (o : (Unit) ⊕ (Int)) => match o with | .inl o10 => tE (cX Tryd.f43 X w D hT) (.exit 0) ⟨[(1, .loc 1 1 0 0)], [(1, .arr 28 3 1 [.p (encTable t1)])]⟩ | .inr o11 => tR Tryd.prog Tryd.f43 (.int .i64 o11)) h9 ?_ ?_
 clear h h4 h5 h6 h7 h9
 intro t12 x h
 simp only [table_Valid_l1] at h
 refine zs (zr ?_)
 refine zU (zl (zn (zs ?_)))
 rcases zI h with ⟨h13, h⟩ | ⟨h13, h⟩
 refine zi (zk (zn (zs (zb (zs (zr ?_))))))
 obtain ⟨x14, h15, h15a, h15b, h⟩ := zX h
 refine zU (zl (zn (zs (zr ?_))))
 refine zU ?_
 obtain ⟨r16, h17, h⟩ := zB h
 refine zc (table_isName_con x14 _ h17) ?_
 refine zU ?_
 rcases zI h with ⟨h18, h⟩ | ⟨h18, h⟩
 refine zw 33 false ?_
 refine zg ?_
 refine zg ?_
 refine zg ?_
 obtain ⟨h19, h⟩ := ite_some h
 obtain ⟨h20, h⟩ := ite_some h
 refine zg ?_
 refine zg ?_
 obtain ⟨r21, h22, h⟩ := zB h
 refine zc (slices_Contains_string_con (t1.Attrs.take (t12.toNat)) x14 _ h22) ?_
 refine zU (zl (zn ?_))
 rcases zI h with ⟨h23, h⟩ | ⟨h23, h⟩
 refine zi (zs (zr ?_))
 refine zU (zl (zn (zq (yr (zt ?_)))))
 cases h
 exact ⟨rfl, zT Tryd.results43⟩
 refine zj (zk (yn (zn (zr ?_))))
 refine zU (zl ?_)
 cases h
 exact ⟨rfl, zE⟩
 refine zw 33 true ?_
 refine zh ?_
 refine zU (zl (zn ?_))
 refine zi (zs (zr ?_))
 refine zU (zl (zn (zq (yr (zt ?_)))))
 cases h
 exact ⟨rfl, zT Tryd.results43⟩
 refine zj (zx (ze ?_))
 cases h
 exact ⟨rfl, zE⟩
 rcases o8 with ⟨⟩ | r24
 try simp only at h
 refine zA (yh (zn (zs (zr ?_))))
 refine zU (zl (zn (zs (zs (zr ?_)))))
 refine zU (zl (zn (zb ?_)))
 obtain ⟨o25, h26, h⟩ := zB h
 refine zO (fun (s : Int × Int) => ⟨[(1, .loc 1 1 0 0), (5, .p (.int .i64 s.1)), (43, .p (.slc (List.map encRow t1.Rows))), (44, .p (.int .i64 (t1.Rows.length : Int))), (45, .p (.int .i64 s.2))], [(1, .arr 28 3 1 [.p (encTable t1)])]⟩) (fun (o : (Unit) ⊕ (Int)) => match o with | .inl o27 => tE (cX Tryd.f43 X w D hT) (.exit 2) ⟨[], []⟩ | .inr o28 => tR Tryd.prog Tryd.f43 (.int .i64 o28)) h26 ?_ ?_
 clear h h4 h5 h6 h7 h9 h26
 intro s x h
 obtain ⟨l29, t30⟩ := s
 simp only [table_Valid_l2] at h
 dsimp only
 refine zs (zr ?_)
 refine zU (zl (zn (zs ?_)))
 rcases zI h with ⟨h31, h⟩ | ⟨h31, h⟩
 refine zi (zk (zn (zs (zb (zs (zr ?_))))))
 obtain ⟨x32, h33, h33a, h33b, h⟩ := zX h
 refine zU (zl (zn (zs (zb (zs (zr ?_))))))
 refine zU (zl (zn ?_))
 rcases zI h with ⟨h34, h⟩ | ⟨h34, h⟩
 refine zi (zs (zr ?_))
 refine zU (zl (zn (zq (yr (zt (yr (zt ?_)))))))
 cases h
 exact ⟨rfl, zT Tryd.results43⟩
 refine zj (zs (zr ?_))
 refine zU (zl (zn ?_))
 rcases zI h with ⟨h35, h⟩ | ⟨h35, h⟩
 refine zi (zs (zr ?_))
 refine zU (zl (zn (zq (yr (zt (yr (zt ?_)))))))
 cases h
 exact ⟨rfl, zT Tryd.results43⟩
 refine zj (zs (zr ?_))
 refine zU ?_
 obtain ⟨r36, h37, h⟩ := zB h
 refine zc (table_validValues_con x32.Values _ h37) ?_
 refine zU (zl (zn ?_))
 rcases zI h with ⟨h38, h⟩ | ⟨h38, h⟩
 refine zj (zk (yn (zn (zr ?_))))
 refine zU (zl (yn (zn (zr ?_))))
 refine zU (zl ?_)
 cases h
 exact ⟨rfl, zE⟩
 refine zi (zs (zr ?_))
 refine zU (zl (zn (zq (yr (zt (yr (zt ?_)))))))
 cases h
 exact ⟨rfl, zT Tryd.results43⟩
 refine zj (zx (ze ?_))
 cases h
 exact ⟨rfl, zE⟩
 rcases o25 with ⟨⟩ | r39
 try simp only at h
 refine zA (yh (zn (zs (zr ?_))))
 refine zU (zl (zn (zq ?_)))
 cases h
 exact zT Tryd.results43
 try simp only at h
 refine zZ fun s hq => ?_
 refine yr (zt ?_)
 cases h
 exact hq
 try simp only at h
 refine zZ fun s hq => ?_
 refine yr (zt ?_)
 cases h
 exact hq
 refine zi (zs (zr ?_))
 refine zU (zl (zn (zq (zt ?_))))
 cases h
 exact zT Tryd.results43
end Go.Proofs.YtjcdclpfeflfkaaDoor
set_option linter.unusedVariables false
set_option linter.unusedSimpArgs false
namespace Go.Proofs.YtjcdclpfeflfkaaDoor
open Go Go.Ab
set_option maxHeartbeats 4000000 in
theorem approx_known_con {D : Prop} (t1 : Table) (f2 : List FD) (r3 : Int) (h : approx_known t1 f2 = some r3) : Con D Tryd.prog 25 [(encTable t1), (.slc (List.map encFD f2))] (.int .i64 r3) := by
 refine zP Tryd.call25 Tryd.func25 rfl Tryd.ntmps25 fun X w hT => ?_
 simp only [approx_known] at h
 refine zs (zr ?_)
 refine zU (zl (zn (zs (zs (zr ?_)))))
 refine zU ?_
 obtain ⟨r4, h5, h⟩ := zB h
 refine zc (table_Valid_con t1 _ h5) ?_
 refine zU (zl (zn (zs (zr ?_))))
 refine zU (zl (zn ?_))
 rcases zI h with ⟨h6, h⟩ | ⟨h6, h⟩
 refine zi (zs (zr ?_))
 refine zU (zl (zn (zq (zt ?_))))
 cases h
 exact zT Tryd.results25
 refine zj (zk (zn (zs (zs (zr ?_)))))
 refine zU (zl (zn (zb ?_)))
 obtain ⟨o7, h8, h⟩ := zB h
 refine zO (fun (s : Int) => ⟨[(2, .loc 2 1 0 0), (13, .p (.slc (List.map encFD f2))), (14, .p (.int .i64 (f2.length : Int))), (15, .p (.int .i64 s))], [(2, .arr 28 3 1 [.p (encTable t1)])]⟩) (fun (o : (Unit) ⊕ (Int)) => match o with | .inl o9 => tE (cX Tryd.f25 X w D hT) (.exit 0) ⟨[], []⟩ | .inr o10 => tR Tryd.prog Tryd.f25 (.int .i64 o10)) h8 ?_ ?_
 clear h h5 h6 h8
 intro t11 x h
 simp only [approx_known_l1] at h
 refine zs (zr ?_)
 refine zU (zl (zn (zs ?_)))
 rcases zI h with ⟨h12, h⟩ | ⟨h12, h⟩
 refine zi (zk (zn (zs (zb (zs (zr ?_))))))
 obtain ⟨x13, h14, h14a, h14b, h⟩ := zX h
 refine zU (zl (zn (zs (zr ?_))))
 obtain ⟨h15, h⟩ := ite_none h
 refine zU (zl (zn ?_))
 rcases zI h with ⟨h16, h⟩ | ⟨h16, h⟩
 refine zi (zs (zr ?_))
 refine zU (zl (zn (zq (yr (zt ?_)))))
 cases h
 exact ⟨rfl, zT Tryd.results25⟩
 refine zj (zk (yn (zn (zr ?_))))
 refine zU (zl ?_)
 cases h
 exact ⟨rfl, zE⟩
 refine zj (zx (ze ?_))
 cases h
 exact ⟨rfl, zE⟩
 rcases o7 with ⟨⟩ | r17
 try simp only at h
 refine zA (yh (zn (zs (zr ?_))))
 refine zU (zl (zn (zq ?_)))
 cases h
 exact zT Tryd.results25
 try simp only at h
 refine zZ fun s hq => ?_
 refine yr (zt ?_)
 cases h
 exact hq
end Go.Proofs.YtjcdclpfeflfkaaDoor
set_option linter.unusedVariables false
set_option linter.unusedSimpArgs false
namespace Go.Proofs.YtjcdclpfeflfkaaDoor
open Go Go.Ab
set_option maxHeartbeats 4000000 in
theorem partition_within_con {D : Prop} (t1 : Table) (s2 : Int) (r3 : Bool) (h : partition_within t1 s2 = some r3) : Con D Tryd.prog 58 [(encTable t1), (.int .u32 s2)] (.bool r3) := by
 refine zP Tryd.call58 Tryd.func58 rfl Tryd.ntmps58 fun X w hT => ?_
 simp only [partition_within] at h
 refine zs (zr ?_)
 refine zU (zl (zn (zs (zr ?_))))
 obtain ⟨h4, h⟩ := ite_none h
 refine zU (zl (zn (zq ?_)))
 cases h
 exact zT Tryd.results58
end Go.Proofs.YtjcdclpfeflfkaaDoor
namespace Go.Proofs
open Go Go.Ab Go.Shelf
def YtjcdclpfeflfkaaDoor.bwr_ren : Go.Shelf.Ren := ⟨fun | 166 => 87 | 169 => 88 | 240 => 105 | 276 => 111 | n => n, fun | 0 => 0 | 3 => 3 | 4 => 4 | 9 => 9 | 20 => 20 | 37 => 81 | 70 => 135 | 72 => 137 | 75 => 141 | 80 => 144 | 164 => 166 | 5 => 5 | 127 => 157 | n => n, fun | n => n⟩
theorem YtjcdclpfeflfkaaDoor.bwr : Go.Proofs.Lays.n166 Tryd.prog YtjcdclpfeflfkaaDoor.bwr_ren := {
  mixed := by kernel_rfl
  f166 := Tryd.func87.trans (congrArg some (by kernel_rfl))
  f240 := Tryd.func105.trans (congrArg some (by kernel_rfl))
  f276 := Tryd.func111.trans (congrArg some (by kernel_rfl))
  t0 := Tryd.underlying0
  a0 := Tryd.isAgg0
  z0 := Tryd.sizeOf0
  v0 := Tryd.zeroValue0
  t3 := Tryd.underlying3
  a3 := Tryd.isAgg3
  z3 := Tryd.sizeOf3
  v3 := Tryd.zeroValue3
  t4 := Tryd.underlying4
  a4 := Tryd.isAgg4
  z4 := Tryd.sizeOf4
  v4 := Tryd.zeroValue4
  t9 := Tryd.underlying9
  a9 := Tryd.isAgg9
  z9 := Tryd.sizeOf9
  v9 := Tryd.zeroValue9
  t20 := Tryd.underlying20
  a20 := Tryd.isAgg20
  z20 := Tryd.sizeOf20
  v20 := Tryd.zeroValue20
  t37 := Tryd.underlying81
  a37 := Tryd.isAgg81
  z37 := Tryd.sizeOf81
  v37 := Tryd.zeroValue81
  t70 := Tryd.underlying135
  a70 := Tryd.isAgg135
  z70 := Tryd.sizeOf135
  v70 := Tryd.zeroValue135
  t72 := Tryd.underlying137
  a72 := Tryd.isAgg137
  z72 := Tryd.sizeOf137
  v72 := Tryd.zeroValue137
  t75 := Tryd.underlying141
  a75 := Tryd.isAgg141
  z75 := Tryd.sizeOf141
  v75 := Tryd.zeroValue141
  t164 := Tryd.underlying166
  a164 := Tryd.isAgg166
  z164 := Tryd.sizeOf166
  v164 := Tryd.zeroValue166 }
def YtjcdclpfeflfkaaDoor.bst_ren : Go.Shelf.Ren := ⟨fun | 166 => 87 | 169 => 88 | 240 => 105 | 276 => 111 | n => n, fun | 0 => 0 | 3 => 3 | 4 => 4 | 9 => 9 | 20 => 20 | 37 => 81 | 70 => 135 | 72 => 137 | 75 => 141 | 80 => 144 | 164 => 166 | 5 => 5 | 127 => 157 | n => n, fun | n => n⟩
theorem YtjcdclpfeflfkaaDoor.bst : Go.Proofs.Lays.n169 Tryd.prog YtjcdclpfeflfkaaDoor.bst_ren := {
  mixed := by kernel_rfl
  f169 := Tryd.func88.trans (congrArg some (by kernel_rfl))
  t0 := Tryd.underlying0
  a0 := Tryd.isAgg0
  z0 := Tryd.sizeOf0
  v0 := Tryd.zeroValue0
  t3 := Tryd.underlying3
  a3 := Tryd.isAgg3
  z3 := Tryd.sizeOf3
  v3 := Tryd.zeroValue3
  t9 := Tryd.underlying9
  a9 := Tryd.isAgg9
  z9 := Tryd.sizeOf9
  v9 := Tryd.zeroValue9
  t37 := Tryd.underlying81
  a37 := Tryd.isAgg81
  z37 := Tryd.sizeOf81
  v37 := Tryd.zeroValue81
  t70 := Tryd.underlying135
  a70 := Tryd.isAgg135
  z70 := Tryd.sizeOf135
  v70 := Tryd.zeroValue135
  t72 := Tryd.underlying137
  a72 := Tryd.isAgg137
  z72 := Tryd.sizeOf137
  v72 := Tryd.zeroValue137
  t127 := Tryd.underlying157
  a127 := Tryd.isAgg157
  z127 := Tryd.sizeOf157
  v127 := Tryd.zeroValue157 }
theorem YtjcdclpfeflfkaaDoor.bwrX : Builder.Extra Tryd.prog YtjcdclpfeflfkaaDoor.bwr_ren where
  sizeBuilder := by kernel_rfl
  liesBuilder := by kernel_rfl
  t5 := Tryd.underlying5
  a5 := Tryd.isAgg5
  z5 := Tryd.sizeOf5
  v5 := Tryd.zeroValue5
  infoByte := by kernel_rfl
  cellsByte := by kernel_rfl
  sizeByte := by kernel_rfl
  neB5 := by decide
theorem YtjcdclpfeflfkaaDoor.bstX : Builder.Extra Tryd.prog YtjcdclpfeflfkaaDoor.bst_ren where
  sizeBuilder := by kernel_rfl
  liesBuilder := by kernel_rfl
  t5 := Tryd.underlying5
  a5 := Tryd.isAgg5
  z5 := Tryd.sizeOf5
  v5 := Tryd.zeroValue5
  infoByte := by kernel_rfl
  cellsByte := by kernel_rfl
  sizeByte := by kernel_rfl
  neB5 := by decide
theorem YtjcdclpfeflfkaaDoor.bldL (c : Nat) (h : 1 ≤ c) : liesAt Tryd.prog Tryd.prog.depth 137 (c * 2 / Tryd.prog.cellsOf 137) 0 137 1 = true := lies_pair (d := Tryd.prog.depth - 1) (by kernel_rfl) (by kernel_rfl) (by kernel_rfl) c h
theorem YtjcdclpfeflfkaaDoor.bld : Bld Tryd.prog 87 88 137 5 where
  bodyW := Tryd.call87
  bodyS := Tryd.call88
  write := fun b c p v bs s w h1 h2 h3 h4 h5 h6 => (BldX.writeString YtjcdclpfeflfkaaDoor.bwr YtjcdclpfeflfkaaDoor.bwrX b (c * 2) p v (Lib.byteCells bs) ⟨s.toArray⟩ w h2 h3 (YtjcdclpfeflfkaaDoor.bldL c h1) (by rw [Lib.byteCells_length]; exact h4) h5 (by rw [Lib.byteCells_length]; exact h6)).mono fun e w' h => by
    obtain ⟨he, v', q1, q2, q3, q4, q5⟩ := h
    refine ⟨he, v', q1, ?_, q3, q4, q5⟩
    have e1 : Lib.byteCells bs ++ Lib.strCells ⟨s.toArray⟩ = Lib.byteCells (bs ++ s) := by simp [Lib.byteCells, Lib.strCells]
    rw [e1, Lib.byteCells_length] at q2
    rw [List.length_append]; exact q2
  string := fun b n p v l w h1 h2 => BldX.string YtjcdclpfeflfkaaDoor.bst YtjcdclpfeflfkaaDoor.bstX b n p v l w h1 h2
end Go.Proofs
set_option linter.unusedVariables false
set_option linter.unusedSimpArgs false
namespace Go.Proofs.YtjcdclpfeflfkaaDoor
open Go Go.Ab
set_option maxRecDepth 20000 in
set_option maxHeartbeats 4000000 in
theorem bits_TrailingZeros32_con {D : Prop} (x : Int) (r : Int) (h : bits_TrailingZeros32 x = some r) : Con D Tryd.prog 103 [(.int .u32 x)] (.int .i64 r) := by
 obtain ⟨hx, h⟩ := ite_some h
 obtain ⟨n, rfl⟩ := Int.eq_ofNat_of_zero_le hx.1
 have hn : n < 4294967296 := by omega
 replace h := Option.some.inj h
 subst h
 rw [Int.toNat_natCast]
 refine zP Tryd.call103 Tryd.func103 rfl Tryd.ntmps103 fun X w hT => ?_
 refine zs (zr ?_)
 refine zU (zl (zn ?_))
 by_cases h0 : n = 0
 subst h0
 refine zs (zs (zr ?_))
 refine zU (zl (zn ?_))
 refine zi (zs (zr ?_))
 refine zU (zl (zn (zq (zt ?_))))
 exact zT Tryd.results103
 have hb : ((n : Int) == 0) = false := by simp; omega
 refine zs (zs (zr ?_))
 refine zU (zl (zn ?_))
 refine zj (zk (zn (zs (zr ?_))))
 refine zW 6 ?_
 refine zTab (g := 0) (x := .tmp 10) (k := .u32) (tzI n) (by kernel_rfl) Tryd.underlying165 (tzI_lt n) (by simp only [go_sem, seval, *]; exact tz_idx h0 hn) ?_
 have hw := @wrap_i64t n
 refine zU (zl (zn (zq ?_)))
 have ht : tz32 n = tabNs.getD (tzI n) 0 := if_neg h0
 rw [ht]
 exact zT Tryd.results103
end Go.Proofs.YtjcdclpfeflfkaaDoor
set_option linter.unusedVariables false
set_option linter.unusedSimpArgs false
namespace Go.Proofs.YtjcdclpfeflfkaaDoor
open Go Go.Ab
set_option maxHeartbeats 4000000 in
theorem attrset_Members_con {D : Prop} (s1 : Int) (r2 : List Int) (h : attrset_Members s1 = some r2) : Con D Tryd.prog 85 [(.int .u32 s1)] (.slc (List.map (PV.int .i64) r2)) := by
 refine zP Tryd.call85 Tryd.func85 rfl Tryd.ntmps85 fun X w hT => ?_
 simp only [attrset_Members] at h
 refine zs (zr ?_)
 refine zU (zl (zn (zs (zr ?_))))
 refine zU (zl (zn (zs (zb ?_))))
 obtain ⟨o3, h4, h⟩ := zB h
 refine zO (fun (s : Int × List Int) => ⟨[(0, .p (.int .u32 s.1)), (3, .own 14 1 0 s.2.length)], [(14, .arr 3 1 1 (List.map AV.p (List.map (PV.int .i64) s.2)))]⟩) (fun (o5 : List Int) => tE (cX Tryd.f85 X w D hT) (.exit 0) ⟨[(3, .own 14 1 0 o5.length)], [(14, .arr 3 1 1 (List.map AV.p (List.map (PV.int .i64) o5)))]⟩) h4 ?_ ?_
 clear h h4
 intro s x h
 obtain ⟨s6, o7⟩ := s
 simp only [attrset_Members_l1] at h
 dsimp only
 refine zs (zs (zr ?_))
 refine zU (zl (zn ?_))
 rcases zI h with ⟨h8, h⟩ | ⟨h8, h⟩
 refine zi (zk (zn (zs (zb (zr ?_)))))
 refine zU ?_
 obtain ⟨r9, h10, h⟩ := zB h
 refine zc (bits_TrailingZeros32_con s6 _ h10) ?_
 obtain ⟨h11, h⟩ := ite_some h
 refine zU (zl (yn (zn (zr ?_))))
 refine zU (zl ?_)
 cases h
 exact ⟨rfl, zE⟩
 refine zj (zx (ze ?_))
 cases h
 exact ⟨rfl, zE⟩
 try simp only at h
 refine zA (yh (zn (zs (zr ?_))))
 refine zU (zl (zn (zq ?_)))
 cases h
 exact zT Tryd.results85
end Go.Proofs.YtjcdclpfeflfkaaDoor
set_option linter.unusedVariables false
set_option linter.unusedSimpArgs false
namespace Go.Proofs.YtjcdclpfeflfkaaDoor
open Go Go.Ab
set_option maxHeartbeats 4000000 in
theorem value_Key_con {D : Prop} (v1 : Value) (r2 : List UInt8 × Int) (h : value_Key v1 = some r2) : Con D Tryd.prog 86 [(encValue v1)] (.tup [(.str r2.1), (.int .i64 r2.2)]) := by
 refine zP Tryd.call86 Tryd.func86 rfl Tryd.ntmps86 fun X w hT => ?_
 simp only [value_Key] at h
 refine zs (zr ?_)
 refine zU (zl (zn (zs (zs (zr ?_)))))
 refine zU ?_
 obtain ⟨r3, h4, h⟩ := zB h
 refine zc (value_Valid_con v1 _ h4) ?_
 refine zU (zl (zn ?_))
 rcases zI h with ⟨h5, h⟩ | ⟨h5, h⟩
 refine zj (zk (zn (zs (zr ?_))))
 refine zU (zl (zn (zs (zs (zr ?_)))))
 refine zU (zl (zn (zb (zs (zs (zr ?_))))))
 refine zU (zl (zn ?_))
 rcases zI h with ⟨h6, h⟩ | ⟨h6, h⟩
 refine zi (zk (zn ?_))
 refine zi (zr ?_)
 refine zU ?_
 refine zM ⟨[(18, .own 12 1 0 1), (20, .p (.int .i64 v1.Num))], [(12, .arr 5 1 1 [.p (.int .u8 (IntKind.u8.wrap v1.Kind))])]⟩ ?_
 refine AL_inline (avs := [.own 12 1 0 1, .p (.int .i64 v1.Num)]) 51 rfl (guard_none rfl) rfl Tryd.func104 rfl Tryd.call104 Tryd.ntmps104 (by simp) (by simp only [go_sem, seval, h5, h6]; all_goals rfl) ?_
 intro i7 w8 h9
 show AWp _ _ _ ⟨[(0, .own 12 1 0 1), (1, .p (.int .i64 v1.Num))], [(12, .arr 5 1 1 [.p (.int .u8 (IntKind.u8.wrap v1.Kind))])]⟩
 refine zs (zr ?_)
 refine zU (zl (zn (zs (zr ?_))))
 refine zU (zl (zn (zs (zs (zr ?_)))))
 refine zU (zl (zn (zb ?_)))
 obtain ⟨o10, h11, h⟩ := zB h
 refine zO (fun (s : List Int × Int) => ⟨[(0, .own 12 2 0 s.1.length), (5, .p (.int .u64 (IntKind.u64.wrap ((BitVec.ofInt 64 (IntKind.u64.wrap v1.Num) ^^^ (9223372036854775808#64)).toNat : Int)))), (6, .p (.int .i64 s.2))], [(12, .arr 5 1 2 (List.map AV.p (List.map (PV.int .u8) s.1)))]⟩) (fun (o12 : List Int) => tE ⟨Tryd.prog, 22, 51, X, [(12, .arr 5 1 1 [.p (.int .u8 (IntKind.u8.wrap v1.Kind))])], i7, w8, D, h9⟩ (.exit 0) ⟨[(0, .own 12 2 0 o12.length)], [(12, .arr 5 1 2 (List.map AV.p (List.map (PV.int .u8) o12)))]⟩) h11 ?_ ?_
 clear h h4 h5 h6 h11
 intro s x h
 obtain ⟨o13, s14⟩ := s
 simp only [value_Key_l1] at h
 dsimp only
 refine zs (zs (zr ?_))
 refine zU (zl (zn ?_))
 rcases zI h with ⟨h15, h⟩ | ⟨h15, h⟩
 refine zi (zk (zn (zs (zb (zr ?_)))))
 obtain ⟨h16, h⟩ := ite_none h
 obtain ⟨h17, h⟩ := ite_some h
 refine zU (zl (yn (zn (zr ?_))))
 refine zU (zl ?_)
 cases h
 exact ⟨rfl, zE⟩
 refine zj (zx (ze ?_))
 cases h
 exact ⟨rfl, zE⟩
 try simp only at h
 refine zA (yh (zn (zs (zr ?_))))
 refine zU (zl (zn (zq ?_)))
 refine inlQ_ret (by simp only [Tryd.results104]; simp only [go_sem, seval, h5, h6]; exact rfl) ?_
 refine zU (zl (yn (zn (zs (zr ?_)))))
 refine zU (zl (zn (zq ?_)))
 cases h
 exact zT Tryd.results86
 have h6F := Bool.eq_false_iff.2 h6
 refine zj (zr ?_)
 refine zU (zl (zn ?_))
 rcases zI h with ⟨h18, h⟩ | ⟨h18, h⟩
 refine zi (zr ?_)
 refine zU ?_
 refine zM ⟨[(18, .own 12 1 0 1), (20, .p (.int .i64 v1.Num))], [(12, .arr 5 1 1 [.p (.int .u8 (IntKind.u8.wrap v1.Kind))])]⟩ ?_
 refine AL_inline (avs := [.own 12 1 0 1, .p (.int .i64 v1.Num)]) 73 rfl (guard_none rfl) rfl Tryd.func104 rfl Tryd.call104 Tryd.ntmps104 (by simp) (by simp only [go_sem, seval, h5, h6F, h18]; all_goals rfl) ?_
 intro i19 w20 h21
 show AWp _ _ _ ⟨[(0, .own 12 1 0 1), (1, .p (.int .i64 v1.Num))], [(12, .arr 5 1 1 [.p (.int .u8 (IntKind.u8.wrap v1.Kind))])]⟩
 refine zs (zr ?_)
 refine zU (zl (zn (zs (zr ?_))))
 refine zU (zl (zn (zs (zs (zr ?_)))))
 refine zU (zl (zn (zb ?_)))
 obtain ⟨o22, h23, h⟩ := zB h
 refine zO (fun (s : List Int × Int) => ⟨[(0, .own 12 2 0 s.1.length), (5, .p (.int .u64 (IntKind.u64.wrap ((BitVec.ofInt 64 (IntKind.u64.wrap v1.Num) ^^^ (9223372036854775808#64)).toNat : Int)))), (6, .p (.int .i64 s.2))], [(12, .arr 5 1 2 (List.map AV.p (List.map (PV.int .u8) s.1)))]⟩) (fun (o24 : List Int) => tE ⟨Tryd.prog, 22, 73, X, [(12, .arr 5 1 1 [.p (.int .u8 (IntKind.u8.wrap v1.Kind))])], i19, w20, D, h21⟩ (.exit 0) ⟨[(0, .own 12 2 0 o24.length)], [(12, .arr 5 1 2 (List.map AV.p (List.map (PV.int .u8) o24)))]⟩) h23 ?_ ?_
 clear h h4 h5 h6 h6F h18 h23
 intro s x h
 obtain ⟨o25, s26⟩ := s
 simp only [value_Key_l2] at h
 dsimp only
 refine zs (zs (zr ?_))
 refine zU (zl (zn ?_))
 rcases zI h with ⟨h27, h⟩ | ⟨h27, h⟩
 refine zi (zk (zn (zs (zb (zr ?_)))))
 obtain ⟨h28, h⟩ := ite_none h
 obtain ⟨h29, h⟩ := ite_some h
 refine zU (zl (yn (zn (zr ?_))))
 refine zU (zl ?_)
 cases h
 exact ⟨rfl, zE⟩
 refine zj (zx (ze ?_))
 cases h
 exact ⟨rfl, zE⟩
 try simp only at h
 refine zA (yh (zn (zs (zr ?_))))
 refine zU (zl (zn (zq ?_)))
 refine inlQ_ret (by simp only [Tryd.results104]; simp only [go_sem, seval, h5, h6F, h18]; exact rfl) ?_
 refine zU (zl (yn (zn (zs (zr ?_)))))
 refine zU (zl (zn (zq ?_)))
 cases h
 exact zT Tryd.results86
 have h18F := Bool.eq_false_iff.2 h18
 refine zj (zs (zr ?_))
 refine zU (zl (zn ?_))
 rcases zI h with ⟨h30, h⟩ | ⟨h30, h⟩
 refine zi (zs (zs (zr ?_)))
 refine zU (zl (zn (zb ?_)))
 obtain ⟨o31, h32, h⟩ := zB h
 refine zO (fun (s : List Int × Int) => ⟨[(1, .loc 1 1 0 0), (4, .own 12 1 0 s.1.length), (26, .p (.int .i64 (v1.Str.length : Int))), (27, .p (.int .i64 s.2))], [(1, .arr 83 3 1 [.p (encValue v1)]), (12, .arr 5 1 1 (List.map AV.p (List.map (PV.int .u8) s.1)))]⟩) (fun (o33 : List Int) => tE (cX Tryd.f86 X w D hT) (.exit 1) ⟨[(4, .own 12 1 0 o33.length)], [(12, .arr 5 1 1 (List.map AV.p (List.map (PV.int .u8) o33)))]⟩) h32 ?_ ?_
 clear h h4 h5 h6 h6F h18 h18F h30 h32
 intro s x h
 obtain ⟨o34, t35⟩ := s
 simp only [value_Key_l3] at h
 dsimp only
 refine zs (zr ?_)
 refine zU (zl (zn (zs ?_)))
 rcases zI h with ⟨h36, h⟩ | ⟨h36, h⟩
 refine zi (zk (zn (zs (zb (zs (zr ?_))))))
 refine zU (zl (zn (zs (zr ?_))))
 obtain ⟨c37, h38, h38a, h38b, h⟩ := zX h
 obtain ⟨h39, h⟩ := ite_some h
 refine zU (zl (zn (zs (zr ?_))))
 refine zU (zl (zn ?_))
 rcases zI h with ⟨h40, h⟩ | ⟨h40, h⟩
 refine zi (zr ?_)
 obtain ⟨h41, h⟩ := ite_some h
 refine zU (zl (yn (zn (zr ?_))))
 refine zU (zl ?_)
 cases h
 exact ⟨rfl, zE⟩
 refine zj (zk (yn (zn (zr ?_))))
 refine zU (zl ?_)
 cases h
 exact ⟨rfl, zE⟩
 refine zj (zx (ze ?_))
 cases h
 exact ⟨rfl, zE⟩
 try simp only at h
 refine zA (yh (zn (zr ?_)))
 obtain ⟨h42, h⟩ := ite_some h
 refine zU (zl (yn (zn (zs (zr ?_)))))
 refine zU (zl (zn (zq ?_)))
 cases h
 exact zT Tryd.results86
 have h30F := Bool.eq_false_iff.2 h30
 refine zj (zk (yn (zn (zs (zr ?_)))))
 refine zW 1 ?_
 obtain ⟨l43, h44, h⟩ := zB h
 replace h44 := Option.some.inj h44
 refine AL_le (st' := ⟨[(49, .own 12 1 0 l43.length)], [(12, .arr 5 1 1 (List.map AV.p (List.map (PV.int .u8) l43)))]⟩) (by simp only [go_sem, seval, h5, h6F, h18F, h30F, ← h44]; all_goals ((repeat' refine And.intro ?_ ?_) <;> first | rfl | (simp; done) | (simp; rfl) | (simp [*]; done) | (simp [*]; rfl))) ?_
 have h44n : l43.length = 1 := by rw [← h44]; rfl
 clear h44
 refine zU (zl (zn (zq ?_)))
 cases h
 exact zT Tryd.results86
 refine zi (zs (zr ?_))
 refine zU (zl (zn (zq (zt ?_))))
 cases h
 exact zT Tryd.results86
end Go.Proofs.YtjcdclpfeflfkaaDoor
set_option linter.unusedVariables false
set_option linter.unusedSimpArgs false
namespace Go.Proofs.YtjcdclpfeflfkaaDoor
open Go Go.Ab
set_option maxHeartbeats 4000000 in
theorem partition_groups_string_c1_con {D : Prop} (c1 : List Int) (r2 : Bool) (h : partition_groups_string_c1 c1 = some r2) : Con D Tryd.prog 107 [(.slc (List.map (PV.int .i64) c1))] (.bool r2) := by
 refine zP Tryd.call107 Tryd.func107 rfl Tryd.ntmps107 fun X w hT => ?_
 simp only [partition_groups_string_c1] at h
 refine zs (zr ?_)
 refine zU (zl (zn (zs (zr ?_))))
 refine zU (zl (zn (zq ?_)))
 cases h
 exact zT Tryd.results107
end Go.Proofs.YtjcdclpfeflfkaaDoor
set_option linter.unusedVariables false
set_option linter.unusedSimpArgs false
namespace Go.Proofs.YtjcdclpfeflfkaaDoor
open Go Go.Ab
set_option maxHeartbeats 4000000 in
theorem slices_IndexFunc_Lint_con {D : Prop} (s1 : List (List Int)) (f2 : (List Int) → Option (Bool)) (f2_k : FuncId) (f2_cs : List PV) (f2_h : ∀ (y3 : List Int) (r4 : Bool), f2 y3 = some r4 → Con D Tryd.prog f2_k ((.slc (List.map (PV.int .i64) y3)) :: f2_cs) (.bool r4)) (r5 : Int) (h : slices_IndexFunc_Lint s1 f2 = some r5) : Con D Tryd.prog 112 [(.slc (List.map (encL (PV.int .i64)) s1)), .func (.func f2_k) f2_cs] (.int .i64 r5) := by
 refine zP Tryd.call112 Tryd.func112 rfl Tryd.ntmps112 fun X w hT => ?_
 simp only [slices_IndexFunc_Lint] at h
 refine zs (zr ?_)
 refine zU (zl (zn (zs (zs (zr ?_)))))
 refine zU (zl (zn (zb ?_)))
 obtain ⟨o6, h7, h⟩ := zB h
 refine zO (fun (s : Int) => ⟨[(0, .p (.slc (List.map (encL (PV.int .i64)) s1))), (1, .p (.func (.func f2_k) f2_cs)), (7, .p (.int .i64 (s1.length : Int))), (8, .p (.int .i64 s))], []⟩) (fun (o : (Unit) ⊕ (Int)) => match o with | .inl o8 => tE (cX Tryd.f112 X w D hT) (.exit 0) ⟨[], []⟩ | .inr o9 => tR Tryd.prog Tryd.f112 (.int .i64 o9)) h7 ?_ ?_
 clear h h7
 intro t10 x h
 simp only [slices_IndexFunc_Lint_l1] at h
 refine zs (zr ?_)
 refine zU (zl (zn (zs ?_)))
 rcases zI h with ⟨h11, h⟩ | ⟨h11, h⟩
 refine zi (zk (zn (zs (zb (zs (zr ?_))))))
 refine zU (zl (zn (zs (zr ?_))))
 obtain ⟨x12, h13, h13a, h13b, h⟩ := zX h
 refine zU ?_
 obtain ⟨r14, h15, h⟩ := zB h
 refine zc (f2_h x12 _ h15) ?_
 refine zl (zn ?_)
 rcases zI h with ⟨h16, h⟩ | ⟨h16, h⟩
 refine zi (zs (zr ?_))
 refine zU (zl (zn (zq (yr (zt ?_)))))
 cases h
 exact ⟨rfl, zT Tryd.results112⟩
 refine zj (zk (yn (zn (zr ?_))))
 refine zU (zl ?_)
 cases h
 exact ⟨rfl, zE⟩
 refine zj (zx (ze ?_))
 cases h
 exact ⟨rfl, zE⟩
 rcases o6 with ⟨⟩ | r17
 try simp only at h
 refine zA (yh (zn (zs (zr ?_))))
 refine zU (zl (zn (zq ?_)))
 cases h
 exact zT Tryd.results112
 try simp only at h
 refine zZ fun s hq => ?_
 refine yr (zt ?_)
 cases h
 exact hq
end Go.Proofs.YtjcdclpfeflfkaaDoor
set_option linter.unusedVariables false
set_option linter.unusedSimpArgs false
namespace Go.Proofs.YtjcdclpfeflfkaaDoor
open Go Go.Ab
set_option maxHeartbeats 4000000 in
theorem partition_groups_string_con {D : Prop} (k1 : List (List UInt8)) (r2 : List (List Int)) (h : partition_groups_string k1 = some r2) : Con D Tryd.prog 89 [(.slc (List.map PV.str k1))] (.slc (List.map (encL (PV.int .i64)) r2)) := by
 refine zP Tryd.call89 Tryd.func89 rfl Tryd.ntmps89 fun X w hT => ?_
 simp only [partition_groups_string] at h
 refine zs (zr ?_)
 refine zU (zl (zn (zs (zr ?_))))
 refine zU (zl (zn (zs (zr ?_))))
 refine zU (zl (zn (zs (zs (zr ?_)))))
 refine zU (zl (zn (zb ?_)))
 obtain ⟨a3, h4, h⟩ := zB h
 refine zO (fun (s : (List (List UInt8 × Int)) × List (List Int) × Int) => ⟨[(3, .mapo 9 1), (4, .own 32 1 0 s.2.1.length), (10, .p (.slc (List.map PV.str k1))), (11, .p (.int .i64 (k1.length : Int))), (12, .p (.int .i64 s.2.2))], ((9, .map 1 (List.map AV.p (encK PV.str s.1)) (List.map AV.p (encW (PV.int .i64) s.1))) :: (32, .arr 69 1 1 (famR 32 3 1 1 (PV.int .i64) s.2.1)) :: famL 32 3 1 1 (PV.int .i64) s.2.1 [])⟩) (fun (o5 : List (List Int)) => tE (cX Tryd.f89 X w D hT) (.exit 0) ⟨[(4, .own 32 1 0 o5.length)], ((32, .arr 69 1 1 (famR 32 3 1 1 (PV.int .i64) o5)) :: famL 32 3 1 1 (PV.int .i64) o5 [])⟩) h4 ?_ ?_
 clear h h4
 intro s x h
 obtain ⟨a6, a7, t8⟩ := s
 simp only [partition_groups_string_l1] at h
 dsimp only
 refine zs (zr ?_)
 refine zU (zl (zn (zs ?_)))
 rcases zI h with ⟨h9, h⟩ | ⟨h9, h⟩
 refine zi (zk (zn (zs (zb (zs (zr ?_))))))
 obtain ⟨x10, h11, h11a, h11b, h⟩ := zX h
 refine zU (zl (zn (zs (zr ?_))))
 refine zU (zl (zn (zs (zs (zr ?_)))))
 refine zU (zl (zn ?_))
 rcases zI h with ⟨h12, h⟩ | ⟨h12, h⟩
 refine zj (zk (zn (zr ?_)))
 obtain ⟨x13, h14, h14a, h14b, h⟩ := zX h
 obtain ⟨h15, h⟩ := ite_some h
 refine zW 11 ?_
 refine zM ⟨[(3, .mapo 9 1), (4, .own 32 1 0 ((a7.set (((mget a6 x10).getD 0).toNat) (x13 ++ [t8]))).length), (10, .p (.slc (List.map PV.str k1))), (11, .p (.int .i64 (k1.length : Int))), (12, .p (.int .i64 t8))], ((9, .map 1 (List.map AV.p (encK PV.str a6)) (List.map AV.p (encW (PV.int .i64) a6))) :: (32, .arr 69 1 1 (famR 32 3 1 1 (PV.int .i64) (a7.set (((mget a6 x10).getD 0).toNat) (x13 ++ [t8])))) :: famL 32 3 1 1 (PV.int .i64) (a7.set (((mget a6 x10).getD 0).toNat) (x13 ++ [t8])) [])⟩ ?_
 refine zl (yn (zn (zr ?_)))
 refine zU (zl ?_)
 cases h
 exact ⟨rfl, zE⟩
 refine zi (zs (zr ?_))
 refine zU (zl (zn (zs (zr ?_))))
 refine zU (zl (zn (zr ?_)))
 obtain ⟨h16, h⟩ := ite_some h
 refine zW 3 ?_
 refine zM ⟨[(3, .mapo 9 1), (5, .p (.int .i64 t8)), (7, .p (.int .i64 ((a7.length : Nat) : Int))), (10, .p (.slc (List.map PV.str k1))), (11, .p (.int .i64 (k1.length : Int))), (12, .p (.int .i64 t8)), (32, .own 32 1 0 (a7.length + 1))], ((9, .map 1 (List.map AV.p (encK PV.str (mset a6 x10 ((a7.length : Nat) : Int)))) (List.map AV.p (encW (PV.int .i64) (mset a6 x10 ((a7.length : Nat) : Int))))) :: (32, .arr 69 1 1 (famR 32 3 1 1 (PV.int .i64) (a7 ++ [[]]))) :: famL 32 3 1 1 (PV.int .i64) (a7 ++ [[]]) [])⟩ ?_
 refine zU (zl (zn (zr ?_)))
 obtain ⟨x17, h18, h18a, h18b, h⟩ := zX h
 have hx_715C := h18b
 simp only [List.length_append, List.length_set, List.length_cons, List.length_nil, Nat.zero_add] at hx_715C
 have h18N := nat_get h18
 obtain ⟨h19, h⟩ := ite_some h
 refine zW 11 ?_
 refine zM ⟨[(3, .mapo 9 1), (4, .own 32 1 0 (((a7 ++ [[]]).set (((a7.length : Nat) : Int).toNat) (x17 ++ [t8]))).length), (10, .p (.slc (List.map PV.str k1))), (11, .p (.int .i64 (k1.length : Int))), (12, .p (.int .i64 t8))], ((9, .map 1 (List.map AV.p (encK PV.str (mset a6 x10 ((a7.length : Nat) : Int)))) (List.map AV.p (encW (PV.int .i64) (mset a6 x10 ((a7.length : Nat) : Int))))) :: (32, .arr 69 1 1 (famR 32 3 1 1 (PV.int .i64) ((a7 ++ [[]]).set (((a7.length : Nat) : Int).toNat) (x17 ++ [t8])))) :: famL 32 3 1 1 (PV.int .i64) ((a7 ++ [[]]).set (((a7.length : Nat) : Int).toNat) (x17 ++ [t8])) [])⟩ ?_
 refine zl (yn (zn (zr ?_)))
 refine zU (zl ?_)
 cases h
 exact ⟨rfl, zE⟩
 refine zj (zx (ze ?_))
 cases h
 exact ⟨rfl, zE⟩
 try simp only at h
 refine zA (yh (zn (zs (zr ?_))))
 refine zU ?_
 refine zM ⟨[(44, .own 32 1 0 a3.length)], [(32, .arr 69 1 1 (List.map AV.p (List.map (encL (PV.int .i64)) a3)))]⟩ ?_
 refine AL_inline (avs := [.own 32 1 0 a3.length, .p (.func (.func 107) [])]) 46 rfl (guard_none rfl) rfl Tryd.func106 rfl Tryd.call106 Tryd.ntmps106 (by simp) (by simp only [go_sem, seval]; all_goals rfl) ?_
 intro i20 w21 h22
 show AWp _ _ _ ⟨[(0, .own 32 1 0 a3.length), (1, .p (.func (.func 107) []))], [(32, .arr 69 1 1 (List.map AV.p (List.map (encL (PV.int .i64)) a3)))]⟩
 refine zs (zr ?_)
 refine zU (zl (zn (zs (zr ?_))))
 refine zU ?_
 obtain ⟨r23, h24, h⟩ := zB h
 refine zc (slices_IndexFunc_Lint_con a3 (fun (y25 : List Int) => partition_groups_string_c1 y25) 107 [] (fun y25 r h => partition_groups_string_c1_con y25 r h) _ h24) ?_
 refine zU (zl (zn (zs (zs (zr ?_)))))
 refine zU (zl (zn ?_))
 rcases zI h with ⟨h26, h⟩ | ⟨h26, h⟩
 refine zi (zs (zr ?_))
 refine zU (zl (zn (zq (zt ?_))))
 refine inlQ_ret (by simp only [Tryd.results106]; simp only [go_sem, seval, h26]; exact rfl) ?_
 refine zU (zl (zn (zq ?_)))
 cases h
 exact zT Tryd.results89
 have h26F := Bool.eq_false_iff.2 h26
 refine zj (zk (zn (zs (zs (zr ?_)))))
 refine zU (zl (zn (zb ?_)))
 obtain ⟨o27, h28, h⟩ := zB h
 refine zO (fun (s : List (List Int) × Int × Int) => ⟨[(0, .own 32 1 0 s.1.length), (1, .p (.func (.func 107) [])), (5, .p (.int .i64 s.2.1)), (6, .p (.int .i64 s.2.2))], [(32, .arr 69 1 1 (List.map AV.p (List.map (encL (PV.int .i64)) s.1)))]⟩) (fun (o29 : List (List Int) × Int) => tE ⟨Tryd.prog, 42, 46, X, [(32, .arr 69 1 1 (List.map AV.p (List.map (encL (PV.int .i64)) a3)))], i20, w21, D, h22⟩ (.exit 0) ⟨[(0, .own 32 1 0 o29.1.length), (5, .p (.int .i64 o29.2))], [(32, .arr 69 1 1 (List.map AV.p (List.map (encL (PV.int .i64)) o29.1)))]⟩) h28 ?_ ?_
 clear h h4 h24 h26 h26F h28
 intro s x h
 obtain ⟨s30, i31, j32⟩ := s
 simp only [partition_groups_string_l2] at h
 dsimp only
 refine zs (zs (zr ?_))
 refine zU (zl (zn ?_))
 rcases zI h with ⟨h33, h⟩ | ⟨h33, h⟩
 refine zi (zk (zn (zs (zb (zs (zr ?_))))))
 obtain ⟨x34, h35, h35a, h35b, h⟩ := zX h
 refine zU (zl (zn (zs (zr ?_))))
 refine zU ?_
 obtain ⟨r36, h37, h⟩ := zB h
 refine zc (partition_groups_string_c1_con x34 _ h37) ?_
 refine zU (zl (zn ?_))
 rcases zI h with ⟨h38, h⟩ | ⟨h38, h⟩
 refine zj (zk (yn (zn (zr ?_))))
 refine zU (zl ?_)
 cases h
 exact ⟨rfl, zE⟩
 refine zi (zs (zr ?_))
 obtain ⟨x39, h40, h40a, h40b, h⟩ := zX h
 refine zU (zl (zn (zr ?_)))
 refine zU (zl (yn (zn (zr ?_))))
 refine zU (zl ?_)
 cases h
 exact ⟨rfl, zE⟩
 refine zj (zx (ze ?_))
 cases h
 exact ⟨rfl, zE⟩
 obtain ⟨s41, i42⟩ := o27
 try simp only at h
 refine zA (yh (zn (zs (zr ?_))))
 obtain ⟨h43, h⟩ := ite_some h
 obtain ⟨h44, h⟩ := ite_some h
 refine zW 3 ?_
 refine zCn (encL (PV.int .i64)) s41 32 i42.toNat (s41.length - i42.toNat) (by simp only [List.length_set, List.length_append, List.length_replicate] at *; omega) ?_
 refine zM ⟨[(0, .own 32 1 0 ((((s41.take i42.toNat)).length + ((List.replicate (s41.length - i42.toNat) ([] : List Int))).length) + ((s41.drop (i42.toNat + (s41.length - i42.toNat)))).length)), (5, .p (.int .i64 i42))], [(32, .arr 69 1 1 (List.map AV.p (List.map (encL (PV.int .i64)) (((s41.take i42.toNat) ++ (List.replicate (s41.length - i42.toNat) ([] : List Int))) ++ (s41.drop (i42.toNat + (s41.length - i42.toNat)))))))]⟩ ?_
 refine zl (zn (zs (zr ?_)))
 obtain ⟨h45, h⟩ := ite_some h
 obtain ⟨h46, h⟩ := ite_some h
 refine zU (zl (zn ?_))
 refine zL ⟨[(4, .own 32 1 0 i42.toNat)], [(32, .arr 69 1 1 (List.map AV.p (List.map (encL (PV.int .i64)) (((s41.take i42.toNat) ++ (List.replicate (s41.length - i42.toNat) ([] : List Int))) ++ (s41.drop (i42.toNat + (s41.length - i42.toNat)))))))]⟩ ?_
 obtain ⟨l47, h48, h⟩ := zB h
 replace h48 := Option.some.inj h48
 rw [h48]
 obtain ⟨h49, h⟩ := ite_some h
 obtain ⟨l50, h51, h⟩ := zB h
 replace h51 := Option.some.inj h51
 have h51L : l50.length = i42.toNat := by rw [← h51]; exact List.length_take_of_le h49
 refine awp_shrink 4 32 1 i42.toNat 69 1 (es' := List.map AV.p (List.map (encL (PV.int .i64)) l50)) (by exact rfl) (by exact rfl) (by rw [← List.map_take, ← List.map_take, h51]) rfl ?_
 refine zL ⟨[(4, .own 32 2 0 l50.length)], [(32, .arr 69 1 2 (List.map AV.p (List.map (encL (PV.int .i64)) l50)))]⟩ ?_
 clear h51L h49
 refine zq ?_
 refine inlQ_ret (by simp only [Tryd.results106]; simp only [go_sem, seval, h26F]; exact rfl) ?_
 refine zU (zl (zn (zq ?_)))
 cases h
 exact zT Tryd.results89
end Go.Proofs.YtjcdclpfeflfkaaDoor
set_option linter.unusedVariables false
set_option linter.unusedSimpArgs false
namespace Go.Proofs.YtjcdclpfeflfkaaDoor
open Go Go.Ab
set_option maxHeartbeats 4000000 in
theorem partition_of_con (t1 : Table) (s2 : Int) (r3 : Partition) (h : partition_of t1 s2 = some r3) : Con False Tryd.prog 59 [(encTable t1), (.int .u32 s2)] (encPartition r3) := by
 refine zP Tryd.call59 Tryd.func59 rfl Tryd.ntmps59 fun X w hT => ?_
 simp only [partition_of] at h
 refine zs (zr ?_)
 refine zU (zl (zn (zs (zr ?_))))
 refine zU ?_
 obtain ⟨r4, h5, h⟩ := zB h
 refine zc (attrset_Members_con s2 _ h5) ?_
 refine zU (zl (zn (zs (zr ?_))))
 obtain ⟨h6, h⟩ := ite_some h
 obtain ⟨h7, h⟩ := ite_some h
 refine zU (zl (zn (zs (zs (zr ?_)))))
 refine zU (zl (zn (zb ?_)))
 obtain ⟨k8, h9, h⟩ := zB h
 refine zO (fun (s : List (List UInt8) × Int) => ⟨[(2, .loc 2 1 0 0), (4, .loc 4 1 0 0), (5, .p (.slc (List.map (PV.int .i64) r4))), (6, .own 19 1 0 s.1.length), (21, .p (.slc (List.map encRow t1.Rows))), (22, .p (.int .i64 (t1.Rows.length : Int))), (23, .p (.int .i64 s.2))], [(2, .arr 28 3 1 [.p (encTable t1)]), (4, .arr 93 2 1 [.agg [.p (.int .i64 0), .nils]]), (19, .arr 9 1 1 (List.map AV.p (List.map PV.str s.1)))]⟩) (fun (o10 : List (List UInt8)) => tE (cX Tryd.f59 X w False hT) (.exit 0) ⟨[(2, .loc 2 1 0 0), (4, .loc 4 1 0 0), (6, .own 19 1 0 o10.length)], [(2, .arr 28 3 1 [.p (encTable t1)]), (4, .arr 93 2 1 [.agg [.p (.int .i64 0), .nils]]), (19, .arr 9 1 1 (List.map AV.p (List.map PV.str o10)))]⟩) h9 ?_ ?_
 clear h h5 h6 h7 h9
 intro s x h
 obtain ⟨k11, t12⟩ := s
 simp only [partition_of_l4] at h
 dsimp only
 refine zs (zr ?_)
 refine zU (zl (zn (zs ?_)))
 rcases zI h with ⟨h13, h⟩ | ⟨h13, h⟩
 refine zi (zk (zn (zs (zb (zs (zr ?_))))))
 obtain ⟨x14, h15, h15a, h15b, h⟩ := zX h
 refine zU (zl (zn (zs (zr ?_))))
 refine zU (zl (zn (zs (zs (zr ?_)))))
 refine zU (zl (zn (zb ?_)))
 obtain ⟨o16, h17, h⟩ := zB h
 refine zO (fun (s : Bool × List UInt8 × Int) => ⟨[(2, .loc 2 1 0 0), (4, .loc 4 1 0 0), (5, .p (.slc (List.map (PV.int .i64) r4))), (6, .own 19 1 0 k11.length), (7, .p (.int .i64 t12)), (8, .loc 8 1 0 0), (9, .loc 9 1 0 0), (21, .p (.slc (List.map encRow t1.Rows))), (22, .p (.int .i64 (t1.Rows.length : Int))), (23, .p (.int .i64 t12)), (28, .p (.slc (List.map (PV.int .i64) r4))), (29, .p (.int .i64 (r4.length : Int))), (30, .p (.int .i64 s.2.2))], [(2, .arr 28 3 1 [.p (encTable t1)]), (4, .arr 93 2 1 [.agg [.p (.int .i64 0), .nils]]), (8, .arr 40 2 1 [.p (encRow x14)]), (9, .arr 137 2 1 [.agg [(if s.1 = true then .loc 9 1 0 0 else .p .nilp), .own 100009 1 0 s.2.1.length]]), (19, .arr 9 1 1 (List.map AV.p (List.map PV.str k11))), (100009, .arr 5 1 1 (bytesA s.2.1))]⟩) (fun (o18 : Bool × List UInt8) => tE (cX Tryd.f59 X w False hT) (.exit 2) ⟨[(2, .loc 2 1 0 0), (4, .loc 4 1 0 0), (5, .p (.slc (List.map (PV.int .i64) r4))), (6, .own 19 1 0 k11.length), (7, .p (.int .i64 t12)), (9, .loc 9 1 0 0), (21, .p (.slc (List.map encRow t1.Rows))), (22, .p (.int .i64 (t1.Rows.length : Int))), (23, .p (.int .i64 t12))], [(2, .arr 28 3 1 [.p (encTable t1)]), (4, .arr 93 2 1 [.agg [.p (.int .i64 0), .nils]]), (9, .arr 137 2 1 [.agg [(if o18.1 = true then .loc 9 1 0 0 else .p .nilp), .own 100009 1 0 o18.2.length]]), (19, .arr 9 1 1 (List.map AV.p (List.map PV.str k11))), (100009, .arr 5 1 1 (bytesA o18.2))]⟩) h17 ?_ ?_
 clear h h13 h15 h15a h15b h17
 intro s x h
 obtain ⟨b19, b20, t21⟩ := s
 simp only [partition_of_l3] at h
 dsimp only
 refine zs (zr ?_)
 refine zU (zl (zn (zs ?_)))
 rcases zI h with ⟨h22, h⟩ | ⟨h22, h⟩
 refine zi (zk (zn (zs (zb (zs (zr ?_))))))
 obtain ⟨x23, h24, h24a, h24b, h⟩ := zX h
 refine zU (zl (zn (zs (zr ?_))))
 obtain ⟨x25, h26, h26a, h26b, h⟩ := zX h
 refine zU ?_
 obtain ⟨r27, h28, h⟩ := zB h
 refine zc (value_Key_con x25 _ h28) ?_
 refine zU (zl (zn (zr ?_)))
 refine zU ?_
 obtain ⟨h29, h⟩ := ite_some h
 refine zBw bld 9 100009 b20 r27.1 ((b20.length + (r27.1).length)) h29 ?_
 refine zM ⟨[(2, .loc 2 1 0 0), (4, .loc 4 1 0 0), (5, .p (.slc (List.map (PV.int .i64) r4))), (6, .own 19 1 0 k11.length), (7, .p (.int .i64 t12)), (8, .loc 8 1 0 0), (9, .loc 9 1 0 0), (21, .p (.slc (List.map encRow t1.Rows))), (22, .p (.int .i64 (t1.Rows.length : Int))), (23, .p (.int .i64 t12)), (28, .p (.slc (List.map (PV.int .i64) r4))), (29, .p (.int .i64 (r4.length : Int))), (30, .p (.int .i64 t21)), (44, .p (.tup [.int .i64 (r27.1.length : Int), .nili]))], [(2, .arr 28 3 1 [.p (encTable t1)]), (4, .arr 93 2 1 [.agg [.p (.int .i64 0), .nils]]), (8, .arr 40 2 1 [.p (encRow x14)]), (9, .arr 137 2 1 [.agg [.loc 9 1 0 0, .own 100009 1 0 (b20.length + (r27.1).length)]]), (19, .arr 9 1 1 (List.map AV.p (List.map PV.str k11))), (100009, .arr 5 1 1 (bytesA (b20 ++ r27.1)))]⟩ ?_
 refine zl (yn (zn (zr ?_)))
 refine zU (zl ?_)
 cases h
 exact ⟨rfl, zE⟩
 refine zj (zx (ze ?_))
 cases h
 exact ⟨rfl, zE⟩
 obtain ⟨b30, b31⟩ := o16
 try simp only at h
 refine zA (yh (zn (zr ?_)))
 refine zU ?_
 refine zBs bld 9 100009 b31 ?_
 refine zM ⟨[(2, .loc 2 1 0 0), (4, .loc 4 1 0 0), (5, .p (.slc (List.map (PV.int .i64) r4))), (6, .own 19 1 0 k11.length), (21, .p (.slc (List.map encRow t1.Rows))), (22, .p (.int .i64 (t1.Rows.length : Int))), (23, .p (.int .i64 t12)), (46, .own 19 1 0 k11.length), (47, .p (.int .i64 t12)), (48, .p (.str b31))], [(2, .arr 28 3 1 [.p (encTable t1)]), (4, .arr 93 2 1 [.agg [.p (.int .i64 0), .nils]]), (19, .arr 9 1 1 (List.map AV.p (List.map PV.str k11)))]⟩ ?_
 obtain ⟨x32, h33, h33a, h33b, h⟩ := zX h
 refine zU (zl (yn (zn (zr ?_))))
 refine zU (zl ?_)
 cases h
 exact ⟨rfl, zE⟩
 refine zj (zx (ze ?_))
 cases h
 exact ⟨rfl, zE⟩
 try simp only at h
 refine zA (yh (zn (zs ?_)))
 refine zL ⟨[(2, .loc 2 1 0 0), (4, .loc 4 1 0 0), (6, .p (.slc (List.map PV.str k8)))], [(2, .arr 28 3 1 [.p (encTable t1)]), (4, .arr 93 2 1 [.agg [.p (.int .i64 0), .nils]])]⟩ ?_
 refine zd ?_
 refine yU ?_
 obtain ⟨r34, h35, h⟩ := zB h
 refine yc (partition_groups_string_con k8 _ h35) ?_
 refine yU ?_
 refine yd (zn (zq ?_))
 cases h
 exact zT Tryd.results59
end Go.Proofs.YtjcdclpfeflfkaaDoor
set_option linter.unusedVariables false
set_option linter.unusedSimpArgs false
namespace Go.Proofs.YtjcdclpfeflfkaaDoor
open Go Go.Ab
set_option maxHeartbeats 4000000 in
theorem partition_Of_con (t1 : Table) (s2 : Int) (r3 : Partition × Int) (h : partition_Of t1 s2 = some r3) : Con False Tryd.prog 44 [(encTable t1), (.int .u32 s2)] (.tup [(encPartition r3.1), (.int .i64 r3.2)]) := by
 refine zP Tryd.call44 Tryd.func44 rfl Tryd.ntmps44 fun X w hT => ?_
 simp only [partition_Of] at h
 refine zs (zr ?_)
 refine zU (zl (zn (zs (zs (zr ?_)))))
 refine zU ?_
 obtain ⟨r4, h5, h⟩ := zB h
 refine zc (table_Valid_con t1 _ h5) ?_
 refine zU (zl (zn (zs (zr ?_))))
 refine zU (zl (zn ?_))
 rcases zI h with ⟨h6, h⟩ | ⟨h6, h⟩
 refine zi (zs (zr ?_))
 refine zU (zl (zn (zq (zt ?_))))
 cases h
 exact zT Tryd.results44
 refine zj (zk (zn (zs (zs (zr ?_)))))
 refine zU ?_
 obtain ⟨r7, h8, h⟩ := zB h
 refine zc (partition_within_con t1 s2 _ h8) ?_
 refine zU (zl (zn ?_))
 rcases zI h with ⟨h9, h⟩ | ⟨h9, h⟩
 refine zj (zk (zn (zs (zr ?_))))
 refine zU ?_
 obtain ⟨r10, h11, h⟩ := zB h
 refine zc (partition_of_con t1 s2 _ h11) ?_
 refine zU (zl (zn (zq ?_)))
 cases h
 exact zT Tryd.results44
 refine zi (zs (zr ?_))
 refine zU (zl (zn (zq (zt ?_))))
 cases h
 exact zT Tryd.results44
end Go.Proofs.YtjcdclpfeflfkaaDoor
set_option linter.unusedVariables false
set_option linter.unusedSimpArgs false
namespace Go.Proofs.YtjcdclpfeflfkaaDoor
open Go Go.Ab
set_option maxHeartbeats 4000000 in
theorem approx_groups_con (t1 : Table) (f2 : FD) (r3 : List (List (List Int))) (h : approx_groups t1 f2 = some r3) : Con False Tryd.prog 26 [(encTable t1), (encFD f2)] (.slc (List.map (encL (encL (PV.int .i64))) r3)) := by
 refine zP Tryd.call26 Tryd.func26 rfl Tryd.ntmps26 fun X w hT => ?_
 simp only [approx_groups] at h
 refine zs (zr ?_)
 refine zU (zl (zn (zs (zr ?_))))
 refine zU ?_
 obtain ⟨r4, h5, h⟩ := zB h
 refine zc (partition_Of_con t1 f2.Lhs _ h5) ?_
 refine zU (zl (zn (zs (zr ?_))))
 refine zU ?_
 obtain ⟨r6, h7, h⟩ := zB h
 refine zc (partition_Of_con t1 (IntKind.u32.wrap ((BitVec.ofInt 32 f2.Lhs ||| (BitVec.ofInt 32 f2.Rhs)).toNat : Int)) _ h7) ?_
 refine zU (zl (zn (zs (zr ?_))))
 obtain ⟨h8, h⟩ := ite_some h
 obtain ⟨h9, h⟩ := ite_some h
 refine zU (zl (zn (zs (zs (zr ?_)))))
 refine zU (zl (zn (zb ?_)))
 obtain ⟨c10, h11, h⟩ := zB h
 refine zO (fun (s : List Int × Int) => ⟨[(5, .loc 5 1 0 0), (7, .loc 7 1 0 0), (9, .own 44 1 0 s.1.length), (46, .p (.int .i64 ((t1.Rows.length : Nat) : Int))), (47, .p (.int .i64 s.2))], [(5, .arr 93 2 1 [.p (encPartition r4.1)]), (7, .arr 93 2 1 [.p (encPartition r6.1)]), (44, .arr 3 1 1 (List.map AV.p (List.map (PV.int .i64) s.1)))]⟩) (fun (o12 : List Int) => tE (cX Tryd.f26 X w False hT) (.exit 0) ⟨[(5, .loc 5 1 0 0), (7, .loc 7 1 0 0), (9, .own 44 1 0 o12.length)], [(5, .arr 93 2 1 [.p (encPartition r4.1)]), (7, .arr 93 2 1 [.p (encPartition r6.1)]), (44, .arr 3 1 1 (List.map AV.p (List.map (PV.int .i64) o12)))]⟩) h11 ?_ ?_
 clear h h5 h7 h8 h9 h11
 intro s x h
 obtain ⟨c13, t14⟩ := s
 simp only [approx_groups_l1] at h
 dsimp only
 refine zs (zr ?_)
 refine zU (zl (zn (zs ?_)))
 rcases zI h with ⟨h15, h⟩ | ⟨h15, h⟩
 refine zi (zk (zn (zs (zb (zs (zr ?_))))))
 refine zU (zl (zn (zr ?_)))
 obtain ⟨x16, h17, h17a, h17b, h⟩ := zX h
 refine zU (zl (yn (zn (zr ?_))))
 refine zU (zl ?_)
 cases h
 exact ⟨rfl, zE⟩
 refine zj (zx (ze ?_))
 cases h
 exact ⟨rfl, zE⟩
 try simp only at h
 refine zA (yh (zn (zs (zs (zr ?_)))))
 refine zU (zl (zn (zb ?_)))
 obtain ⟨c18, h19, h⟩ := zB h
 refine zO (fun (s : List Int × Int) => ⟨[(5, .loc 5 1 0 0), (9, .own 44 1 0 s.1.length), (57, .p (.slc (List.map (encL (PV.int .i64)) r6.1.Classes))), (58, .p (.int .i64 (r6.1.Classes.length : Int))), (59, .p (.int .i64 s.2))], [(5, .arr 93 2 1 [.p (encPartition r4.1)]), (44, .arr 3 1 1 (List.map AV.p (List.map (PV.int .i64) s.1)))]⟩) (fun (o20 : List Int) => tE (cX Tryd.f26 X w False hT) (.exit 2) ⟨[(5, .loc 5 1 0 0), (9, .own 44 1 0 o20.length)], [(5, .arr 93 2 1 [.p (encPartition r4.1)]), (44, .arr 3 1 1 (List.map AV.p (List.map (PV.int .i64) o20)))]⟩) h19 ?_ ?_
 clear h h5 h7 h8 h9 h11 h19
 intro s x h
 obtain ⟨c21, t22⟩ := s
 simp only [approx_groups_l5] at h
 dsimp only
 refine zs (zr ?_)
 refine zU (zl (zn (zs ?_)))
 rcases zI h with ⟨h23, h⟩ | ⟨h23, h⟩
 refine zi (zk (zn (zs (zb (zs (zr ?_))))))
 obtain ⟨x24, h25, h25a, h25b, h⟩ := zX h
 refine zU (zl (zn (zs (zr ?_))))
 refine zU (zl (zn (zb ?_)))
 obtain ⟨c26, h27, h⟩ := zB h
 refine zO (fun (s : List Int × Int) => ⟨[(5, .loc 5 1 0 0), (9, .own 44 1 0 s.1.length), (11, .p (.int .i64 t22)), (57, .p (.slc (List.map (encL (PV.int .i64)) r6.1.Classes))), (58, .p (.int .i64 (r6.1.Classes.length : Int))), (59, .p (.int .i64 t22)), (64, .p (.slc (List.map (PV.int .i64) x24))), (65, .p (.int .i64 (x24.length : Int))), (66, .p (.int .i64 s.2))], [(5, .arr 93 2 1 [.p (encPartition r4.1)]), (44, .arr 3 1 1 (List.map AV.p (List.map (PV.int .i64) s.1)))]⟩) (fun (o28 : List Int) => tE (cX Tryd.f26 X w False hT) (.exit 4) ⟨[(5, .loc 5 1 0 0), (9, .own 44 1 0 o28.length), (57, .p (.slc (List.map (encL (PV.int .i64)) r6.1.Classes))), (58, .p (.int .i64 (r6.1.Classes.length : Int))), (59, .p (.int .i64 t22))], [(5, .arr 93 2 1 [.p (encPartition r4.1)]), (44, .arr 3 1 1 (List.map AV.p (List.map (PV.int .i64) o28)))]⟩) h27 ?_ ?_
 clear h h23 h25 h25a h25b h27
 intro s x h
 obtain ⟨c29, t30⟩ := s
 simp only [approx_groups_l4] at h
 dsimp only
 refine zs (zr ?_)
 refine zU (zl (zn (zs ?_)))
 rcases zI h with ⟨h31, h⟩ | ⟨h31, h⟩
 refine zi (zk (zn (zs (zb (zs (zr ?_))))))
 obtain ⟨x32, h33, h33a, h33b, h⟩ := zX h
 refine zU (zl (zn (zr ?_)))
 obtain ⟨x34, h35, h35a, h35b, h⟩ := zX h
 refine zU (zl (yn (zn (zr ?_))))
 refine zU (zl ?_)
 cases h
 exact ⟨rfl, zE⟩
 refine zj (zx (ze ?_))
 cases h
 exact ⟨rfl, zE⟩
 try simp only at h
 refine zA (yh (yn (zn (zr ?_))))
 refine zU (zl ?_)
 cases h
 exact ⟨rfl, zE⟩
 refine zj (zx (ze ?_))
 cases h
 exact ⟨rfl, zE⟩
 try simp only at h
 refine zA (yh (zn (zs (zr ?_))))
 refine zU (zl (zn (zs (zs (zr ?_)))))
 refine zU (zl (zn (zb ?_)))
 obtain ⟨o36, h37, h⟩ := zB h
 refine zO (fun (s : List (List (List Int)) × Int) => ⟨[(9, .own 44 1 0 c18.length), (15, .own 126 1 0 s.1.length), (77, .p (.slc (List.map (encL (PV.int .i64)) r4.1.Classes))), (78, .p (.int .i64 (r4.1.Classes.length : Int))), (79, .p (.int .i64 s.2))], [(44, .arr 3 1 1 (List.map AV.p (List.map (PV.int .i64) c18))), (126, .arr 67 1 1 (List.map AV.p (List.map (encL (encL (PV.int .i64))) s.1)))]⟩) (fun (o38 : List (List (List Int))) => tE (cX Tryd.f26 X w False hT) (.exit 6) ⟨[(15, .own 126 1 0 o38.length)], [(126, .arr 67 1 1 (List.map AV.p (List.map (encL (encL (PV.int .i64))) o38)))]⟩) h37 ?_ ?_
 clear h h5 h7 h8 h9 h11 h19 h37
 intro s x h
 obtain ⟨o39, t40⟩ := s
 simp only [approx_groups_l9] at h
 dsimp only
 refine zs (zr ?_)
 refine zU (zl (zn (zs ?_)))
 rcases zI h with ⟨h41, h⟩ | ⟨h41, h⟩
 refine zi (zk (zn (zs (zb (zs (zr ?_))))))
 obtain ⟨x42, h43, h43a, h43b, h⟩ := zX h
 refine zU (zl (zn (zs (zr ?_))))
 refine zU (zl (zn (zs (zr ?_))))
 refine zU (zl (zn (zs (zs (zr ?_)))))
 refine zU (zl (zn (zb ?_)))
 obtain ⟨g44, h45, h⟩ := zB h
 refine zO (fun (s : List (List Int) × (List (Int × Int)) × Int) => ⟨[(9, .own 44 1 0 c18.length), (15, .own 126 1 0 o39.length), (18, .own 111 1 0 s.1.length), (19, .mapo 83 1), (77, .p (.slc (List.map (encL (PV.int .i64)) r4.1.Classes))), (78, .p (.int .i64 (r4.1.Classes.length : Int))), (79, .p (.int .i64 t40)), (84, .p (.slc (List.map (PV.int .i64) x42))), (85, .p (.int .i64 (x42.length : Int))), (86, .p (.int .i64 s.2.2))], ((44, .arr 3 1 1 (List.map AV.p (List.map (PV.int .i64) c18))) :: (83, .map 1 (List.map AV.p (encK (PV.int .i64) s.2.1)) (List.map AV.p (encW (PV.int .i64) s.2.1))) :: (111, .arr 69 1 1 (famR 111 3 1 1 (PV.int .i64) s.1)) :: (126, .arr 67 1 1 (List.map AV.p (List.map (encL (encL (PV.int .i64))) o39))) :: famL 111 3 1 1 (PV.int .i64) s.1 [])⟩) (fun (o46 : List (List Int)) => tE (cX Tryd.f26 X w False hT) (.exit 8) ⟨[(9, .own 44 1 0 c18.length), (15, .own 126 1 0 o39.length), (18, .own 111 1 0 o46.length), (77, .p (.slc (List.map (encL (PV.int .i64)) r4.1.Classes))), (78, .p (.int .i64 (r4.1.Classes.length : Int))), (79, .p (.int .i64 t40))], ((44, .arr 3 1 1 (List.map AV.p (List.map (PV.int .i64) c18))) :: (111, .arr 69 1 1 (famR 111 3 1 1 (PV.int .i64) o46)) :: (126, .arr 67 1 1 (List.map AV.p (List.map (encL (encL (PV.int .i64))) o39))) :: famL 111 3 1 1 (PV.int .i64) o46 [])⟩) h45 ?_ ?_
 clear h h41 h43 h43a h43b h45
 intro s x h
 obtain ⟨g47, a48, t49⟩ := s
 simp only [approx_groups_l8] at h
 dsimp only
 refine zs (zr ?_)
 refine zU (zl (zn (zs ?_)))
 rcases zI h with ⟨h50, h⟩ | ⟨h50, h⟩
 refine zi (zk (zn (zs (zb (zs (zr ?_))))))
 obtain ⟨x51, h52, h52a, h52b, h⟩ := zX h
 refine zU (zl (zn (zs (zr ?_))))
 obtain ⟨x53, h54, h54a, h54b, h⟩ := zX h
 refine zU (zl (zn (zs (zs (zr ?_)))))
 refine zU (zl (zn ?_))
 rcases zI h with ⟨h55, h⟩ | ⟨h55, h⟩
 refine zj (zk (zn (zr ?_)))
 obtain ⟨x56, h57, h57a, h57b, h⟩ := zX h
 obtain ⟨h58, h⟩ := ite_some h
 refine zW 11 ?_
 refine zM ⟨[(9, .own 44 1 0 c18.length), (15, .own 126 1 0 o39.length), (18, .own 111 1 0 ((g47.set (((mget a48 x53).getD 0).toNat) (x56 ++ [x51]))).length), (19, .mapo 83 1), (77, .p (.slc (List.map (encL (PV.int .i64)) r4.1.Classes))), (78, .p (.int .i64 (r4.1.Classes.length : Int))), (79, .p (.int .i64 t40)), (84, .p (.slc (List.map (PV.int .i64) x42))), (85, .p (.int .i64 (x42.length : Int))), (86, .p (.int .i64 t49))], ((44, .arr 3 1 1 (List.map AV.p (List.map (PV.int .i64) c18))) :: (83, .map 1 (List.map AV.p (encK (PV.int .i64) a48)) (List.map AV.p (encW (PV.int .i64) a48))) :: (111, .arr 69 1 1 (famR 111 3 1 1 (PV.int .i64) (g47.set (((mget a48 x53).getD 0).toNat) (x56 ++ [x51])))) :: (126, .arr 67 1 1 (List.map AV.p (List.map (encL (encL (PV.int .i64))) o39))) :: famL 111 3 1 1 (PV.int .i64) (g47.set (((mget a48 x53).getD 0).toNat) (x56 ++ [x51])) [])⟩ ?_
 refine zl (yn (zn (zr ?_)))
 refine zU (zl ?_)
 cases h
 exact ⟨rfl, zE⟩
 refine zi (zs (zr ?_))
 refine zU (zl (zn (zs (zr ?_))))
 refine zU (zl (zn (zr ?_)))
 obtain ⟨h59, h⟩ := ite_some h
 refine zW 3 ?_
 refine zM ⟨[(9, .own 44 1 0 c18.length), (15, .own 126 1 0 o39.length), (19, .mapo 83 1), (21, .p (.int .i64 x51)), (22, .p (.int .i64 ((g47.length : Nat) : Int))), (77, .p (.slc (List.map (encL (PV.int .i64)) r4.1.Classes))), (78, .p (.int .i64 (r4.1.Classes.length : Int))), (79, .p (.int .i64 t40)), (84, .p (.slc (List.map (PV.int .i64) x42))), (85, .p (.int .i64 (x42.length : Int))), (86, .p (.int .i64 t49)), (111, .own 111 1 0 (g47.length + 1))], ((44, .arr 3 1 1 (List.map AV.p (List.map (PV.int .i64) c18))) :: (83, .map 1 (List.map AV.p (encK (PV.int .i64) (mset a48 x53 ((g47.length : Nat) : Int)))) (List.map AV.p (encW (PV.int .i64) (mset a48 x53 ((g47.length : Nat) : Int))))) :: (111, .arr 69 1 1 (famR 111 3 1 1 (PV.int .i64) (g47 ++ [[]]))) :: (126, .arr 67 1 1 (List.map AV.p (List.map (encL (encL (PV.int .i64))) o39))) :: famL 111 3 1 1 (PV.int .i64) (g47 ++ [[]]) [])⟩ ?_
 refine zU (zl (zn (zr ?_)))
 obtain ⟨x60, h61, h61a, h61b, h⟩ := zX h
 have hx_1496C := h61b
 simp only [List.length_append, List.length_set, List.length_cons, List.length_nil, Nat.zero_add] at hx_1496C
 have h61N := nat_get h61
 obtain ⟨h62, h⟩ := ite_some h
 refine zW 11 ?_
 refine zM ⟨[(9, .own 44 1 0 c18.length), (15, .own 126 1 0 o39.length), (18, .own 111 1 0 (((g47 ++ [[]]).set (((g47.length : Nat) : Int).toNat) (x60 ++ [x51]))).length), (19, .mapo 83 1), (77, .p (.slc (List.map (encL (PV.int .i64)) r4.1.Classes))), (78, .p (.int .i64 (r4.1.Classes.length : Int))), (79, .p (.int .i64 t40)), (84, .p (.slc (List.map (PV.int .i64) x42))), (85, .p (.int .i64 (x42.length : Int))), (86, .p (.int .i64 t49))], ((44, .arr 3 1 1 (List.map AV.p (List.map (PV.int .i64) c18))) :: (83, .map 1 (List.map AV.p (encK (PV.int .i64) (mset a48 x53 ((g47.length : Nat) : Int)))) (List.map AV.p (encW (PV.int .i64) (mset a48 x53 ((g47.length : Nat) : Int))))) :: (111, .arr 69 1 1 (famR 111 3 1 1 (PV.int .i64) ((g47 ++ [[]]).set (((g47.length : Nat) : Int).toNat) (x60 ++ [x51])))) :: (126, .arr 67 1 1 (List.map AV.p (List.map (encL (encL (PV.int .i64))) o39))) :: famL 111 3 1 1 (PV.int .i64) ((g47 ++ [[]]).set (((g47.length : Nat) : Int).toNat) (x60 ++ [x51])) [])⟩ ?_
 refine zl (yn (zn (zr ?_)))
 refine zU (zl ?_)
 cases h
 exact ⟨rfl, zE⟩
 refine zj (zx (ze ?_))
 cases h
 exact ⟨rfl, zE⟩
 try simp only at h
 refine zA (yh (zn (zr ?_)))
 refine zW 3 ?_
 refine zM ⟨[(9, .own 44 1 0 c18.length), (77, .p (.slc (List.map (encL (PV.int .i64)) r4.1.Classes))), (78, .p (.int .i64 (r4.1.Classes.length : Int))), (79, .p (.int .i64 t40)), (123, .own 126 1 0 o39.length), (125, .own 125 1 0 1)], [(44, .arr 3 1 1 (List.map AV.p (List.map (PV.int .i64) c18))), (125, .arr 67 1 1 [.p (.slc (List.map (encL (PV.int .i64)) g44))]), (126, .arr 67 1 1 (List.map AV.p (List.map (encL (encL (PV.int .i64))) o39)))]⟩ ?_
 obtain ⟨h63, h⟩ := ite_some h
 refine zU (zl (yn (zn (zr ?_))))
 refine zU (zl ?_)
 cases h
 exact ⟨rfl, zE⟩
 refine zj (zx (ze ?_))
 cases h
 exact ⟨rfl, zE⟩
 try simp only at h
 refine zA (yh (zn (zs (zr ?_))))
 refine zU (zl (zn (zq ?_)))
 cases h
 exact zT Tryd.results26
end Go.Proofs.YtjcdclpfeflfkaaDoor
set_option linter.unusedVariables false
set_option linter.unusedSimpArgs false
namespace Go.Proofs.YtjcdclpfeflfkaaDoor
open Go Go.Ab
set_option maxHeartbeats 4000000 in
theorem approx_group_best_con {D : Prop} (g1 : List (List Int)) (r2 : Int) (h : approx_group_best g1 = some r2) : Con D Tryd.prog 27 [(.slc (List.map (encL (PV.int .i64)) g1))] (.int .i64 r2) := by
 refine zP Tryd.call27 Tryd.func27 rfl Tryd.ntmps27 fun X w hT => ?_
 simp only [approx_group_best] at h
 refine zs (zr ?_)
 refine zU (zl (zn (zs (zr ?_))))
 refine zU (zl (zn (zs (zs (zr ?_)))))
 refine zU (zl (zn (zb ?_)))
 obtain ⟨k3, h4, h⟩ := zB h
 refine zO (fun (s : Int × Int) => ⟨[(0, .p (.slc (List.map (encL (PV.int .i64)) g1))), (3, .p (.int .i64 s.1)), (6, .p (.slc (List.map (encL (PV.int .i64)) g1))), (7, .p (.int .i64 (g1.length : Int))), (8, .p (.int .i64 s.2))], []⟩) (fun (o5 : Int) => tE (cX Tryd.f27 X w D hT) (.exit 0) ⟨[(3, .p (.int .i64 o5))], []⟩) h4 ?_ ?_
 clear h h4
 intro s x h
 obtain ⟨k6, t7⟩ := s
 simp only [approx_group_best_l1] at h
 dsimp only
 refine zs (zr ?_)
 refine zU (zl (zn (zs ?_)))
 rcases zI h with ⟨h8, h⟩ | ⟨h8, h⟩
 refine zi (zk (zn (zs (zb (zs (zr ?_))))))
 obtain ⟨x9, h10, h10a, h10b, h⟩ := zX h
 refine zU (zl (zn (zs (zr ?_))))
 obtain ⟨x11, h12, h12a, h12b, h⟩ := zX h
 refine zU (zl (zn ?_))
 rcases zI h with ⟨h13, h⟩ | ⟨h13, h⟩
 refine zi (zr ?_)
 refine zU (zl (yn (zn (zr ?_))))
 refine zU (zl ?_)
 cases h
 exact ⟨rfl, zE⟩
 refine zj (zk (yn (zn (zr ?_))))
 refine zU (zl ?_)
 cases h
 exact ⟨rfl, zE⟩
 refine zj (zx (ze ?_))
 cases h
 exact ⟨rfl, zE⟩
 try simp only at h
 refine zA (yh (zn (zs (zr ?_))))
 refine zU (zl (zn (zq ?_)))
 cases h
 exact zT Tryd.results27
end Go.Proofs.YtjcdclpfeflfkaaDoor
set_option linter.unusedVariables false
set_option linter.unusedSimpArgs false
namespace Go.Proofs.YtjcdclpfeflfkaaDoor
open Go Go.Ab
set_option maxHeartbeats 4000000 in
theorem approx_Removal_con (t1 : Table) (f2 : FD) (r3 : List Int × Int) (h : approx_Removal t1 f2 = some r3) : Con False Tryd.prog 12 [(encTable t1), (encFD f2)] (.tup [(.slc (List.map (PV.int .i64) r3.1)), (.int .i64 r3.2)]) := by
 refine zP Tryd.call12 Tryd.func12 rfl Tryd.ntmps12 fun X w hT => ?_
 simp only [approx_Removal] at h
 refine zs (zr ?_)
 refine zU (zl (zn (zs (zs (zr ?_)))))
 refine zU ?_
 obtain ⟨r4, h5, h⟩ := zB h
 refine zc (approx_known_con t1 [f2] _ h5) ?_
 refine zU (zl (zn (zs (zr ?_))))
 refine zU (zl (zn ?_))
 rcases zI h with ⟨h6, h⟩ | ⟨h6, h⟩
 refine zi (zs (zr ?_))
 refine zU (zl (zn (zq (zt ?_))))
 cases h
 exact zT Tryd.results12
 refine zj (zk (zn (zs (zr ?_))))
 refine zU (zl (zn (zs (zs (zr ?_)))))
 refine zU ?_
 obtain ⟨r7, h8, h⟩ := zB h
 refine zc (approx_groups_con t1 f2 _ h8) ?_
 refine zU (zl (zn (zb ?_)))
 obtain ⟨o9, h10, h⟩ := zB h
 refine zO (fun (s : List Int × Int) => ⟨[(2, .loc 2 1 0 0), (7, .own 56 1 0 s.1.length), (24, .p (.slc (List.map (encL (encL (PV.int .i64))) r7))), (25, .p (.int .i64 (r7.length : Int))), (26, .p (.int .i64 s.2))], [(2, .arr 28 3 1 [.p (encTable t1)]), (56, .arr 2 1 1 (List.map AV.p (List.map (PV.int .i64) s.1)))]⟩) (fun (o11 : List Int) => tE (cX Tryd.f12 X w False hT) (.exit 0) ⟨[(7, .own 56 1 0 o11.length)], [(56, .arr 2 1 1 (List.map AV.p (List.map (PV.int .i64) o11)))]⟩) h10 ?_ ?_
 clear h h5 h6 h8 h10
 intro s x h
 obtain ⟨o12, t13⟩ := s
 simp only [approx_Removal_l13] at h
 dsimp only
 refine zs (zr ?_)
 refine zU (zl (zn (zs ?_)))
 rcases zI h with ⟨h14, h⟩ | ⟨h14, h⟩
 refine zi (zk (zn (zs (zb (zs (zr ?_))))))
 obtain ⟨x15, h16, h16a, h16b, h⟩ := zX h
 refine zU (zl (zn (zs (zr ?_))))
 refine zU ?_
 obtain ⟨r17, h18, h⟩ := zB h
 refine zc (approx_group_best_con x15 _ h18) ?_
 refine zU (zl (zn (zs (zr ?_))))
 refine zU (zl (zn (zb ?_)))
 obtain ⟨o19, h20, h⟩ := zB h
 refine zO (fun (s : List Int × Int) => ⟨[(2, .loc 2 1 0 0), (7, .own 56 1 0 s.1.length), (10, .p (.int .i64 r17)), (24, .p (.slc (List.map (encL (encL (PV.int .i64))) r7))), (25, .p (.int .i64 (r7.length : Int))), (26, .p (.int .i64 t13)), (32, .p (.slc (List.map (encL (PV.int .i64)) x15))), (33, .p (.int .i64 (x15.length : Int))), (34, .p (.int .i64 s.2))], [(2, .arr 28 3 1 [.p (encTable t1)]), (56, .arr 2 1 1 (List.map AV.p (List.map (PV.int .i64) s.1)))]⟩) (fun (o21 : List Int) => tE (cX Tryd.f12 X w False hT) (.exit 2) ⟨[(2, .loc 2 1 0 0), (7, .own 56 1 0 o21.length), (24, .p (.slc (List.map (encL (encL (PV.int .i64))) r7))), (25, .p (.int .i64 (r7.length : Int))), (26, .p (.int .i64 t13))], [(2, .arr 28 3 1 [.p (encTable t1)]), (56, .arr 2 1 1 (List.map AV.p (List.map (PV.int .i64) o21)))]⟩) h20 ?_ ?_
 clear h h14 h16 h16a h16b h18 h20
 intro s x h
 obtain ⟨o22, t23⟩ := s
 simp only [approx_Removal_l12] at h
 dsimp only
 refine zs (zr ?_)
 refine zU (zl (zn (zs ?_)))
 rcases zI h with ⟨h24, h⟩ | ⟨h24, h⟩
 refine zi (zk (zn (zs (zb (zs (zr ?_))))))
 obtain ⟨x25, h26, h26a, h26b, h⟩ := zX h
 refine zU (zl (zn (zs (zr ?_))))
 refine zU (zl (zn (zb ?_)))
 obtain ⟨o27, h28, h⟩ := zB h
 refine zO (fun (s : List Int × Int) => ⟨[(2, .loc 2 1 0 0), (7, .own 56 1 0 s.1.length), (10, .p (.int .i64 r17)), (11, .p (.int .i64 t23)), (24, .p (.slc (List.map (encL (encL (PV.int .i64))) r7))), (25, .p (.int .i64 (r7.length : Int))), (26, .p (.int .i64 t13)), (32, .p (.slc (List.map (encL (PV.int .i64)) x15))), (33, .p (.int .i64 (x15.length : Int))), (34, .p (.int .i64 t23)), (39, .p (.slc (List.map (PV.int .i64) x25))), (40, .p (.int .i64 (x25.length : Int))), (41, .p (.int .i64 s.2))], [(2, .arr 28 3 1 [.p (encTable t1)]), (56, .arr 2 1 1 (List.map AV.p (List.map (PV.int .i64) s.1)))]⟩) (fun (o29 : List Int) => tE (cX Tryd.f12 X w False hT) (.exit 4) ⟨[(2, .loc 2 1 0 0), (7, .own 56 1 0 o29.length), (10, .p (.int .i64 r17)), (24, .p (.slc (List.map (encL (encL (PV.int .i64))) r7))), (25, .p (.int .i64 (r7.length : Int))), (26, .p (.int .i64 t13)), (32, .p (.slc (List.map (encL (PV.int .i64)) x15))), (33, .p (.int .i64 (x15.length : Int))), (34, .p (.int .i64 t23))], [(2, .arr 28 3 1 [.p (encTable t1)]), (56, .arr 2 1 1 (List.map AV.p (List.map (PV.int .i64) o29)))]⟩) h28 ?_ ?_
 clear h h24 h26 h26a h26b h28
 intro s x h
 obtain ⟨o30, t31⟩ := s
 simp only [approx_Removal_l11] at h
 dsimp only
 refine zs (zr ?_)
 refine zU (zl (zn (zs ?_)))
 rcases zI h with ⟨h32, h⟩ | ⟨h32, h⟩
 refine zi (zk (zn (zs (zb (zs (zr ?_))))))
 obtain ⟨x33, h34, h34a, h34b, h⟩ := zX h
 refine zU (zl (zn (zs (zr ?_))))
 refine zU (zl (zn ?_))
 rcases zI h with ⟨h35, h⟩ | ⟨h35, h⟩
 refine zi (zr ?_)
 obtain ⟨x36, h37, h37a, h37b, h⟩ := zX h
 obtain ⟨h38, h⟩ := ite_some h
 refine zU (zl (yn (zn (zr ?_))))
 refine zU (zl ?_)
 cases h
 exact ⟨rfl, zE⟩
 refine zj (zk (yn (zn (zr ?_))))
 refine zU (zl ?_)
 cases h
 exact ⟨rfl, zE⟩
 refine zj (zx (ze ?_))
 cases h
 exact ⟨rfl, zE⟩
 try simp only at h
 refine zA (yh (yn (zn (zr ?_))))
 refine zU (zl ?_)
 cases h
 exact ⟨rfl, zE⟩
 refine zj (zx (ze ?_))
 cases h
 exact ⟨rfl, zE⟩
 try simp only at h
 refine zA (yh (yn (zn (zr ?_))))
 refine zU (zl ?_)
 cases h
 exact ⟨rfl, zE⟩
 refine zj (zx (ze ?_))
 cases h
 exact ⟨rfl, zE⟩
 try simp only at h
 refine zA (yh (zn (zs (zr ?_))))
 refine zU ?_
 refine zM ⟨[(7, .own 56 1 0 o9.length), (60, .own 56 1 0 o9.length)], [(56, .arr 2 1 1 (List.map AV.p (List.map (PV.int .i64) o9)))]⟩ ?_
 obtain ⟨l39, h40, h⟩ := zB h
 refine zSI srt28 h40 ?_
 have h41 := srtIF_len h40
 refine zM ⟨[(7, .own 56 1 0 l39.length), (61, .p (.tup []))], [(56, .arr 2 1 1 (List.map AV.p (List.map (PV.int .i64) l39)))]⟩ ?_
 clear h41
 refine zl (zn (zs (zr ?_)))
 refine zU (zl (zn (zq ?_)))
 cases h
 exact zT Tryd.results12
end Go.Proofs.YtjcdclpfeflfkaaDoor
set_option linter.unusedVariables false
set_option linter.unusedSimpArgs false
namespace Go.Proofs.YtjcdclpfeflfkaaDoor
open Go Go.Ab
set_option maxHeartbeats 4000000 in
theorem approx_measures_con {D : Prop} (m1 : Int) (r2 : Bool) (h : approx_measures m1 = some r2) : Con D Tryd.prog 29 [(.int .i64 m1)] (.bool r2) := by
 refine zP Tryd.call29 Tryd.func29 rfl Tryd.ntmps29 fun X w hT => ?_
 simp only [approx_measures] at h
 refine zs (zr ?_)
 refine zU (zl (zn (zs (zr ?_))))
 refine zU ?_
 rcases zI h with ⟨h3, h⟩ | ⟨h3, h⟩
 replace h := h.symm
 refine zw 5 true ?_
 refine zg ?_
 refine zg ?_
 refine zU (zl (zn (zq ?_)))
 cases h
 exact zT Tryd.results29
 refine zw 5 false ?_
 refine zh ?_
 refine zU (zl (zn (zq ?_)))
 cases h
 exact zT Tryd.results29
end Go.Proofs.YtjcdclpfeflfkaaDoor
set_option linter.unusedVariables false
set_option linter.unusedSimpArgs false
namespace Go.Proofs.YtjcdclpfeflfkaaDoor
open Go Go.Ab
set_option maxHeartbeats 4000000 in
theorem approx_group_size_con {D : Prop} (g1 : List (List Int)) (r2 : Int) (h : approx_group_size g1 = some r2) : Con D Tryd.prog 47 [(.slc (List.map (encL (PV.int .i64)) g1))] (.int .i64 r2) := by
 refine zP Tryd.call47 Tryd.func47 rfl Tryd.ntmps47 fun X w hT => ?_
 simp only [approx_group_size] at h
 refine zs (zr ?_)
 refine zU (zl (zn (zs (zr ?_))))
 refine zU (zl (zn (zs (zs (zr ?_)))))
 refine zU (zl (zn (zb ?_)))
 obtain ⟨n3, h4, h⟩ := zB h
 refine zO (fun (s : Int × Int) => ⟨[(3, .p (.int .i64 s.1)), (6, .p (.slc (List.map (encL (PV.int .i64)) g1))), (7, .p (.int .i64 (g1.length : Int))), (8, .p (.int .i64 s.2))], []⟩) (fun (o5 : Int) => tE (cX Tryd.f47 X w D hT) (.exit 0) ⟨[(3, .p (.int .i64 o5))], []⟩) h4 ?_ ?_
 clear h h4
 intro s x h
 obtain ⟨n6, t7⟩ := s
 simp only [approx_group_size_l1] at h
 dsimp only
 refine zs (zr ?_)
 refine zU (zl (zn (zs ?_)))
 rcases zI h with ⟨h8, h⟩ | ⟨h8, h⟩
 refine zi (zk (zn (zs (zb (zs (zr ?_))))))
 obtain ⟨x9, h10, h10a, h10b, h⟩ := zX h
 refine zU (zl (zn (zr ?_)))
 refine zU (zl (yn (zn (zr ?_))))
 refine zU (zl ?_)
 cases h
 exact ⟨rfl, zE⟩
 refine zj (zx (ze ?_))
 cases h
 exact ⟨rfl, zE⟩
 try simp only at h
 refine zA (yh (zn (zs (zr ?_))))
 refine zU (zl (zn (zq ?_)))
 cases h
 exact zT Tryd.results47
end Go.Proofs.YtjcdclpfeflfkaaDoor
set_option linter.unusedVariables false
set_option linter.unusedSimpArgs false
namespace Go.Proofs.YtjcdclpfeflfkaaDoor
open Go Go.Ab
set_option maxHeartbeats 4000000 in
theorem ratio_abs_con {D : Prop} (n1 : Int) (r2 : Int) (h : ratio_abs n1 = some r2) : Con D Tryd.prog 71 [(.int .i64 n1)] (.int .u64 r2) := by
 refine zP Tryd.call71 Tryd.func71 rfl Tryd.ntmps71 fun X w hT => ?_
 simp only [ratio_abs] at h
 refine zs (zr ?_)
 refine zU (zl (zn (zs (zs (zr ?_)))))
 refine zU (zl (zn ?_))
 rcases zI h with ⟨h3, h⟩ | ⟨h3, h⟩
 refine zi (zs (zr ?_))
 refine zU (zl (zn (zq (zt ?_))))
 cases h
 exact zT Tryd.results71
 refine zj (zk (zn (zs (zr ?_))))
 refine zU (zl (zn (zq ?_)))
 cases h
 exact zT Tryd.results71
end Go.Proofs.YtjcdclpfeflfkaaDoor
set_option linter.unusedVariables false
set_option linter.unusedSimpArgs false
namespace Go.Proofs.YtjcdclpfeflfkaaDoor
open Go Go.Ab
set_option maxHeartbeats 4000000 in
theorem ratio_gcd_con {D : Prop} (a1 : Int) (b2 : Int) (r3 : Int) (h : ratio_gcd a1 b2 = some r3) : Con D Tryd.prog 72 [(.int .u64 a1), (.int .u64 b2)] (.int .u64 r3) := by
 refine zP Tryd.call72 Tryd.func72 rfl Tryd.ntmps72 fun X w hT => ?_
 simp only [ratio_gcd] at h
 refine zs (zr ?_)
 refine zU (zl (zn (zs (zb ?_))))
 obtain ⟨a4, h5, h⟩ := zB h
 refine zO (fun (s : Int × Int) => ⟨[(0, .p (.int .u64 s.1)), (1, .p (.int .u64 s.2))], []⟩) (fun (o6 : Int) => tE (cX Tryd.f72 X w D hT) (.exit 0) ⟨[(0, .p (.int .u64 o6))], []⟩) h5 ?_ ?_
 clear h h5
 intro s x h
 obtain ⟨a7, b8⟩ := s
 simp only [ratio_gcd_l1] at h
 dsimp only
 refine zs (zs (zr ?_))
 refine zU (zl (zn ?_))
 rcases zI h with ⟨h9, h⟩ | ⟨h9, h⟩
 refine zi (zk (zn (zb (zd ?_))))
 obtain ⟨h10, h⟩ := ite_none h
 refine yU ?_
 refine yd (yn ?_)
 cases h
 exact ⟨rfl, zE⟩
 refine zj (zx (ze ?_))
 cases h
 exact ⟨rfl, zE⟩
 try simp only at h
 refine zA (yh (zn (zs (zr ?_))))
 refine zU (zl (zn (zq ?_)))
 cases h
 exact zT Tryd.results72
end Go.Proofs.YtjcdclpfeflfkaaDoor
set_option linter.unusedVariables false
set_option linter.unusedSimpArgs false
namespace Go.Proofs.YtjcdclpfeflfkaaDoor
open Go Go.Ab
set_option maxHeartbeats 4000000 in
theorem ratio_of_con {D : Prop} (n1 : Bool) (n2 : Int) (d3 : Int) (r4 : Ratio × Int) (h : ratio_of n1 n2 d3 = some r4) : Con D Tryd.prog 73 [(.bool n1), (.int .u64 n2), (.int .u64 d3)] (.tup [(encRatio r4.1), (.int .i64 r4.2)]) := by
 refine zP Tryd.call73 Tryd.func73 rfl Tryd.ntmps73 fun X w hT => ?_
 simp only [ratio_of] at h
 refine zs (zr ?_)
 refine zU (zl (zn (zs (zs (zr ?_)))))
 refine zU ?_
 rcases zI h with ⟨h5, h⟩ | ⟨h5, h⟩
 refine zw 11 true ?_
 refine zh ?_
 refine zU (zl (zn ?_))
 refine zi (zs (zr ?_))
 refine zU (zl (zn (zq (zt ?_))))
 cases h
 exact zT Tryd.results73
 refine zw 11 false ?_
 refine zg ?_
 refine zg ?_
 refine zU (zl (zn ?_))
 rcases zI h with ⟨h6, h⟩ | ⟨h6, h⟩
 refine zi (zs (zr ?_))
 refine zU (zl (zn (zq (zt ?_))))
 cases h
 exact zT Tryd.results73
 refine zj (zk (zn (zs (zr ?_))))
 refine zU (zl (zn (zs (zs (zr ?_)))))
 refine zU (zl (zn ?_))
 rcases zI h with ⟨h7, h⟩ | ⟨h7, h⟩
 refine zi (zr ?_)
 refine zU (zl (zn (zs (zr ?_))))
 refine zU (zl (zn (zq ?_)))
 cases h
 exact zT Tryd.results73
 refine zj (zk (zn (zs (zr ?_))))
 refine zU (zl (zn (zq ?_)))
 cases h
 exact zT Tryd.results73
end Go.Proofs.YtjcdclpfeflfkaaDoor
set_option linter.unusedVariables false
set_option linter.unusedSimpArgs false
namespace Go.Proofs.YtjcdclpfeflfkaaDoor
open Go Go.Ab
set_option maxRecDepth 20000 in
set_option maxHeartbeats 4000000 in
theorem ratio_Make_con {D : Prop} (n1 : Int) (d2 : Int) (r3 : Ratio × Int) (h : ratio_Make n1 d2 = some r3) : Con D Tryd.prog 48 [(.int .i64 n1), (.int .i64 d2)] (.tup [(encRatio r3.1), (.int .i64 r3.2)]) := by
 refine zP Tryd.call48 Tryd.func48 rfl Tryd.ntmps48 fun X w hT => ?_
 simp only [ratio_Make] at h
 refine zs (zr ?_)
 refine zU (zl (zn (zs (zs (zr ?_)))))
 refine zU (zl (zn ?_))
 rcases zI h with ⟨h4, h⟩ | ⟨h4, h⟩
 refine zi (zs (zr ?_))
 refine zU (zl (zn (zq (zt ?_))))
 cases h
 exact zT Tryd.results48
 refine zj (zk (zn (zs (zr ?_))))
 refine zU ?_
 obtain ⟨r5, h6, h⟩ := zB h
 refine zc (ratio_abs_con n1 _ h6) ?_
 refine zU ?_
 obtain ⟨r7, h8, h⟩ := zB h
 refine zc (ratio_abs_con d2 _ h8) ?_
 refine zU (zl (zn (zs (zr ?_))))
 refine zU ?_
 obtain ⟨r9, h10, h⟩ := zB h
 refine zc (ratio_gcd_con r5 r7 _ h10) ?_
 refine zU (zl (zn (zs (zd ?_))))
 obtain ⟨h11, h⟩ := ite_none h
 refine yU ?_
 obtain ⟨r12, h13, h⟩ := zB h
 refine yc (ratio_of_con (!((decide (n1 < 0)) == (decide (d2 < 0)))) (IntKind.u64.wrap (Int.tdiv r5 r9)) (IntKind.u64.wrap (Int.tdiv r7 r9)) _ h13) ?_
 refine yU ?_
 refine yd (zn (zq ?_))
 cases h
 exact zT Tryd.results48
end Go.Proofs.YtjcdclpfeflfkaaDoor
set_option linter.unusedVariables false
set_option linter.unusedSimpArgs false
namespace Go.Proofs.YtjcdclpfeflfkaaDoor
open Go Go.Ab
set_option maxHeartbeats 4000000 in
theorem approx_measured_con (t1 : Table) (f2 : FD) (m3 : Int) (r4 : Ratio) (h : approx_measured t1 f2 m3 = some r4) : Con False Tryd.prog 30 [(encTable t1), (encFD f2), (.int .i64 m3)] (encRatio r4) := by
 refine zP Tryd.call30 Tryd.func30 rfl Tryd.ntmps30 fun X w hT => ?_
 simp only [approx_measured] at h
 refine zs (zr ?_)
 refine zU (zl (zn (zs (zr ?_))))
 refine zU (zl (zn (zs (zs (zr ?_)))))
 refine zU (zl (zn ?_))
 rcases zI h with ⟨h5, h⟩ | ⟨h5, h⟩
 refine zi (zs (zr ?_))
 refine zU (zl (zn (zq (zt ?_))))
 cases h
 exact zT Tryd.results30
 refine zj (zk (zn (zs (zr ?_))))
 refine zU (zl (zn (zs (zs (zr ?_)))))
 refine zU ?_
 obtain ⟨r6, h7, h⟩ := zB h
 refine zc (approx_groups_con t1 f2 _ h7) ?_
 refine zU (zl (zn (zb ?_)))
 obtain ⟨s8, h9, h⟩ := zB h
 refine zO (fun (s : Int × Int) => ⟨[(2, .p (.int .i64 m3)), (6, .loc 6 1 0 0), (7, .p (.int .i64 (t1.Rows.length : Int))), (8, .p (.int .i64 s.1)), (9, .p (.int .i64 (t1.Rows.length : Int))), (26, .p (.slc (List.map (encL (encL (PV.int .i64))) r6))), (27, .p (.int .i64 (r6.length : Int))), (28, .p (.int .i64 s.2))], [(6, .arr 48 2 1 [.p (.agg [.int .i64 0, .int .i64 0])])]⟩) (fun (o10 : Int) => tE (cX Tryd.f30 X w False hT) (.exit 0) ⟨[(2, .p (.int .i64 m3)), (6, .loc 6 1 0 0), (7, .p (.int .i64 (t1.Rows.length : Int))), (8, .p (.int .i64 o10)), (9, .p (.int .i64 (t1.Rows.length : Int)))], [(6, .arr 48 2 1 [.p (.agg [.int .i64 0, .int .i64 0])])]⟩) h9 ?_ ?_
 clear h h5 h7 h9
 intro s x h
 obtain ⟨s11, t12⟩ := s
 simp only [approx_measured_l4] at h
 dsimp only
 refine zs (zr ?_)
 refine zU (zl (zn (zs ?_)))
 rcases zI h with ⟨h13, h⟩ | ⟨h13, h⟩
 refine zi (zk (zn (zs (zb (zs (zr ?_))))))
 obtain ⟨x14, h15, h15a, h15b, h⟩ := zX h
 refine zU (zl (zn (zs (zr ?_))))
 refine zU ?_
 obtain ⟨r16, h17, h⟩ := zB h
 refine zc (approx_group_size_con x14 _ h17) ?_
 refine zU (zl (zn (zs (zr ?_))))
 refine zU (zl (zn (zb (zs (zr ?_)))))
 refine zU (zl (zn ?_))
 rcases zI h with ⟨h18, h⟩ | ⟨h18, h⟩
 refine zi (zs (zr ?_))
 refine zU (zl (zn (zs (zr ?_))))
 refine zU (zl (zn (zb ?_)))
 obtain ⟨s19, h20, h⟩ := zB h
 refine zO (fun (s : Int × Int) => ⟨[(2, .p (.int .i64 m3)), (6, .loc 6 1 0 0), (7, .p (.int .i64 (t1.Rows.length : Int))), (8, .p (.int .i64 s.1)), (9, .p (.int .i64 (t1.Rows.length : Int))), (26, .p (.slc (List.map (encL (encL (PV.int .i64))) r6))), (27, .p (.int .i64 (r6.length : Int))), (28, .p (.int .i64 t12)), (52, .p (.slc (List.map (encL (PV.int .i64)) x14))), (53, .p (.int .i64 (x14.length : Int))), (54, .p (.int .i64 s.2))], [(6, .arr 48 2 1 [.p (.agg [.int .i64 0, .int .i64 0])])]⟩) (fun (o21 : Int) => tE (cX Tryd.f30 X w False hT) (.exit 3) ⟨[(2, .p (.int .i64 m3)), (6, .loc 6 1 0 0), (7, .p (.int .i64 (t1.Rows.length : Int))), (8, .p (.int .i64 o21)), (9, .p (.int .i64 (t1.Rows.length : Int))), (26, .p (.slc (List.map (encL (encL (PV.int .i64))) r6))), (27, .p (.int .i64 (r6.length : Int))), (28, .p (.int .i64 t12))], [(6, .arr 48 2 1 [.p (.agg [.int .i64 0, .int .i64 0])])]⟩) h20 ?_ ?_
 clear h h13 h15 h15a h15b h17 h18 h20
 intro s x h
 obtain ⟨s22, t23⟩ := s
 simp only [approx_measured_l3] at h
 dsimp only
 refine zs (zr ?_)
 refine zU (zl (zn (zs ?_)))
 rcases zI h with ⟨h24, h⟩ | ⟨h24, h⟩
 refine zi (zk (zn (zs (zb (zs (zr ?_))))))
 obtain ⟨x25, h26, h26a, h26b, h⟩ := zX h
 refine zU (zl (zn (zr ?_)))
 refine zU (zl (yn (zn (zr ?_))))
 refine zU (zl ?_)
 cases h
 exact ⟨rfl, zE⟩
 refine zj (zx (ze ?_))
 cases h
 exact ⟨rfl, zE⟩
 try simp only at h
 refine zA (yh (yn (yn (zn (zr ?_)))))
 refine zU (zl ?_)
 cases h
 exact ⟨rfl, zE⟩
 refine zj (zs (zr ?_))
 refine zU (zl (zn ?_))
 rcases zI h with ⟨h27, h⟩ | ⟨h27, h⟩
 refine zi (zs (zr ?_))
 refine zU (zl (zn ?_))
 rcases zI h with ⟨h28, h⟩ | ⟨h28, h⟩
 refine zi (zr ?_)
 refine zU (zl (yn (yn (zn (zr ?_)))))
 refine zU (zl ?_)
 cases h
 exact ⟨rfl, zE⟩
 refine zj (zk (yn (yn (zn (zr ?_)))))
 refine zU (zl ?_)
 cases h
 exact ⟨rfl, zE⟩
 refine zj (zr ?_)
 refine zU ?_
 obtain ⟨r29, h30, h⟩ := zB h
 refine zc (approx_group_best_con x14 _ h30) ?_
 obtain ⟨x31, h32, h32a, h32b, h⟩ := zX h
 refine zU (zl (yn (yn (zn (zr ?_)))))
 refine zU (zl ?_)
 cases h
 exact ⟨rfl, zE⟩
 refine zj (zx (ze ?_))
 cases h
 exact ⟨rfl, zE⟩
 try simp only at h
 refine zA (yh (zn (zs (zs (zr ?_)))))
 refine zU (zl (zn ?_))
 rcases zI h with ⟨h33, h⟩ | ⟨h33, h⟩
 refine zi (zr ?_)
 refine zU (zl (zn (zs (zr ?_))))
 refine zU ?_
 obtain ⟨r34, h35, h⟩ := zB h
 refine zc (ratio_Make_con s8 (IntKind.i64.wrap ((t1.Rows.length : Int) * (t1.Rows.length : Int))) _ h35) ?_
 refine zU (zl (zn (zs (zr ?_))))
 refine zU (zl (zn (zq ?_)))
 cases h
 exact zT Tryd.results30
 refine zj (zk (zn (zs (zr ?_))))
 refine zU ?_
 obtain ⟨r36, h37, h⟩ := zB h
 refine zc (ratio_Make_con s8 (t1.Rows.length : Int) _ h37) ?_
 refine zU (zl (zn (zs (zr ?_))))
 refine zU (zl (zn (zq ?_)))
 cases h
 exact zT Tryd.results30
end Go.Proofs.YtjcdclpfeflfkaaDoor
set_option linter.unusedVariables false
set_option linter.unusedSimpArgs false
namespace Go.Proofs.YtjcdclpfeflfkaaDoor
open Go Go.Ab
set_option maxHeartbeats 4000000 in
theorem approx_Error_con (t1 : Table) (f2 : FD) (m3 : Int) (r4 : Ratio × Int) (h : approx_Error t1 f2 m3 = some r4) : Con False Tryd.prog 13 [(encTable t1), (encFD f2), (.int .i64 m3)] (.tup [(encRatio r4.1), (.int .i64 r4.2)]) := by
 refine zP Tryd.call13 Tryd.func13 rfl Tryd.ntmps13 fun X w hT => ?_
 simp only [approx_Error] at h
 refine zs (zr ?_)
 refine zU (zl (zn (zs (zs (zr ?_)))))
 refine zU ?_
 obtain ⟨r5, h6, h⟩ := zB h
 refine zc (approx_known_con t1 [f2] _ h6) ?_
 refine zU (zl (zn (zs (zr ?_))))
 refine zU (zl (zn ?_))
 rcases zI h with ⟨h7, h⟩ | ⟨h7, h⟩
 refine zi (zs (zr ?_))
 refine zU (zl (zn (zq (zt ?_))))
 cases h
 exact zT Tryd.results13
 refine zj (zk (zn (zs (zs (zr ?_)))))
 refine zU ?_
 obtain ⟨r8, h9, h⟩ := zB h
 refine zc (approx_measures_con m3 _ h9) ?_
 refine zU (zl (zn ?_))
 rcases zI h with ⟨h10, h⟩ | ⟨h10, h⟩
 refine zj (zk (zn (zs (zr ?_))))
 refine zU ?_
 obtain ⟨r11, h12, h⟩ := zB h
 refine zc (approx_measured_con t1 f2 m3 _ h12) ?_
 refine zU (zl (zn (zq ?_)))
 cases h
 exact zT Tryd.results13
 refine zi (zs (zr ?_))
 refine zU (zl (zn (zq (zt ?_))))
 cases h
 exact zT Tryd.results13
end Go.Proofs.YtjcdclpfeflfkaaDoor
set_option linter.unusedVariables false
set_option linter.unusedSimpArgs false
namespace Go.Proofs.YtjcdclpfeflfkaaDoor
open Go Go.Ab
set_option maxHeartbeats 4000000 in
theorem drossref01_List_con {D : Prop} (c1 : List Int) (r2 : List Value) (h : drossref01_List c1 = some r2) : Con D Tryd.prog 38 [(.slc (List.map (PV.int .u8) c1))] (.slc (List.map encValue r2)) := by
 refine zP Tryd.call38 Tryd.func38 rfl Tryd.ntmps38 fun X w hT => ?_
 simp only [drossref01_List] at h
 refine zs (zr ?_)
 refine zU (zl (zn (zs (zr ?_))))
 refine zU (zl (zn (zs (zs (zr ?_)))))
 refine zU (zl (zn (zb ?_)))
 obtain ⟨o3, h4, h⟩ := zB h
 refine zO (fun (s : List Value × Int) => ⟨[(0, .p (.slc (List.map (PV.int .u8) c1))), (3, .own 18 1 0 s.1.length), (4, .p (.int .i64 s.2))], [(18, .arr 83 3 1 (List.map AV.p (List.map encValue s.1)))]⟩) (fun (o5 : List Value) => tE (cX Tryd.f38 X w D hT) (.exit 0) ⟨[(3, .own 18 1 0 o5.length)], [(18, .arr 83 3 1 (List.map AV.p (List.map encValue o5)))]⟩) h4 ?_ ?_
 clear h h4
 intro s x h
 obtain ⟨o6, i7⟩ := s
 simp only [drossref01_List_l1] at h
 dsimp only
 refine zs (zs (zr ?_))
 refine zU (zl (zn ?_))
 rcases zI h with ⟨h8, h⟩ | ⟨h8, h⟩
 refine zi (zk (zn (zs (zb (zr ?_)))))
 obtain ⟨x9, h10, h10a, h10b, h⟩ := zX h
 refine zU ?_
 obtain ⟨r11, h12, h⟩ := zB h
 refine zc (drossref01_Of_con x9 _ h12) ?_
 obtain ⟨h13, h⟩ := ite_some h
 refine zU (zl (yn (zn (zr ?_))))
 refine zU (zl ?_)
 cases h
 exact ⟨rfl, zE⟩
 refine zj (zx (ze ?_))
 cases h
 exact ⟨rfl, zE⟩
 try simp only at h
 refine zA (yh (zn (zs (zr ?_))))
 refine zU (zl (zn (zq ?_)))
 cases h
 exact zT Tryd.results38
end Go.Proofs.YtjcdclpfeflfkaaDoor
set_option linter.unusedVariables false
set_option linter.unusedSimpArgs false
namespace Go.Proofs.YtjcdclpfeflfkaaDoor
open Go Go.Ab
set_option maxRecDepth 20000 in
set_option maxHeartbeats 4000000 in
theorem drosslaw32_example_con {D : Prop} (r1 : Table) (h : drosslaw32_example = some r1) : Con D Tryd.prog 19 [] (encTable r1) := by
 refine zP Tryd.call19 Tryd.func19 rfl Tryd.ntmps19 fun X w hT => ?_
 simp only [drosslaw32_example] at h
 refine zs (zr ?_)
 refine zU (zl (zn (zs (zr ?_))))
 refine zU (zl (zn (zs (zs (zr ?_)))))
 refine zU (zl (zn (zb ?_)))
 refine zL ⟨[(0, .loc 0 1 0 0), (1, .loc 1 1 0 0), (10, .own 10 1 0 4), (11, .p (.int .i64 4)), (12, .p (.int .i64 0))], [(0, .arr 28 3 1 [.agg [.p (.str []), .nils, .nils]]), (1, .arr 28 3 1 [.agg [.p (.str [114]), .own 4 1 0 2, .nils]]), (4, .arr 9 1 1 [.p (.str [97]), .p (.str [98])]), (10, .arr 81 1 1 [.p (.slc (List.map (PV.int .u8) [1, 1])), .p (.slc (List.map (PV.int .u8) [1, 1])), .p (.slc (List.map (PV.int .u8) [1, 2])), .p (.slc (List.map (PV.int .u8) [2, 5]))])]⟩ ?_
 obtain ⟨l2, h3, h⟩ := zB h
 replace h3 := Option.some.inj h3
 refine awp_le (st' := ⟨[(0, .loc 0 1 0 0), (1, .loc 1 1 0 0), (10, .own 10 1 0 l2.length), (11, .p (.int .i64 4)), (12, .p (.int .i64 0))], [(0, .arr 28 3 1 [.agg [.p (.str []), .nils, .nils]]), (1, .arr 28 3 1 [.agg [.p (.str [114]), .own 4 1 0 2, .nils]]), (4, .arr 9 1 1 [.p (.str [97]), .p (.str [98])]), (10, .arr 81 1 1 (List.map AV.p (List.map (encL (PV.int .u8)) l2)))]⟩) (by simp only [go_sem, seval, ← h3]; all_goals ((repeat' refine And.intro ?_ ?_) <;> first | rfl | (simp; done) | (simp; rfl) | (simp [*]; done) | (simp [*]; rfl))) ?_
 have h3n : l2.length = 4 := by rw [← h3]; rfl
 clear h3
 obtain ⟨t4, h5, h⟩ := zB h
 refine zO (fun (s : List Row × Int) => ⟨[(0, .loc 0 1 0 0), (1, .loc 1 1 0 0), (10, .own 10 1 0 l2.length), (11, .p (.int .i64 4)), (12, .p (.int .i64 s.2))], [(0, .arr 28 3 1 [.agg [.p (.str []), .nils, .nils]]), (1, .arr 28 3 1 [.agg [.p (.str [114]), .own 4 1 0 ([[97], [98]]).length, .own 25 1 0 s.1.length]]), (4, .arr 9 1 1 (List.map AV.p (List.map PV.str [[97], [98]]))), (10, .arr 81 1 1 (List.map AV.p (List.map (encL (PV.int .u8)) l2))), (25, .arr 40 2 1 (List.map AV.p (List.map encRow s.1)))]⟩) (fun (o6 : List Row) => tE (cX Tryd.f19 X w D hT) (.exit 0) ⟨[(0, .loc 0 1 0 0), (1, .loc 1 1 0 0)], [(0, .arr 28 3 1 [.agg [.p (.str []), .nils, .nils]]), (1, .arr 28 3 1 [.agg [.p (.str [114]), .own 4 1 0 ([[97], [98]]).length, .own 25 1 0 o6.length]]), (4, .arr 9 1 1 (List.map AV.p (List.map PV.str [[97], [98]]))), (25, .arr 40 2 1 (List.map AV.p (List.map encRow o6)))]⟩) h5 ?_ ?_
 clear h h3n h5
 intro s x h
 obtain ⟨t7, t8⟩ := s
 simp only [drosslaw32_example_l1] at h
 dsimp only
 refine zs (zr ?_)
 refine zU (zl (zn (zs ?_)))
 rcases zI h with ⟨h9, h⟩ | ⟨h9, h⟩
 refine zi (zk (zn (zs (zb (zs (zr ?_))))))
 obtain ⟨x10, h11, h11a, h11b, h⟩ := zX h
 refine zU (zl (zn (zd ?_)))
 refine yU ?_
 obtain ⟨r12, h13, h⟩ := zB h
 refine yc (drossref01_List_con x10 _ h13) ?_
 obtain ⟨h14, h⟩ := ite_some h
 refine yU ?_
 refine yd (yn (zn (zr ?_)))
 refine zU (zl ?_)
 cases h
 exact ⟨rfl, zE⟩
 refine zj (zx (ze ?_))
 cases h
 exact ⟨rfl, zE⟩
 try simp only at h
 refine zA (yh (zn (zs (zr ?_))))
 refine zU (zl (zn (zq ?_)))
 cases h
 exact zT Tryd.results19
end Go.Proofs.YtjcdclpfeflfkaaDoor
set_option linter.unusedVariables false
set_option linter.unusedSimpArgs false
namespace Go.Proofs.YtjcdclpfeflfkaaDoor
open Go Go.Ab
set_option maxHeartbeats 4000000 in
theorem drossref04_size_con {D : Prop} (n1 : Int) (r2 : Drossref04_Wide) (h : drossref04_size n1 = some r2) : Con D Tryd.prog 35 [(.int .i64 n1)] (encDrossref04_Wide r2) := by
 refine zP Tryd.call35 Tryd.func35 rfl Tryd.ntmps35 fun X w hT => ?_
 simp only [drossref04_size] at h
 refine zs (zr ?_)
 refine zU (zl (zn (zs (zs (zr ?_)))))
 refine zU (zl (zn ?_))
 rcases zI h with ⟨h3, h⟩ | ⟨h3, h⟩
 refine zi (zs (zr ?_))
 refine zU (zl (zn (zq (zt ?_))))
 cases h
 exact zT Tryd.results35
 refine zj (zk (zn (zs (zr ?_))))
 refine zU (zl (zn (zq ?_)))
 cases h
 exact zT Tryd.results35
end Go.Proofs.YtjcdclpfeflfkaaDoor
set_option linter.unusedVariables false
set_option linter.unusedSimpArgs false
namespace Go.Proofs.YtjcdclpfeflfkaaDoor
open Go Go.Ab
set_option maxRecDepth 20000 in
set_option maxHeartbeats 4000000 in
theorem drossref04_less_con {D : Prop} (a1 : Drossref04_Wide) (b2 : Drossref04_Wide) (r3 : Bool) (h : drossref04_less a1 b2 = some r3) : Con D Tryd.prog 36 [(encDrossref04_Wide a1), (encDrossref04_Wide b2)] (.bool r3) := by
 refine zP Tryd.call36 Tryd.func36 rfl Tryd.ntmps36 fun X w hT => ?_
 simp only [drossref04_less] at h
 refine zs (zr ?_)
 refine zU (zl (zn (zs (zr ?_))))
 refine zU ?_
 rcases zI h with ⟨h4, h⟩ | ⟨h4, h⟩
 refine zw 10 true ?_
 refine zh ?_
 refine zU (zl (zn (zq ?_)))
 cases h
 exact zT Tryd.results36
 refine zw 10 false ?_
 refine zg ?_
 refine zg ?_
 refine zg ?_
 refine zg ?_
 refine zg ?_
 refine zg ?_
 rcases zI h with ⟨h5, h⟩ | ⟨h5, h⟩
 replace h := h.symm
 refine zw 16 true ?_
 refine zg ?_
 refine zg ?_
 refine zg ?_
 refine zg ?_
 refine zg ?_
 refine zg ?_
 refine zU (zl (zn (zq ?_)))
 cases h
 exact zT Tryd.results36
 replace h := h.symm
 refine zw 16 false ?_
 refine zh ?_
 refine zg ?_
 refine zU (zl (zn (zq ?_)))
 cases h
 exact zT Tryd.results36
end Go.Proofs.YtjcdclpfeflfkaaDoor
set_option linter.unusedVariables false
set_option linter.unusedSimpArgs false
namespace Go.Proofs.YtjcdclpfeflfkaaDoor
open Go Go.Ab
set_option maxHeartbeats 4000000 in
theorem drossref04_zero_con {D : Prop} (a1 : Drossref04_Wide) (r2 : Bool) (h : drossref04_zero a1 = some r2) : Con D Tryd.prog 77 [(encDrossref04_Wide a1)] (.bool r2) := by
 refine zP Tryd.call77 Tryd.func77 rfl Tryd.ntmps77 fun X w hT => ?_
 simp only [drossref04_zero] at h
 refine zs (zr ?_)
 refine zU (zl (zn (zs (zr ?_))))
 refine zU ?_
 rcases zI h with ⟨h3, h⟩ | ⟨h3, h⟩
 replace h := h.symm
 refine zw 6 true ?_
 refine zg ?_
 refine zg ?_
 refine zg ?_
 refine zU (zl (zn (zq ?_)))
 cases h
 exact zT Tryd.results77
 refine zw 6 false ?_
 refine zh ?_
 refine zU (zl (zn (zq ?_)))
 cases h
 exact zT Tryd.results77
end Go.Proofs.YtjcdclpfeflfkaaDoor
namespace Go.Proofs.YtjcdclpfeflfkaaDoor
open Go Go.Ab
theorem ext109 (x y c : Nat) (hc : c ≤ 1) (w : World) : (callFunc 109 #[.int .u64 x, .int .u64 y, .int .u64 c]).run Tryd.prog w = .ok (.value (.tuple #[.int .u64 (((x + y + c) % 18446744073709551616 : Nat) : Int), .int .u64 (((x + y + c) / 18446744073709551616 : Nat) : Int)])) w := by
  rw [run_callFunc_extern Tryd.func109 (by kernel_rfl) (by kernel_rfl) (by kernel_rfl) (e := add64Entry) (by kernel_rfl), run_add64 x y c (by omega) (by omega) (by omega) (by omega)]
  simp only [Result.andThen]
  congr 5 <;> omega
theorem ext110 (x y b : Nat) (hb : b ≤ 1) (w : World) : (callFunc 110 #[.int .u64 x, .int .u64 y, .int .u64 b]).run Tryd.prog w = .ok (.value (.tuple #[.int .u64 (((x + 18446744073709551616 - y - b) % 18446744073709551616 : Nat) : Int), .int .u64 ((if x < y + b then 1 else 0 : Nat) : Int)])) w := by
  rw [run_callFunc_extern Tryd.func110 (by kernel_rfl) (by kernel_rfl) (by kernel_rfl) (e := sub64Entry) (by kernel_rfl), run_sub64 x y b hb]
  rfl
end Go.Proofs.YtjcdclpfeflfkaaDoor
set_option linter.unusedVariables false
set_option linter.unusedSimpArgs false
namespace Go.Proofs.YtjcdclpfeflfkaaDoor
open Go Go.Ab
set_option maxHeartbeats 4000000 in
theorem drossref04_plus_con {D : Prop} (a1 : Drossref04_Wide) (b2 : Drossref04_Wide) (r3 : Drossref04_Wide) (h : drossref04_plus a1 b2 = some r3) : Con D Tryd.prog 99 [(encDrossref04_Wide a1), (encDrossref04_Wide b2)] (encDrossref04_Wide r3) := by
 refine zP Tryd.call99 Tryd.func99 rfl Tryd.ntmps99 fun X w hT => ?_
 simp only [drossref04_plus] at h
 refine zs (zr ?_)
 refine zU (zl (zn (zs (zr ?_))))
 refine zU ?_
 obtain ⟨r4, h5, h⟩ := zB h
 refine zE3 (add_run ext109 h5) ?_
 refine zU (zl (zn (zs (zr ?_))))
 refine zU ?_
 obtain ⟨r6, h7, h⟩ := zB h
 refine zE3 (add_run ext109 h7) ?_
 refine zU (zl (zn (zs (zr ?_))))
 refine zU (zl (zn (zq ?_)))
 cases h
 exact zT Tryd.results99
end Go.Proofs.YtjcdclpfeflfkaaDoor
set_option linter.unusedVariables false
set_option linter.unusedSimpArgs false
namespace Go.Proofs.YtjcdclpfeflfkaaDoor
open Go Go.Ab
set_option maxHeartbeats 4000000 in
theorem drossref04_minus_con {D : Prop} (a1 : Drossref04_Wide) (b2 : Drossref04_Wide) (r3 : Drossref04_Wide) (h : drossref04_minus a1 b2 = some r3) : Con D Tryd.prog 100 [(encDrossref04_Wide a1), (encDrossref04_Wide b2)] (encDrossref04_Wide r3) := by
 refine zP Tryd.call100 Tryd.func100 rfl Tryd.ntmps100 fun X w hT => ?_
 simp only [drossref04_minus] at h
 refine zs (zr ?_)
 refine zU (zl (zn (zs (zr ?_))))
 refine zU ?_
 obtain ⟨r4, h5, h⟩ := zB h
 refine zE3 (sub_run ext110 h5) ?_
 refine zU (zl (zn (zs (zr ?_))))
 refine zU ?_
 obtain ⟨r6, h7, h⟩ := zB h
 refine zE3 (sub_run ext110 h7) ?_
 refine zU (zl (zn (zs (zr ?_))))
 refine zU (zl (zn (zq ?_)))
 cases h
 exact zT Tryd.results100
end Go.Proofs.YtjcdclpfeflfkaaDoor
set_option linter.unusedVariables false
set_option linter.unusedSimpArgs false
namespace Go.Proofs.YtjcdclpfeflfkaaDoor
open Go Go.Ab
set_option maxRecDepth 20000 in
set_option maxHeartbeats 4000000 in
theorem drossref04_parts_con {D : Prop} (a1 : Drossref04_Wide) (b2 : Drossref04_Wide) (r3 : Drossref04_Wide × Drossref04_Wide) (h : drossref04_parts a1 b2 = some r3) : Con D Tryd.prog 78 [(encDrossref04_Wide a1), (encDrossref04_Wide b2)] (.tup [(encDrossref04_Wide r3.1), (encDrossref04_Wide r3.2)]) := by
 refine zP Tryd.call78 Tryd.func78 rfl Tryd.ntmps78 fun X w hT => ?_
 simp only [drossref04_parts] at h
 refine zs (zr ?_)
 refine zU (zl (zn (zs (zr ?_))))
 refine zU (zl (zn (zs (zs (zr ?_)))))
 refine zU (zl (zn (zb ?_)))
 obtain ⟨o4, h5, h⟩ := zB h
 refine zO (fun (s : Drossref04_Wide × Drossref04_Wide × Int) => ⟨[(2, .loc 2 1 0 0), (3, .loc 3 1 0 0), (4, .loc 4 1 0 0), (5, .loc 5 1 0 0), (6, .loc 6 1 0 0), (7, .loc 7 1 0 0), (8, .p (.int .i64 s.2.2))], [(2, .arr 77 2 1 [.p (encDrossref04_Wide a1)]), (3, .arr 77 2 1 [.p (encDrossref04_Wide b2)]), (4, .arr 77 2 1 [.p (.agg [.int .u64 0, .int .u64 0])]), (5, .arr 77 2 1 [.p (.agg [.int .u64 0, .int .u64 0])]), (6, .arr 77 2 1 [.p (encDrossref04_Wide s.1)]), (7, .arr 77 2 1 [.p (encDrossref04_Wide s.2.1)])]⟩) (fun (o6 : Drossref04_Wide × Drossref04_Wide) => tE (cX Tryd.f78 X w D hT) (.exit 0) ⟨[(4, .loc 4 1 0 0), (5, .loc 5 1 0 0), (6, .loc 6 1 0 0), (7, .loc 7 1 0 0)], [(4, .arr 77 2 1 [.p (.agg [.int .u64 0, .int .u64 0])]), (5, .arr 77 2 1 [.p (.agg [.int .u64 0, .int .u64 0])]), (6, .arr 77 2 1 [.p (encDrossref04_Wide o6.1)]), (7, .arr 77 2 1 [.p (encDrossref04_Wide o6.2)])]⟩) h5 ?_ ?_
 clear h h5
 intro s x h
 obtain ⟨q7, r8, i9⟩ := s
 simp only [drossref04_parts_l1] at h
 dsimp only
 refine zs (zs (zr ?_))
 refine zU (zl (zn ?_))
 rcases zI h with ⟨h10, h⟩ | ⟨h10, h⟩
 refine zi (zk (zn (zs (zb (zs (zr ?_))))))
 refine zU (zl (zn (zs (zs (zr ?_)))))
 refine zU (zl (zn ?_))
 rcases zI h with ⟨h11, h⟩ | ⟨h11, h⟩
 refine zi (zr ?_)
 refine zU (zl (zn (zs (zr ?_))))
 refine zU ?_
 obtain ⟨r12, h13, h⟩ := zB h
 refine zc (drossref04_plus_con r8 r8 _ h13) ?_
 refine zU (zl (zn (zs (zd ?_))))
 obtain ⟨h14, h⟩ := ite_none h
 refine yU ?_
 refine yd (zn (zs (zr ?_)))
 refine zU ?_
 obtain ⟨r15, h16, h⟩ := zB h
 refine zc (drossref04_plus_con q7 q7 _ h16) ?_
 refine zU (zl (zn (zs (zr ?_))))
 refine zU ?_
 obtain ⟨r17, h18, h⟩ := zB h
 refine zc (drossref04_less_con (Drossref04_Wide.mk r12.Hi (IntKind.u64.wrap (r12.Lo + (Int.tmod (Int.fdiv a1.Hi (2 ^ (min ((Int.tmod i9 64)).toNat 64))) 2)))) b2 _ h18) ?_
 refine zU (zl (zn ?_))
 rcases zI h with ⟨h19, h⟩ | ⟨h19, h⟩
 refine zj (zk (yn (zn (zr ?_))))
 refine zU (zl ?_)
 cases h
 exact ⟨rfl, zE⟩
 refine zi (zs (zr ?_))
 refine zU ?_
 obtain ⟨r20, h21, h⟩ := zB h
 refine zc (drossref04_minus_con (Drossref04_Wide.mk r12.Hi (IntKind.u64.wrap (r12.Lo + (Int.tmod (Int.fdiv a1.Hi (2 ^ (min ((Int.tmod i9 64)).toNat 64))) 2)))) b2 _ h21) ?_
 refine zU (zl (zn (zr ?_)))
 refine zU (zl (yn (zn (zr ?_))))
 refine zU (zl ?_)
 cases h
 exact ⟨rfl, zE⟩
 refine zj (zk (zn (zs (zr ?_))))
 refine zU ?_
 obtain ⟨r22, h23, h⟩ := zB h
 refine zc (drossref04_plus_con r8 r8 _ h23) ?_
 refine zU (zl (zn (zs (zd ?_))))
 obtain ⟨h24, h⟩ := ite_none h
 refine yU ?_
 refine yd (zn (zs (zr ?_)))
 refine zU ?_
 obtain ⟨r25, h26, h⟩ := zB h
 refine zc (drossref04_plus_con q7 q7 _ h26) ?_
 refine zU (zl (zn (zs (zr ?_))))
 refine zU ?_
 obtain ⟨r27, h28, h⟩ := zB h
 refine zc (drossref04_less_con (Drossref04_Wide.mk r22.Hi (IntKind.u64.wrap (r22.Lo + (Int.tmod (Int.fdiv a1.Lo (2 ^ (min ((Int.tmod i9 64)).toNat 64))) 2)))) b2 _ h28) ?_
 refine zU (zl (zn ?_))
 rcases zI h with ⟨h29, h⟩ | ⟨h29, h⟩
 refine zj (zk (yn (zn (zr ?_))))
 refine zU (zl ?_)
 cases h
 exact ⟨rfl, zE⟩
 refine zi (zs (zr ?_))
 refine zU ?_
 obtain ⟨r30, h31, h⟩ := zB h
 refine zc (drossref04_minus_con (Drossref04_Wide.mk r22.Hi (IntKind.u64.wrap (r22.Lo + (Int.tmod (Int.fdiv a1.Lo (2 ^ (min ((Int.tmod i9 64)).toNat 64))) 2)))) b2 _ h31) ?_
 refine zU (zl (zn (zr ?_)))
 refine zU (zl (yn (zn (zr ?_))))
 refine zU (zl ?_)
 cases h
 exact ⟨rfl, zE⟩
 refine zj (zx (ze ?_))
 cases h
 exact ⟨rfl, zE⟩
 obtain ⟨q32, r33⟩ := o4
 try simp only at h
 refine zA (yh (zn (zs (zd ?_))))
 refine yU ?_
 refine yd (zn (zq ?_))
 cases h
 exact zT Tryd.results78
end Go.Proofs.YtjcdclpfeflfkaaDoor
set_option linter.unusedVariables false
set_option linter.unusedSimpArgs false
namespace Go.Proofs.YtjcdclpfeflfkaaDoor
open Go Go.Ab
set_option maxHeartbeats 4000000 in
theorem drossref04_build_con {D : Prop} (n1 : Bool) (n2 : Drossref04_Wide) (d3 : Drossref04_Wide) (r4 : Ratio × Int) (h : drossref04_build n1 n2 d3 = some r4) : Con D Tryd.prog 52 [(.bool n1), (encDrossref04_Wide n2), (encDrossref04_Wide d3)] (.tup [(encRatio r4.1), (.int .i64 r4.2)]) := by
 refine zP Tryd.call52 Tryd.func52 rfl Tryd.ntmps52 fun X w hT => ?_
 simp only [drossref04_build] at h
 refine zs (zr ?_)
 refine zU (zl (zn (zs (zd ?_))))
 refine yU ?_
 refine yd (zn (zs (zb ?_)))
 obtain ⟨x5, h6, h⟩ := zB h
 refine zO (fun (s : Drossref04_Wide × Drossref04_Wide) => ⟨[(0, .p (.bool n1)), (4, .loc 4 1 0 0), (5, .loc 5 1 0 0), (6, .loc 6 1 0 0), (8, .loc 8 1 0 0), (9, .loc 9 1 0 0)], [(4, .arr 77 2 1 [.p (encDrossref04_Wide n2)]), (5, .arr 77 2 1 [.p (encDrossref04_Wide d3)]), (6, .arr 48 2 1 [.p (.agg [.int .i64 0, .int .i64 0])]), (8, .arr 77 2 1 [.p (encDrossref04_Wide s.1)]), (9, .arr 77 2 1 [.p (encDrossref04_Wide s.2)])]⟩) (fun (o7 : Drossref04_Wide) => tE (cX Tryd.f52 X w D hT) (.exit 0) ⟨[(0, .p (.bool n1)), (4, .loc 4 1 0 0), (5, .loc 5 1 0 0), (6, .loc 6 1 0 0), (8, .loc 8 1 0 0)], [(4, .arr 77 2 1 [.p (encDrossref04_Wide n2)]), (5, .arr 77 2 1 [.p (encDrossref04_Wide d3)]), (6, .arr 48 2 1 [.p (.agg [.int .i64 0, .int .i64 0])]), (8, .arr 77 2 1 [.p (encDrossref04_Wide o7)])]⟩) h6 ?_ ?_
 clear h h6
 intro s x h
 obtain ⟨x8, y9⟩ := s
 simp only [drossref04_build_l1] at h
 dsimp only
 refine zs (zs (zr ?_))
 refine zU ?_
 obtain ⟨r10, h11, h⟩ := zB h
 refine zc (drossref04_zero_con y9 _ h11) ?_
 refine zU (zl (zn ?_))
 rcases zI h with ⟨h12, h⟩ | ⟨h12, h⟩
 refine zj (zx (ze ?_))
 cases h
 exact ⟨rfl, zE⟩
 refine zi (zk (zn (zb (zs (zr ?_)))))
 refine zU ?_
 obtain ⟨r13, h14, h⟩ := zB h
 refine zc (drossref04_parts_con x8 y9 _ h14) ?_
 refine zU (zl (zn (zd ?_)))
 refine yU ?_
 refine yd (yn ?_)
 cases h
 exact ⟨rfl, zE⟩
 try simp only at h
 refine zA (yh (zn (zs (zr ?_))))
 refine zU ?_
 obtain ⟨r15, h16, h⟩ := zB h
 refine zc (drossref04_parts_con n2 x5 _ h16) ?_
 refine zU (zl (zn (zs (zr ?_))))
 refine zU ?_
 obtain ⟨r17, h18, h⟩ := zB h
 refine zc (drossref04_parts_con d3 x5 _ h18) ?_
 refine zU (zl (zn (zs (zr ?_))))
 refine zU (zl (zn (zs (zs (zr ?_)))))
 refine zU ?_
 obtain ⟨r19, h20, h⟩ := zB h
 refine zc (drossref04_less_con (Drossref04_Wide.mk 0 9223372036854775807) r15.1 _ h20) ?_
 refine zU ?_
 rcases zI h with ⟨h21, h⟩ | ⟨h21, h⟩
 refine zw 43 true ?_
 refine zh ?_
 refine zU (zl (zn ?_))
 refine zi (zs (zr ?_))
 refine zU (zl (zn (zq (zt ?_))))
 cases h
 exact zT Tryd.results52
 refine zw 43 false ?_
 refine zg ?_
 refine zg ?_
 obtain ⟨r22, h23, h⟩ := zB h
 refine zc (drossref04_less_con (Drossref04_Wide.mk 0 9223372036854775807) r17.1 _ h23) ?_
 refine zU (zl (zn ?_))
 rcases zI h with ⟨h24, h⟩ | ⟨h24, h⟩
 refine zi (zs (zr ?_))
 refine zU (zl (zn (zq (zt ?_))))
 cases h
 exact zT Tryd.results52
 refine zj (zk (zn (zs (zr ?_))))
 refine zU (zl (zn (zs (zs (zr ?_)))))
 refine zU (zl (zn ?_))
 rcases zI h with ⟨h25, h⟩ | ⟨h25, h⟩
 refine zi (zr ?_)
 refine zU (zl (zn (zs (zr ?_))))
 refine zU (zl (zn (zq ?_)))
 cases h
 exact zT Tryd.results52
 refine zj (zk (zn (zs (zr ?_))))
 refine zU (zl (zn (zq ?_)))
 cases h
 exact zT Tryd.results52
end Go.Proofs.YtjcdclpfeflfkaaDoor
set_option linter.unusedVariables false
set_option linter.unusedSimpArgs false
namespace Go.Proofs.YtjcdclpfeflfkaaDoor
open Go Go.Ab
set_option maxHeartbeats 4000000 in
theorem drossref04_Make_con {D : Prop} (n1 : Int) (d2 : Int) (r3 : Ratio × Int) (h : drossref04_Make n1 d2 = some r3) : Con D Tryd.prog 39 [(.int .i64 n1), (.int .i64 d2)] (.tup [(encRatio r3.1), (.int .i64 r3.2)]) := by
 refine zP Tryd.call39 Tryd.func39 rfl Tryd.ntmps39 fun X w hT => ?_
 simp only [drossref04_Make] at h
 refine zs (zr ?_)
 refine zU (zl (zn (zs (zs (zr ?_)))))
 refine zU (zl (zn ?_))
 rcases zI h with ⟨h4, h⟩ | ⟨h4, h⟩
 refine zi (zs (zr ?_))
 refine zU (zl (zn (zq (zt ?_))))
 cases h
 exact zT Tryd.results39
 refine zj (zk (zn (zs (zr ?_))))
 refine zU ?_
 obtain ⟨r5, h6, h⟩ := zB h
 refine zc (drossref04_size_con n1 _ h6) ?_
 refine zU ?_
 obtain ⟨r7, h8, h⟩ := zB h
 refine zc (drossref04_size_con d2 _ h8) ?_
 obtain ⟨r9, h10, h⟩ := zB h
 refine zc (drossref04_build_con (!((decide (n1 < 0)) == (decide (d2 < 0)))) r5 r7 _ h10) ?_
 refine zU (zl (zn (zq ?_)))
 cases h
 exact zT Tryd.results39
end Go.Proofs.YtjcdclpfeflfkaaDoor
set_option linter.unusedVariables false
set_option linter.unusedSimpArgs false
namespace Go.Proofs.YtjcdclpfeflfkaaDoor
open Go Go.Ab
set_option maxHeartbeats 4000000 in
theorem drossref04_Of_con {D : Prop} (n1 : Int) (d2 : Int) (r3 : Ratio) (h : drossref04_Of n1 d2 = some r3) : Con D Tryd.prog 20 [(.int .i64 n1), (.int .i64 d2)] (encRatio r3) := by
 refine zP Tryd.call20 Tryd.func20 rfl Tryd.ntmps20 fun X w hT => ?_
 simp only [drossref04_Of] at h
 refine zs (zr ?_)
 refine zU (zl (zn (zs (zr ?_))))
 refine zU ?_
 obtain ⟨r4, h5, h⟩ := zB h
 refine zc (drossref04_Make_con n1 d2 _ h5) ?_
 refine zU (zl (zn (zs (zs (zr ?_)))))
 refine zU (zl (zn ?_))
 rcases zI h with ⟨h6, h⟩ | ⟨h6, h⟩
 refine zi (zs (zr ?_))
 refine zU (zl (zn (zq (zt ?_))))
 cases h
 exact zT Tryd.results20
 refine zj (zk (zn (zs (zr ?_))))
 refine zU (zl (zn (zq ?_)))
 cases h
 exact zT Tryd.results20
end Go.Proofs.YtjcdclpfeflfkaaDoor
set_option linter.unusedVariables false
set_option linter.unusedSimpArgs false
namespace Go.Proofs.YtjcdclpfeflfkaaDoor
open Go Go.Ab
set_option maxHeartbeats 4000000 in
theorem drossref03_IDs_con {D : Prop} (a1 : List Int) (b2 : List Int) (r3 : Bool) (h : drossref03_IDs a1 b2 = some r3) : Con D Tryd.prog 21 [(.slc (List.map (PV.int .i64) a1)), (.slc (List.map (PV.int .i64) b2))] (.bool r3) := by
 refine zP Tryd.call21 Tryd.func21 rfl Tryd.ntmps21 fun X w hT => ?_
 simp only [drossref03_IDs] at h
 refine zs (zr ?_)
 refine zU (zl (zn (zs (zs (zr ?_)))))
 refine zU (zl (zn ?_))
 rcases zI h with ⟨h4, h⟩ | ⟨h4, h⟩
 refine zi (zs (zr ?_))
 refine zU (zl (zn (zq (zt ?_))))
 cases h
 exact zT Tryd.results21
 refine zj (zk (zn (zs (zs (zr ?_)))))
 refine zU (zl (zn (zb ?_)))
 obtain ⟨o5, h6, h⟩ := zB h
 refine zO (fun (s : Int) => ⟨[(0, .p (.slc (List.map (PV.int .i64) a1))), (1, .p (.slc (List.map (PV.int .i64) b2))), (5, .p (.int .i64 s))], []⟩) (fun (o : (Unit) ⊕ (Bool)) => match o with | .inl o7 => tE (cX Tryd.f21 X w D hT) (.exit 0) ⟨[], []⟩ | .inr o8 => tR Tryd.prog Tryd.f21 (.bool o8)) h6 ?_ ?_
 clear h h4 h6
 intro i9 x h
 simp only [drossref03_IDs_l1] at h
 refine zs (zs (zr ?_))
 refine zU (zl (zn ?_))
 rcases zI h with ⟨h10, h⟩ | ⟨h10, h⟩
 refine zi (zk (zn (zs (zb (zs (zd ?_))))))
 obtain ⟨x11, h12, h12a, h12b, h⟩ := zX h
 obtain ⟨x13, h14, h14a, h14b, h⟩ := zX h
 refine yU ?_
 refine yd (zn ?_)
 rcases zI h with ⟨h15, h⟩ | ⟨h15, h⟩
 refine zi (zs (zr ?_))
 refine zU (zl (zn (zq (yr (zt ?_)))))
 cases h
 exact ⟨rfl, zT Tryd.results21⟩
 refine zj (zk (yn (zn (zr ?_))))
 refine zU (zl ?_)
 cases h
 exact ⟨rfl, zE⟩
 refine zj (zx (ze ?_))
 cases h
 exact ⟨rfl, zE⟩
 rcases o5 with ⟨⟩ | r16
 try simp only at h
 refine zA (yh (zn (zs (zr ?_))))
 refine zU (zl (zn (zq ?_)))
 cases h
 exact zT Tryd.results21
 try simp only at h
 refine zZ fun s hq => ?_
 refine yr (zt ?_)
 cases h
 exact hq
end Go.Proofs.YtjcdclpfeflfkaaDoor
set_option linter.unusedVariables false
set_option linter.unusedSimpArgs false
namespace Go.Proofs.YtjcdclpfeflfkaaDoor
open Go Go.Ab
set_option maxRecDepth 20000 in
set_option maxHeartbeats 4000000 in
theorem drosslaw32_awake_con  (r1 : Bool) (h : drosslaw32_awake = some r1) : Con False Tryd.prog 8 [] (.bool r1) := by
 refine zP Tryd.call8 Tryd.func8 rfl Tryd.ntmps8 fun X w hT => ?_
 simp only [drosslaw32_awake] at h
 refine zs (zr ?_)
 refine zU (zl (zn (zs (zr ?_))))
 refine zU (zl (zn (zs (zd ?_))))
 obtain ⟨r2, h3, h⟩ := zB h
 refine yc (drosslaw32_example_con  _ h3) ?_
 refine yU ?_
 obtain ⟨r4, h5, h⟩ := zB h
 refine yc (approx_Error_con r2 (FD.mk 1 2) 1 _ h5) ?_
 refine yU ?_
 refine yd (zn (zs (zd ?_)))
 obtain ⟨r6, h7, h⟩ := zB h
 refine yc (drosslaw32_example_con  _ h7) ?_
 refine yU ?_
 obtain ⟨r8, h9, h⟩ := zB h
 refine yc (approx_Error_con r6 (FD.mk 1 2) 2 _ h9) ?_
 refine yU ?_
 refine yd (zn (zs (zd ?_)))
 obtain ⟨r10, h11, h⟩ := zB h
 refine yc (drosslaw32_example_con  _ h11) ?_
 refine yU ?_
 obtain ⟨r12, h13, h⟩ := zB h
 refine yc (approx_Error_con r10 (FD.mk 1 2) 3 _ h13) ?_
 refine yU ?_
 refine yd (zn (zs (zd ?_)))
 obtain ⟨r14, h15, h⟩ := zB h
 refine yc (drosslaw32_example_con  _ h15) ?_
 refine yU ?_
 obtain ⟨r16, h17, h⟩ := zB h
 refine yc (approx_Removal_con r14 (FD.mk 1 2) _ h17) ?_
 refine yU ?_
 refine yd (zn (zs (zd ?_)))
 refine yU ?_
 rcases zI h with ⟨h18, h⟩ | ⟨h18, h⟩
 refine yw 37 true ?_
 refine yg ?_
 refine yg ?_
 refine yU ?_
 rcases zI h with ⟨h19, h⟩ | ⟨h19, h⟩
 refine yw 41 true ?_
 refine yg ?_
 refine yg ?_
 refine yU ?_
 rcases zI h with ⟨h20, h⟩ | ⟨h20, h⟩
 refine yw 45 true ?_
 refine yg ?_
 refine yg ?_
 refine yU ?_
 rcases zI h with ⟨h21, h⟩ | ⟨h21, h⟩
 refine yw 49 true ?_
 refine yg ?_
 obtain ⟨r22, h23, h⟩ := zB h
 refine yc (drossref04_Of_con 1 4 _ h23) ?_
 refine yg ?_
 refine yU ?_
 rcases zI h with ⟨h24, h⟩ | ⟨h24, h⟩
 refine yw 54 true ?_
 refine yg ?_
 obtain ⟨r25, h26, h⟩ := zB h
 refine yc (drossref04_Of_con 3 4 _ h26) ?_
 refine yg ?_
 refine yU ?_
 rcases zI h with ⟨h27, h⟩ | ⟨h27, h⟩
 refine yw 59 true ?_
 refine yg ?_
 obtain ⟨r28, h29, h⟩ := zB h
 refine yc (drossref04_Of_con 1 4 _ h29) ?_
 refine yg ?_
 refine yU ?_
 rcases zI h with ⟨h30, h⟩ | ⟨h30, h⟩
 refine yw 64 true ?_
 refine yg ?_
 refine yg ?_
 obtain ⟨r31, h32, h⟩ := zB h
 refine yc (drossref03_IDs_con r16.1 [3] _ h32) ?_
 refine yU ?_
 refine yd (zn (zq ?_))
 cases h
 exact zT Tryd.results8
 refine yw 64 false ?_
 refine yk ?_
 refine yU ?_
 refine yd (zn (zq ?_))
 cases h
 exact zT Tryd.results8
 refine yw 59 false ?_
 refine yk ?_
 refine yU ?_
 refine yk ?_
 refine yU ?_
 refine yd (zn (zq ?_))
 cases h
 exact zT Tryd.results8
 refine yw 54 false ?_
 refine yk ?_
 refine yU ?_
 refine yk ?_
 refine yU ?_
 refine yk ?_
 refine yU ?_
 refine yd (zn (zq ?_))
 cases h
 exact zT Tryd.results8
 refine yw 49 false ?_
 refine yk ?_
 refine yU ?_
 refine yk ?_
 refine yU ?_
 refine yk ?_
 refine yU ?_
 refine yk ?_
 refine yU ?_
 refine yd (zn (zq ?_))
 cases h
 exact zT Tryd.results8
 refine yw 45 false ?_
 refine yk ?_
 refine yU ?_
 refine yk ?_
 refine yU ?_
 refine yk ?_
 refine yU ?_
 refine yk ?_
 refine yU ?_
 refine yk ?_
 refine yU ?_
 refine yd (zn (zq ?_))
 cases h
 exact zT Tryd.results8
 refine yw 41 false ?_
 refine yk ?_
 refine yU ?_
 refine yk ?_
 refine yU ?_
 refine yk ?_
 refine yU ?_
 refine yk ?_
 refine yU ?_
 refine yk ?_
 refine yU ?_
 refine yk ?_
 refine yU ?_
 refine yd (zn (zq ?_))
 cases h
 exact zT Tryd.results8
 refine yw 37 false ?_
 refine yk ?_
 refine yU ?_
 refine yk ?_
 refine yU ?_
 refine yk ?_
 refine yU ?_
 refine yk ?_
 refine yU ?_
 refine yk ?_
 refine yU ?_
 refine yk ?_
 refine yU ?_
 refine yk ?_
 refine yU ?_
 refine yd (zn (zq ?_))
 cases h
 exact zT Tryd.results8
end Go.Proofs.YtjcdclpfeflfkaaDoor
set_option linter.unusedVariables false
set_option linter.unusedSimpArgs false
namespace Go.Proofs.YtjcdclpfeflfkaaDoor
open Go Go.Ab
set_option maxHeartbeats 4000000 in
theorem drossref02_Full_con {D : Prop} (n1 : Int) (r2 : Int) (h : drossref02_Full n1 = some r2) : Con D Tryd.prog 9 [(.int .i64 n1)] (.int .u32 r2) := by
 refine zP Tryd.call9 Tryd.func9 rfl Tryd.ntmps9 fun X w hT => ?_
 simp only [drossref02_Full] at h
 refine zs (zr ?_)
 refine zU (zl (zn (zs (zr ?_))))
 refine zU (zl (zn (zs (zs (zr ?_)))))
 refine zU (zl (zn (zb ?_)))
 obtain ⟨s3, h4, h⟩ := zB h
 refine zO (fun (s : Int × Int) => ⟨[(0, .p (.int .i64 n1)), (3, .p (.int .u32 s.1)), (4, .p (.int .i64 s.2))], []⟩) (fun (o5 : Int) => tE (cX Tryd.f9 X w D hT) (.exit 0) ⟨[(3, .p (.int .u32 o5))], []⟩) h4 ?_ ?_
 clear h h4
 intro s x h
 obtain ⟨s6, i7⟩ := s
 simp only [drossref02_Full_l1] at h
 dsimp only
 refine zs (zs (zr ?_))
 refine zU ?_
 rcases zI h with ⟨h8, h⟩ | ⟨h8, h⟩
 refine zw 8 true ?_
 refine zg ?_
 refine zg ?_
 refine zU (zl (zn ?_))
 rcases zI h with ⟨h9, h⟩ | ⟨h9, h⟩
 refine zi (zk (zn (zs (zb (zr ?_)))))
 obtain ⟨h10, h⟩ := ite_none h
 refine zU (zl (yn (zn (zr ?_))))
 refine zU (zl ?_)
 cases h
 exact ⟨rfl, zE⟩
 refine zj (zx (ze ?_))
 cases h
 exact ⟨rfl, zE⟩
 refine zw 8 false ?_
 refine zh ?_
 refine zU (zl (zn ?_))
 refine zj (zx (ze ?_))
 cases h
 exact ⟨rfl, zE⟩
 try simp only at h
 refine zA (yh (zn (zs (zr ?_))))
 refine zU (zl (zn (zq ?_)))
 cases h
 exact zT Tryd.results9
end Go.Proofs.YtjcdclpfeflfkaaDoor
set_option linter.unusedVariables false
set_option linter.unusedSimpArgs false
namespace Go.Proofs.YtjcdclpfeflfkaaDoor
open Go Go.Ab
set_option maxHeartbeats 4000000 in
theorem bits_Mul64_con {D : Prop} (x1 : Int) (y2 : Int) (r3 : Int × Int) (h : bits_Mul64 x1 y2 = some r3) : Con D Tryd.prog 51 [(.int .u64 x1), (.int .u64 y2)] (.tup [(.int .u64 r3.1), (.int .u64 r3.2)]) := by
 refine zP Tryd.call51 Tryd.func51 rfl Tryd.ntmps51 fun X w hT => ?_
 simp only [bits_Mul64] at h
 refine zs (zr ?_)
 refine zU (zl (zn (zs (zr ?_))))
 refine zU (zl (zn (zs (zr ?_))))
 refine zU (zl (zn (zs (zr ?_))))
 refine zU (zl (zn (zs (zr ?_))))
 refine zU (zl (zn (zs (zr ?_))))
 refine zU (zl (zn (zs (zr ?_))))
 refine zU (zl (zn (zs (zr ?_))))
 refine zU (zl (zn (zs (zr ?_))))
 refine zU (zl (zn (zs (zr ?_))))
 refine zU (zl (zn (zs (zr ?_))))
 refine zU (zl (zn (zs (zr ?_))))
 refine zU (zl (zn (zq ?_)))
 cases h
 exact zT Tryd.results51
end Go.Proofs.YtjcdclpfeflfkaaDoor
set_option linter.unusedVariables false
set_option linter.unusedSimpArgs false
namespace Go.Proofs.YtjcdclpfeflfkaaDoor
open Go Go.Ab
set_option maxHeartbeats 4000000 in
theorem drossref04_times_con {D : Prop} (a1 : Drossref04_Wide) (b2 : Drossref04_Wide) (r3 : Drossref04_Wide) (h : drossref04_times a1 b2 = some r3) : Con D Tryd.prog 34 [(encDrossref04_Wide a1), (encDrossref04_Wide b2)] (encDrossref04_Wide r3) := by
 refine zP Tryd.call34 Tryd.func34 rfl Tryd.ntmps34 fun X w hT => ?_
 simp only [drossref04_times] at h
 refine zs (zr ?_)
 refine zU (zl (zn (zs (zr ?_))))
 refine zU ?_
 obtain ⟨r4, h5, h⟩ := zB h
 refine zc (bits_Mul64_con a1.Lo b2.Lo _ h5) ?_
 refine zU (zl (zn (zs (zr ?_))))
 refine zU (zl (zn (zq ?_)))
 cases h
 exact zT Tryd.results34
end Go.Proofs.YtjcdclpfeflfkaaDoor
set_option linter.unusedVariables false
set_option linter.unusedSimpArgs false
namespace Go.Proofs.YtjcdclpfeflfkaaDoor
open Go Go.Ab
set_option maxRecDepth 20000 in
set_option maxHeartbeats 4000000 in
theorem drossref04_Cmp_con {D : Prop} (a1 : Ratio) (b2 : Ratio) (r3 : Int) (h : drossref04_Cmp a1 b2 = some r3) : Con D Tryd.prog 17 [(encRatio a1), (encRatio b2)] (.int .i64 r3) := by
 refine zP Tryd.call17 Tryd.func17 rfl Tryd.ntmps17 fun X w hT => ?_
 simp only [drossref04_Cmp] at h
 refine zs (zr ?_)
 refine zU (zl (zn (zs (zs (zr ?_)))))
 refine zU (zl (zn ?_))
 rcases zI h with ⟨h4, h⟩ | ⟨h4, h⟩
 refine zj (zk (zn (zs (zd ?_))))
 refine yU ?_
 obtain ⟨r5, h6, h⟩ := zB h
 refine yc (drossref04_size_con a1.Num _ h6) ?_
 refine yU ?_
 obtain ⟨r7, h8, h⟩ := zB h
 refine yc (drossref04_size_con b2.Den _ h8) ?_
 obtain ⟨r9, h10, h⟩ := zB h
 refine yc (drossref04_times_con r5 r7 _ h10) ?_
 refine yU ?_
 obtain ⟨r11, h12, h⟩ := zB h
 refine yc (drossref04_size_con b2.Num _ h12) ?_
 refine yU ?_
 obtain ⟨r13, h14, h⟩ := zB h
 refine yc (drossref04_size_con a1.Den _ h14) ?_
 obtain ⟨r15, h16, h⟩ := zB h
 refine yc (drossref04_times_con r11 r13 _ h16) ?_
 refine yU ?_
 refine yd (zn (zs (zs (zr ?_))))
 refine zU (zl (zn ?_))
 rcases zI h with ⟨h17, h⟩ | ⟨h17, h⟩
 refine zi (zr ?_)
 refine zU (zl (zn (zs (zs (zr ?_)))))
 refine zU ?_
 obtain ⟨r18, h19, h⟩ := zB h
 refine zc (drossref04_less_con r15 r9 _ h19) ?_
 refine zl (zn ?_)
 rcases zI h with ⟨h20, h⟩ | ⟨h20, h⟩
 refine zi (zs (zr ?_))
 refine zU (zl (zn (zq (zt ?_))))
 cases h
 exact zT Tryd.results17
 refine zj (zk (zn (zs (zs (zr ?_)))))
 refine zU ?_
 obtain ⟨r21, h22, h⟩ := zB h
 refine zc (drossref04_less_con r9 r15 _ h22) ?_
 refine zl (zn ?_)
 rcases zI h with ⟨h23, h⟩ | ⟨h23, h⟩
 refine zi (zs (zr ?_))
 refine zU (zl (zn (zq (zt ?_))))
 cases h
 exact zT Tryd.results17
 refine zj (zk (zn (zs (zr ?_))))
 refine zU (zl (zn (zq ?_)))
 cases h
 exact zT Tryd.results17
 refine zj (zk (zn (zs (zs (zr ?_)))))
 refine zU ?_
 obtain ⟨r24, h25, h⟩ := zB h
 refine zc (drossref04_less_con r9 r15 _ h25) ?_
 refine zl (zn ?_)
 rcases zI h with ⟨h26, h⟩ | ⟨h26, h⟩
 refine zi (zs (zr ?_))
 refine zU (zl (zn (zq (zt ?_))))
 cases h
 exact zT Tryd.results17
 refine zj (zk (zn (zs (zs (zr ?_)))))
 refine zU ?_
 obtain ⟨r27, h28, h⟩ := zB h
 refine zc (drossref04_less_con r15 r9 _ h28) ?_
 refine zl (zn ?_)
 rcases zI h with ⟨h29, h⟩ | ⟨h29, h⟩
 refine zi (zs (zr ?_))
 refine zU (zl (zn (zq (zt ?_))))
 cases h
 exact zT Tryd.results17
 refine zj (zk (zn (zs (zr ?_))))
 refine zU (zl (zn (zq ?_)))
 cases h
 exact zT Tryd.results17
 refine zi (zs (zs (zr ?_)))
 refine zU (zl (zn ?_))
 rcases zI h with ⟨h30, h⟩ | ⟨h30, h⟩
 refine zi (zs (zr ?_))
 refine zU (zl (zn (zq (zt (zt ?_)))))
 cases h
 exact zT Tryd.results17
 refine zj (zk (zn (zs (zr ?_))))
 refine zU (zl (zn (zq (zt ?_))))
 cases h
 exact zT Tryd.results17
end Go.Proofs.YtjcdclpfeflfkaaDoor
set_option linter.unusedVariables false
set_option linter.unusedSimpArgs false
namespace Go.Proofs.YtjcdclpfeflfkaaDoor
open Go Go.Ab
set_option maxRecDepth 20000 in
set_option maxHeartbeats 4000000 in
theorem drosslaw32_ApproxMonotone_con (x4 : Drossref03_Recipe) (l5 : Arr4_uint8) (m6 : Int) (r7 : Bool) (h : drosslaw32_ApproxMonotone x4 l5 m6 = some r7) : Con False Tryd.prog 6 [(encDrossref03_Recipe x4), (encArr4_uint8 l5), (.int .u8 m6)] (.bool r7) := by
 refine zP Tryd.call6 Tryd.func6 rfl Tryd.ntmps6 fun X w hT => ?_
 simp only [drosslaw32_ApproxMonotone] at h
 refine zs (zr ?_)
 refine zU (zl (zn (zs (zr ?_))))
 refine zU ?_
 obtain ⟨r8, h9, h⟩ := zB h
 refine zc (drossref03_Table_con x4 8 _ h9) ?_
 refine zU (zl (zn (zs ?_)))
 obtain ⟨t10, h11, h⟩ := zB h
 refine zJ (fun (o12 : Bool) => tE (cX Tryd.f6 X w False hT) .normal ⟨[(2, .p (.int .u8 m6)), (4, .loc 4 1 0 0), (7, .loc 7 1 0 0), (27, .p (.bool o12))], [(4, .arr 54 4 1 [.p (encArr4_uint8 l5)]), (7, .arr 28 3 1 [.p (encTable r8.1)])]⟩) t10 ?_ ?_
 replace h := h11
 clear h11
 refine zr ?_
 obtain ⟨r13, h14, h⟩ := zB h
 refine zc (drosslaw32_awake_con  _ h14) ?_
 refine zU ?_
 rcases zI h with ⟨h15, h⟩ | ⟨h15, h⟩
 replace h := h.symm
 refine zw 24 false ?_
 refine zg ?_
 refine zg ?_
 refine zU (zl ?_)
 cases h
 exact ⟨rfl, zE⟩
 refine zw 24 true ?_
 refine zh ?_
 refine zU (zl ?_)
 cases h
 exact ⟨rfl, zE⟩
 try simp only at h
 refine zA (zn ?_)
 rcases zI h with ⟨h16, h⟩ | ⟨h16, h⟩
 refine zi (zs (zr ?_))
 obtain ⟨r17, h18, h⟩ := zB h
 refine zc (drosslaw32_awake_con  _ h18) ?_
 refine zU (zl (zn (zq (zt ?_))))
 cases h
 exact zT Tryd.results6
 refine zj (zk (zn (zs (zr ?_))))
 refine zU ?_
 obtain ⟨r19, h20, h⟩ := zB h
 refine zc (drossref02_Full_con (r8.1.Attrs.length : Int) _ h20) ?_
 refine zU (zl (zn (zs (zr ?_))))
 refine zU (zl (zn (zs (zr ?_))))
 refine zU (zl (zn (zs (zr ?_))))
 refine zU (zl (zn (zs (zr ?_))))
 refine zU ?_
 obtain ⟨r21, h22, h⟩ := zB h
 refine zc (approx_Error_con r8.1 (FD.mk (IntKind.u32.wrap ((BitVec.ofInt 32 (IntKind.u32.wrap l5.x0) &&& (BitVec.ofInt 32 r19)).toNat : Int)) (IntKind.u32.wrap ((BitVec.ofInt 32 (IntKind.u32.wrap l5.x1) &&& (BitVec.ofInt 32 r19)).toNat : Int))) (IntKind.i64.wrap (1 + (IntKind.i64.wrap (Int.tmod m6 3)))) _ h22) ?_
 refine zU (zl (zn (zs (zr ?_))))
 refine zU ?_
 obtain ⟨r23, h24, h⟩ := zB h
 refine zc (approx_Error_con r8.1 (FD.mk (IntKind.u32.wrap ((BitVec.ofInt 32 (IntKind.u32.wrap ((BitVec.ofInt 32 (IntKind.u32.wrap l5.x0) &&& (BitVec.ofInt 32 r19)).toNat : Int)) ||| (BitVec.ofInt 32 (IntKind.u32.wrap ((BitVec.ofInt 32 (IntKind.u32.wrap l5.x2) &&& (BitVec.ofInt 32 r19)).toNat : Int)))).toNat : Int)) (IntKind.u32.wrap ((BitVec.ofInt 32 (IntKind.u32.wrap ((BitVec.ofInt 32 (IntKind.u32.wrap l5.x1) &&& (BitVec.ofInt 32 r19)).toNat : Int)) &&& (BitVec.ofInt 32 (IntKind.u32.wrap l5.x3))).toNat : Int))) (IntKind.i64.wrap (1 + (IntKind.i64.wrap (Int.tmod m6 3)))) _ h24) ?_
 refine zU (zl (zn (zs (zr ?_))))
 refine zU ?_
 rcases zI h with ⟨h25, h⟩ | ⟨h25, h⟩
 refine zw 79 true ?_
 refine zg ?_
 refine zg ?_
 refine zU ?_
 rcases zI h with ⟨h26, h⟩ | ⟨h26, h⟩
 refine zw 83 true ?_
 refine zg ?_
 refine zg ?_
 obtain ⟨r27, h28, h⟩ := zB h
 replace h := h.symm
 refine zc (drossref04_Cmp_con r23.1 r21.1 _ h28) ?_
 refine zg ?_
 refine zU (zl (zn (zq ?_)))
 cases h
 exact zT Tryd.results6
 refine zw 83 false ?_
 refine zh ?_
 refine zU (zl (zn (zq ?_)))
 cases h
 exact zT Tryd.results6
 refine zw 79 false ?_
 refine zh ?_
 refine zU ?_
 refine zh ?_
 refine zU (zl (zn (zq ?_)))
 cases h
 exact zT Tryd.results6
end Go.Proofs.YtjcdclpfeflfkaaDoor
