/- Each function of the program computes what its Lean function says, where that has a value. -/
import Derived.Shelf.SlSortCmp.NoneTotal
import Derived.Ground.SlsfProg
import Derived.Shelf.SortM.Plain
import Derived.Shelf.SortM.SortNone
import Derived.Ground.SlgmProg
import Derived.Shelf.Strings.Builder1
import Derived.Ground.NamesProg
import Derived.Shelf.Small.Strs
import Derived.Shelf.Spec.BitsCarry
import Derived.Test.YtjcdclpfeflfkaaGreatDoorT1
import Derived.Test.YtjcdclpfeflfkaaGreatDoorL1
import Derived.Test.YtjcdclpfeflfkaaGreatDoorA3
set_option linter.unusedVariables false
set_option linter.unusedSimpArgs false
namespace Go.Proofs.YtjcdclpfeflfkaaGreatDoor
open Go Go.Ab
theorem mixed : Tryz.prog.follows .mixedOrders = true := by kernel_rfl
@[reducible] noncomputable def cX (f : Func) (X : Nat → Prop) (w : World) (D : Prop) (hT : TabOk Tryz.prog (fun b => X b ∨ F (fun _ => none) (hget []) b) w) : Cx := ⟨Tryz.prog, f.ntmps, 0, X, [], fun _ => none, w, D, hT⟩
theorem zd {N B : Nat} {X : Nat → Prop} {H0 : List (Nat × AO)} {inj0 : Inj} {w0 : World} {D : Prop} {tb : TabOk Tryz.prog (fun b => X b ∨ F inj0 (hget H0) b) w0} {Q : Exit → St → Prop} {st : St} {id : Nat} {l : List Oper} (h : DGo ⟨Tryz.prog, N, B, X, H0, inj0, w0, D, tb⟩ l.toArray l st [] (DK ⟨Tryz.prog, N, B, X, H0, inj0, w0, D, tb⟩ l.toArray Q)) (hs : slotsOk l.toArray = true := by kernel_rfl) : AWp ⟨Tryz.prog, N, B, X, H0, inj0, w0, D, tb⟩ (.region id l.toArray true) Q st := awp_drawn_walk mixed hs h
theorem zdl (n : Nat) {N B : Nat} {X : Nat → Prop} {H0 : List (Nat × AO)} {inj0 : Inj} {w0 : World} {D : Prop} {tb : TabOk Tryz.prog (fun b => X b ∨ F inj0 (hget H0) b) w0} {Q : Exit → St → Prop} {st : St} {id : Nat} {l : List Oper} (h : DGo ⟨Tryz.prog, N, B, X, H0, inj0, w0, D, tb⟩ l.toArray (l.take n) st [] (DKL ⟨Tryz.prog, N, B, X, H0, inj0, w0, D, tb⟩ l.toArray (l.drop n) Q)) (hs : slotsOk l.toArray = true := by kernel_rfl) (hl : lastOk l.toArray n = true := by kernel_rfl) : AWp ⟨Tryz.prog, N, B, X, H0, inj0, w0, D, tb⟩ (.region id l.toArray true) Q st := awp_drawn_last n mixed hs hl h
def encValue (x : Value) : PV := .agg [.int .i64 x.Kind, .int .i64 x.Num, .str x.Str]
@[go_sem] theorem encValue_fold (x : Value) : PV.agg [.int .i64 x.Kind, .int .i64 x.Num, .str x.Str] = encValue x := rfl
@[go_sem] theorem encValue_cells (x : Value) : (encValue x).cells = [.int .i64 x.Kind, .int .i64 x.Num, .str x.Str] := rfl
@[go_sem] theorem encValue_isAgg (x : Value) : (encValue x).isAgg = true := rfl
@[go_sem] theorem encValue_isTup (x : Value) : (encValue x).isTup = false := rfl
@[go_sem] theorem encValue_sl (l : List Value) : ((l.map encValue).all fun y => y.cells.length == 3) = true := by simp [encValue, PV.cells]
@[go_sem] theorem encValue_ok (l : List Value) : ((l.map encValue).map AV.p).all (elemOk 3) = true := elemOkAll_map _ _ _ fun _ => ⟨rfl, rfl⟩
@[go_sem] theorem encValue_flat (x : Value) : (encValue x).flat = true := rfl
def encRow (x : Row) : PV := .agg [.int .i64 x.ID, .slc (List.map encValue x.Values)]
@[go_sem] theorem encRow_fold (x : Row) : PV.agg [.int .i64 x.ID, .slc (List.map encValue x.Values)] = encRow x := rfl
@[go_sem] theorem encRow_cells (x : Row) : (encRow x).cells = [.int .i64 x.ID, .slc (List.map encValue x.Values)] := rfl
@[go_sem] theorem encRow_isAgg (x : Row) : (encRow x).isAgg = true := rfl
@[go_sem] theorem encRow_isTup (x : Row) : (encRow x).isTup = false := rfl
@[go_sem] theorem encRow_sl (l : List Row) : ((l.map encRow).all fun y => y.cells.length == 2) = true := by simp [encRow, PV.cells]
@[go_sem] theorem encRow_ok (l : List Row) : ((l.map encRow).map AV.p).all (elemOk 2) = true := elemOkAll_map _ _ _ fun _ => ⟨rfl, rfl⟩
def encTable (x : Table) : PV := .agg [.str x.Name, .slc (List.map PV.str x.Attrs), .slc (List.map encRow x.Rows)]
@[go_sem] theorem encTable_fold (x : Table) : PV.agg [.str x.Name, .slc (List.map PV.str x.Attrs), .slc (List.map encRow x.Rows)] = encTable x := rfl
@[go_sem] theorem encTable_cells (x : Table) : (encTable x).cells = [.str x.Name, .slc (List.map PV.str x.Attrs), .slc (List.map encRow x.Rows)] := rfl
@[go_sem] theorem encTable_isAgg (x : Table) : (encTable x).isAgg = true := rfl
@[go_sem] theorem encTable_isTup (x : Table) : (encTable x).isTup = false := rfl
@[go_sem] theorem encTable_sl (l : List Table) : ((l.map encTable).all fun y => y.cells.length == 3) = true := by simp [encTable, PV.cells]
@[go_sem] theorem encTable_ok (l : List Table) : ((l.map encTable).map AV.p).all (elemOk 3) = true := elemOkAll_map _ _ _ fun _ => ⟨rfl, rfl⟩
def encFD (x : FD) : PV := .agg [.int .u32 x.Lhs, .int .u32 x.Rhs]
@[go_sem] theorem encFD_fold (x : FD) : PV.agg [.int .u32 x.Lhs, .int .u32 x.Rhs] = encFD x := rfl
@[go_sem] theorem encFD_cells (x : FD) : (encFD x).cells = [.int .u32 x.Lhs, .int .u32 x.Rhs] := rfl
@[go_sem] theorem encFD_isAgg (x : FD) : (encFD x).isAgg = true := rfl
@[go_sem] theorem encFD_isTup (x : FD) : (encFD x).isTup = false := rfl
@[go_sem] theorem encFD_sl (l : List FD) : ((l.map encFD).all fun y => y.cells.length == 2) = true := by simp [encFD, PV.cells]
@[go_sem] theorem encFD_ok (l : List FD) : ((l.map encFD).map AV.p).all (elemOk 2) = true := elemOkAll_map _ _ _ fun _ => ⟨rfl, rfl⟩
@[go_sem] theorem encFD_flat (x : FD) : (encFD x).flat = true := rfl
def encPartition (x : Partition) : PV := .agg [.int .i64 x.Rows, .slc (List.map (encL (PV.int .i64)) x.Classes)]
@[go_sem] theorem encPartition_fold (x : Partition) : PV.agg [.int .i64 x.Rows, .slc (List.map (encL (PV.int .i64)) x.Classes)] = encPartition x := rfl
@[go_sem] theorem encPartition_cells (x : Partition) : (encPartition x).cells = [.int .i64 x.Rows, .slc (List.map (encL (PV.int .i64)) x.Classes)] := rfl
@[go_sem] theorem encPartition_isAgg (x : Partition) : (encPartition x).isAgg = true := rfl
@[go_sem] theorem encPartition_isTup (x : Partition) : (encPartition x).isTup = false := rfl
@[go_sem] theorem encPartition_sl (l : List Partition) : ((l.map encPartition).all fun y => y.cells.length == 2) = true := by simp [encPartition, PV.cells]
@[go_sem] theorem encPartition_ok (l : List Partition) : ((l.map encPartition).map AV.p).all (elemOk 2) = true := elemOkAll_map _ _ _ fun _ => ⟨rfl, rfl⟩
def encDrossref04_Wide (x : Drossref04_Wide) : PV := .agg [.int .u64 x.Hi, .int .u64 x.Lo]
@[go_sem] theorem encDrossref04_Wide_fold (x : Drossref04_Wide) : PV.agg [.int .u64 x.Hi, .int .u64 x.Lo] = encDrossref04_Wide x := rfl
@[go_sem] theorem encDrossref04_Wide_cells (x : Drossref04_Wide) : (encDrossref04_Wide x).cells = [.int .u64 x.Hi, .int .u64 x.Lo] := rfl
@[go_sem] theorem encDrossref04_Wide_isAgg (x : Drossref04_Wide) : (encDrossref04_Wide x).isAgg = true := rfl
@[go_sem] theorem encDrossref04_Wide_isTup (x : Drossref04_Wide) : (encDrossref04_Wide x).isTup = false := rfl
@[go_sem] theorem encDrossref04_Wide_sl (l : List Drossref04_Wide) : ((l.map encDrossref04_Wide).all fun y => y.cells.length == 2) = true := by simp [encDrossref04_Wide, PV.cells]
@[go_sem] theorem encDrossref04_Wide_ok (l : List Drossref04_Wide) : ((l.map encDrossref04_Wide).map AV.p).all (elemOk 2) = true := elemOkAll_map _ _ _ fun _ => ⟨rfl, rfl⟩
@[go_sem] theorem encDrossref04_Wide_flat (x : Drossref04_Wide) : (encDrossref04_Wide x).flat = true := rfl
def encRatio (x : Ratio) : PV := .agg [.int .i64 x.Num, .int .i64 x.Den]
@[go_sem] theorem encRatio_fold (x : Ratio) : PV.agg [.int .i64 x.Num, .int .i64 x.Den] = encRatio x := rfl
@[go_sem] theorem encRatio_cells (x : Ratio) : (encRatio x).cells = [.int .i64 x.Num, .int .i64 x.Den] := rfl
@[go_sem] theorem encRatio_isAgg (x : Ratio) : (encRatio x).isAgg = true := rfl
@[go_sem] theorem encRatio_isTup (x : Ratio) : (encRatio x).isTup = false := rfl
@[go_sem] theorem encRatio_sl (l : List Ratio) : ((l.map encRatio).all fun y => y.cells.length == 2) = true := by simp [encRatio, PV.cells]
@[go_sem] theorem encRatio_ok (l : List Ratio) : ((l.map encRatio).map AV.p).all (elemOk 2) = true := elemOkAll_map _ _ _ fun _ => ⟨rfl, rfl⟩
@[go_sem] theorem encRatio_flat (x : Ratio) : (encRatio x).flat = true := rfl
def encRatio_wide (x : Ratio_wide) : PV := .agg [.int .u64 x.high, .int .u64 x.low]
@[go_sem] theorem encRatio_wide_fold (x : Ratio_wide) : PV.agg [.int .u64 x.high, .int .u64 x.low] = encRatio_wide x := rfl
@[go_sem] theorem encRatio_wide_cells (x : Ratio_wide) : (encRatio_wide x).cells = [.int .u64 x.high, .int .u64 x.low] := rfl
@[go_sem] theorem encRatio_wide_isAgg (x : Ratio_wide) : (encRatio_wide x).isAgg = true := rfl
@[go_sem] theorem encRatio_wide_isTup (x : Ratio_wide) : (encRatio_wide x).isTup = false := rfl
@[go_sem] theorem encRatio_wide_sl (l : List Ratio_wide) : ((l.map encRatio_wide).all fun y => y.cells.length == 2) = true := by simp [encRatio_wide, PV.cells]
@[go_sem] theorem encRatio_wide_ok (l : List Ratio_wide) : ((l.map encRatio_wide).map AV.p).all (elemOk 2) = true := elemOkAll_map _ _ _ fun _ => ⟨rfl, rfl⟩
@[go_sem] theorem encRatio_wide_flat (x : Ratio_wide) : (encRatio_wide x).flat = true := rfl
def encDrossref03_Recipe (x : Drossref03_Recipe) : PV := .agg [.int .u8 x.Attrs, .int .u8 x.Gap, .slc (List.map (encL (PV.int .u8)) x.Rows)]
@[go_sem] theorem encDrossref03_Recipe_fold (x : Drossref03_Recipe) : PV.agg [.int .u8 x.Attrs, .int .u8 x.Gap, .slc (List.map (encL (PV.int .u8)) x.Rows)] = encDrossref03_Recipe x := rfl
@[go_sem] theorem encDrossref03_Recipe_cells (x : Drossref03_Recipe) : (encDrossref03_Recipe x).cells = [.int .u8 x.Attrs, .int .u8 x.Gap, .slc (List.map (encL (PV.int .u8)) x.Rows)] := rfl
@[go_sem] theorem encDrossref03_Recipe_isAgg (x : Drossref03_Recipe) : (encDrossref03_Recipe x).isAgg = true := rfl
@[go_sem] theorem encDrossref03_Recipe_isTup (x : Drossref03_Recipe) : (encDrossref03_Recipe x).isTup = false := rfl
@[go_sem] theorem encDrossref03_Recipe_sl (l : List Drossref03_Recipe) : ((l.map encDrossref03_Recipe).all fun y => y.cells.length == 3) = true := by simp [encDrossref03_Recipe, PV.cells]
@[go_sem] theorem encDrossref03_Recipe_ok (l : List Drossref03_Recipe) : ((l.map encDrossref03_Recipe).map AV.p).all (elemOk 3) = true := elemOkAll_map _ _ _ fun _ => ⟨rfl, rfl⟩
def encArr32_uint8 (x : Arr32_uint8) : PV := .agg [.int .u8 x.x0, .int .u8 x.x1, .int .u8 x.x2, .int .u8 x.x3, .int .u8 x.x4, .int .u8 x.x5, .int .u8 x.x6, .int .u8 x.x7, .int .u8 x.x8, .int .u8 x.x9, .int .u8 x.x10, .int .u8 x.x11, .int .u8 x.x12, .int .u8 x.x13, .int .u8 x.x14, .int .u8 x.x15, .int .u8 x.x16, .int .u8 x.x17, .int .u8 x.x18, .int .u8 x.x19, .int .u8 x.x20, .int .u8 x.x21, .int .u8 x.x22, .int .u8 x.x23, .int .u8 x.x24, .int .u8 x.x25, .int .u8 x.x26, .int .u8 x.x27, .int .u8 x.x28, .int .u8 x.x29, .int .u8 x.x30, .int .u8 x.x31]
@[go_sem] theorem encArr32_uint8_fold (x : Arr32_uint8) : PV.agg [.int .u8 x.x0, .int .u8 x.x1, .int .u8 x.x2, .int .u8 x.x3, .int .u8 x.x4, .int .u8 x.x5, .int .u8 x.x6, .int .u8 x.x7, .int .u8 x.x8, .int .u8 x.x9, .int .u8 x.x10, .int .u8 x.x11, .int .u8 x.x12, .int .u8 x.x13, .int .u8 x.x14, .int .u8 x.x15, .int .u8 x.x16, .int .u8 x.x17, .int .u8 x.x18, .int .u8 x.x19, .int .u8 x.x20, .int .u8 x.x21, .int .u8 x.x22, .int .u8 x.x23, .int .u8 x.x24, .int .u8 x.x25, .int .u8 x.x26, .int .u8 x.x27, .int .u8 x.x28, .int .u8 x.x29, .int .u8 x.x30, .int .u8 x.x31] = encArr32_uint8 x := rfl
@[go_sem] theorem encArr32_uint8_cells (x : Arr32_uint8) : (encArr32_uint8 x).cells = [.int .u8 x.x0, .int .u8 x.x1, .int .u8 x.x2, .int .u8 x.x3, .int .u8 x.x4, .int .u8 x.x5, .int .u8 x.x6, .int .u8 x.x7, .int .u8 x.x8, .int .u8 x.x9, .int .u8 x.x10, .int .u8 x.x11, .int .u8 x.x12, .int .u8 x.x13, .int .u8 x.x14, .int .u8 x.x15, .int .u8 x.x16, .int .u8 x.x17, .int .u8 x.x18, .int .u8 x.x19, .int .u8 x.x20, .int .u8 x.x21, .int .u8 x.x22, .int .u8 x.x23, .int .u8 x.x24, .int .u8 x.x25, .int .u8 x.x26, .int .u8 x.x27, .int .u8 x.x28, .int .u8 x.x29, .int .u8 x.x30, .int .u8 x.x31] := rfl
@[go_sem] theorem encArr32_uint8_isAgg (x : Arr32_uint8) : (encArr32_uint8 x).isAgg = true := rfl
@[go_sem] theorem encArr32_uint8_isTup (x : Arr32_uint8) : (encArr32_uint8 x).isTup = false := rfl
@[go_sem] theorem encArr32_uint8_sl (l : List Arr32_uint8) : ((l.map encArr32_uint8).all fun y => y.cells.length == 32) = true := by simp [encArr32_uint8, PV.cells]
@[go_sem] theorem encArr32_uint8_ok (l : List Arr32_uint8) : ((l.map encArr32_uint8).map AV.p).all (elemOk 32) = true := elemOkAll_map _ _ _ fun _ => ⟨rfl, rfl⟩
@[go_sem] theorem encArr32_uint8_flat (x : Arr32_uint8) : (encArr32_uint8 x).flat = true := rfl
end Go.Proofs.YtjcdclpfeflfkaaGreatDoor
namespace Go.Proofs
open Go Go.Ab Go.Shelf
def YtjcdclpfeflfkaaGreatDoor.sort29_ren : Go.Shelf.Ren := ⟨fun | 5 => 29 | 8 => 63 | 7 => 62 | 19 => 109 | 20 => 110 | 10 => 101 | 11 => 102 | 12 => 103 | 13 => 104 | 14 => 105 | 15 => 106 | 16 => 67 | 17 => 107 | 18 => 108 | 30 => 144 | 31 => 145 | 32 => 146 | 33 => 147 | 34 => 148 | 35 => 113 | 40 => 165 | n => n, fun | 23 => 31 | 25 => 2 | 3 => 3 | 32 => 111 | 22 => 31 | 0 => 0 | 44 => 26 | 46 => 103 | 4 => 4 | 36 => 147 | 35 => 146 | 41 => 75 | 5 => 5 | 9 => 9 | 53 => 186 | 57 => 190 | 63 => 203 | 64 => 204 | n => n, fun | n => n⟩
theorem YtjcdclpfeflfkaaGreatDoor.sort29 : Go.Proofs.SlLaysM.n5 Tryz.prog YtjcdclpfeflfkaaGreatDoor.sort29_ren := {
  mixed := by kernel_rfl
  f5 := ⟨Tryz.f29.name, by decide, Tryz.func29.trans (congrArg some (by kernel_rfl))⟩
  f7 := ⟨Tryz.f62.name, by decide, Tryz.func62.trans (congrArg some (by kernel_rfl))⟩
  f8 := Tryz.func63.trans (congrArg some (by kernel_rfl))
  f10 := ⟨Tryz.f101.name, by decide, Tryz.func101.trans (congrArg some (by kernel_rfl))⟩
  f11 := ⟨Tryz.f102.name, by decide, Tryz.func102.trans (congrArg some (by kernel_rfl))⟩
  f12 := ⟨Tryz.f103.name, by decide, Tryz.func103.trans (congrArg some (by kernel_rfl))⟩
  f13 := ⟨Tryz.f104.name, by decide, Tryz.func104.trans (congrArg some (by kernel_rfl))⟩
  f14 := ⟨Tryz.f105.name, by decide, Tryz.func105.trans (congrArg some (by kernel_rfl))⟩
  f15 := ⟨Tryz.f106.name, by decide, Tryz.func106.trans (congrArg some (by kernel_rfl))⟩
  f16 := ⟨Tryz.f67.name, by decide, Tryz.func67.trans (congrArg some (by kernel_rfl))⟩
  f17 := ⟨Tryz.f107.name, by decide, Tryz.func107.trans (congrArg some (by kernel_rfl))⟩
  f18 := ⟨Tryz.f108.name, by decide, Tryz.func108.trans (congrArg some (by kernel_rfl))⟩
  f19 := Tryz.func109.trans (congrArg some (by kernel_rfl))
  f20 := Tryz.func110.trans (congrArg some (by kernel_rfl))
  f30 := ⟨Tryz.f144.name, by decide, Tryz.func144.trans (congrArg some (by kernel_rfl))⟩
  f31 := Tryz.func145.trans (congrArg some (by kernel_rfl))
  f32 := Tryz.func146.trans (congrArg some (by kernel_rfl))
  f33 := ⟨Tryz.f147.name, by decide, Tryz.func147.trans (congrArg some (by kernel_rfl))⟩
  f34 := ⟨Tryz.f148.name, by decide, Tryz.func148.trans (congrArg some (by kernel_rfl))⟩
  f35 := ⟨Tryz.f113.name, by decide, Tryz.func113.trans (congrArg some (by kernel_rfl))⟩
  f40 := ⟨Tryz.f165.name, by decide, Tryz.func165.trans (congrArg some (by kernel_rfl))⟩
  t0 := Tryz.underlying0
  a0 := Tryz.isAgg0
  z0 := Tryz.sizeOf0
  v0 := Tryz.zeroValue0
  t3 := Tryz.underlying3
  a3 := Tryz.isAgg3
  z3 := Tryz.sizeOf3
  v3 := Tryz.zeroValue3
  t4 := Tryz.underlying4
  a4 := Tryz.isAgg4
  z4 := Tryz.sizeOf4
  v4 := Tryz.zeroValue4
  t5 := Tryz.underlying5
  a5 := Tryz.isAgg5
  z5 := Tryz.sizeOf5
  v5 := Tryz.zeroValue5
  t9 := Tryz.underlying9
  a9 := Tryz.isAgg9
  z9 := Tryz.sizeOf9
  v9 := Tryz.zeroValue9
  t22 := Tryz.underlying31
  a22 := Tryz.isAgg31
  z22 := Tryz.sizeOf31
  v22 := Tryz.zeroValue31
  t23 := Tryz.underlying31
  a23 := Tryz.isAgg31
  z23 := Tryz.sizeOf31
  v23 := Tryz.zeroValue31
  t25 := Tryz.underlying2
  a25 := Tryz.isAgg2
  z25 := Tryz.sizeOf2
  v25 := Tryz.zeroValue2
  t32 := Tryz.underlying111
  a32 := Tryz.isAgg111
  z32 := Tryz.sizeOf111
  v32 := Tryz.zeroValue111
  t35 := Tryz.underlying146
  a35 := Tryz.isAgg146
  z35 := Tryz.sizeOf146
  v35 := Tryz.zeroValue146
  t36 := Tryz.underlying147
  a36 := Tryz.isAgg147
  z36 := Tryz.sizeOf147
  v36 := Tryz.zeroValue147
  t41 := Tryz.underlying75
  a41 := Tryz.isAgg75
  z41 := Tryz.sizeOf75
  v41 := Tryz.zeroValue75
  t44 := Tryz.underlying26
  a44 := Tryz.isAgg26
  z44 := Tryz.sizeOf26
  v44 := Tryz.zeroValue26
  t46 := Tryz.underlying103
  a46 := Tryz.isAgg103
  z46 := Tryz.sizeOf103
  v46 := Tryz.zeroValue103
  t53 := Tryz.underlying186
  a53 := Tryz.isAgg186
  z53 := Tryz.sizeOf186
  v53 := Tryz.zeroValue186
  t57 := Tryz.underlying190
  a57 := Tryz.isAgg190
  z57 := Tryz.sizeOf190
  v57 := Tryz.zeroValue190
  t63 := Tryz.underlying203
  a63 := Tryz.isAgg203
  z63 := Tryz.sizeOf203
  v63 := Tryz.zeroValue203
  t64 := Tryz.underlying204
  a64 := Tryz.isAgg204
  z64 := Tryz.sizeOf204
  v64 := Tryz.zeroValue204 }
def YtjcdclpfeflfkaaGreatDoor.sort127_ren : Go.Shelf.Ren := ⟨fun | 6 => 127 | 15 => 63 | 14 => 153 | 28 => 109 | 29 => 110 | 20 => 168 | 21 => 169 | 22 => 170 | 23 => 171 | 24 => 172 | 25 => 173 | 26 => 174 | 27 => 175 | 46 => 182 | 47 => 145 | 48 => 146 | 49 => 183 | 50 => 184 | 57 => 185 | n => n, fun | 22 => 90 | 24 => 27 | 25 => 168 | 3 => 3 | 39 => 111 | 0 => 0 | 53 => 26 | 55 => 103 | 4 => 4 | 46 => 147 | 45 => 146 | 50 => 75 | 5 => 5 | 9 => 9 | 66 => 186 | 70 => 190 | 76 => 203 | 77 => 204 | n => n, fun | n => n⟩
theorem YtjcdclpfeflfkaaGreatDoor.sort127 : Go.Proofs.SlLaysF.n6 Tryz.prog YtjcdclpfeflfkaaGreatDoor.sort127_ren := {
  mixed := by kernel_rfl
  f6 := ⟨Tryz.f127.name, by decide, Tryz.func127.trans (congrArg some (by kernel_rfl))⟩
  f14 := ⟨Tryz.f153.name, by decide, Tryz.func153.trans (congrArg some (by kernel_rfl))⟩
  f15 := Tryz.func63.trans (congrArg some (by kernel_rfl))
  f20 := ⟨Tryz.f168.name, by decide, Tryz.func168.trans (congrArg some (by kernel_rfl))⟩
  f21 := ⟨Tryz.f169.name, by decide, Tryz.func169.trans (congrArg some (by kernel_rfl))⟩
  f22 := ⟨Tryz.f170.name, by decide, Tryz.func170.trans (congrArg some (by kernel_rfl))⟩
  f23 := ⟨Tryz.f171.name, by decide, Tryz.func171.trans (congrArg some (by kernel_rfl))⟩
  f24 := ⟨Tryz.f172.name, by decide, Tryz.func172.trans (congrArg some (by kernel_rfl))⟩
  f25 := ⟨Tryz.f173.name, by decide, Tryz.func173.trans (congrArg some (by kernel_rfl))⟩
  f26 := ⟨Tryz.f174.name, by decide, Tryz.func174.trans (congrArg some (by kernel_rfl))⟩
  f27 := ⟨Tryz.f175.name, by decide, Tryz.func175.trans (congrArg some (by kernel_rfl))⟩
  f28 := Tryz.func109.trans (congrArg some (by kernel_rfl))
  f29 := Tryz.func110.trans (congrArg some (by kernel_rfl))
  f46 := ⟨Tryz.f182.name, by decide, Tryz.func182.trans (congrArg some (by kernel_rfl))⟩
  f47 := Tryz.func145.trans (congrArg some (by kernel_rfl))
  f48 := Tryz.func146.trans (congrArg some (by kernel_rfl))
  f49 := ⟨Tryz.f183.name, by decide, Tryz.func183.trans (congrArg some (by kernel_rfl))⟩
  f50 := ⟨Tryz.f184.name, by decide, Tryz.func184.trans (congrArg some (by kernel_rfl))⟩
  f57 := ⟨Tryz.f185.name, by decide, Tryz.func185.trans (congrArg some (by kernel_rfl))⟩
  t0 := Tryz.underlying0
  a0 := Tryz.isAgg0
  z0 := Tryz.sizeOf0
  v0 := Tryz.zeroValue0
  t3 := Tryz.underlying3
  a3 := Tryz.isAgg3
  z3 := Tryz.sizeOf3
  v3 := Tryz.zeroValue3
  t4 := Tryz.underlying4
  a4 := Tryz.isAgg4
  z4 := Tryz.sizeOf4
  v4 := Tryz.zeroValue4
  t5 := Tryz.underlying5
  a5 := Tryz.isAgg5
  z5 := Tryz.sizeOf5
  v5 := Tryz.zeroValue5
  t9 := Tryz.underlying9
  a9 := Tryz.isAgg9
  z9 := Tryz.sizeOf9
  v9 := Tryz.zeroValue9
  t22 := Tryz.underlying90
  a22 := Tryz.isAgg90
  z22 := Tryz.sizeOf90
  v22 := Tryz.zeroValue90
  a24 := Tryz.isAgg27
  z24 := Tryz.sizeOf27
  t25 := Tryz.underlying168
  a25 := Tryz.isAgg168
  z25 := Tryz.sizeOf168
  v25 := Tryz.zeroValue168
  t39 := Tryz.underlying111
  a39 := Tryz.isAgg111
  z39 := Tryz.sizeOf111
  v39 := Tryz.zeroValue111
  t45 := Tryz.underlying146
  a45 := Tryz.isAgg146
  z45 := Tryz.sizeOf146
  v45 := Tryz.zeroValue146
  t46 := Tryz.underlying147
  a46 := Tryz.isAgg147
  z46 := Tryz.sizeOf147
  v46 := Tryz.zeroValue147
  t50 := Tryz.underlying75
  a50 := Tryz.isAgg75
  z50 := Tryz.sizeOf75
  v50 := Tryz.zeroValue75
  t53 := Tryz.underlying26
  a53 := Tryz.isAgg26
  z53 := Tryz.sizeOf26
  v53 := Tryz.zeroValue26
  t55 := Tryz.underlying103
  a55 := Tryz.isAgg103
  z55 := Tryz.sizeOf103
  v55 := Tryz.zeroValue103
  t66 := Tryz.underlying186
  a66 := Tryz.isAgg186
  z66 := Tryz.sizeOf186
  v66 := Tryz.zeroValue186
  t70 := Tryz.underlying190
  a70 := Tryz.isAgg190
  z70 := Tryz.sizeOf190
  v70 := Tryz.zeroValue190
  t76 := Tryz.underlying203
  a76 := Tryz.isAgg203
  z76 := Tryz.sizeOf203
  v76 := Tryz.zeroValue203
  t77 := Tryz.underlying204
  a77 := Tryz.isAgg204
  z77 := Tryz.sizeOf204
  v77 := Tryz.zeroValue204 }
theorem YtjcdclpfeflfkaaGreatDoor.srt29 : SrtI Tryz.prog 29 := ⟨Tryz.call29, fun blk off cap zs w hH hb hs => AnyM.slices_Sort_int YtjcdclpfeflfkaaGreatDoor.sort29 blk off cap zs w hH hb hs, fun p cap w => AnyM.slices_Sort_int_none YtjcdclpfeflfkaaGreatDoor.sort29 p cap w⟩
theorem YtjcdclpfeflfkaaGreatDoor.srt127 : Srt1 Tryz.prog 127 := ⟨Tryz.call127, fun enc h1 cf hO g cb blk off cap d w eg hc hH hb hs => Any.slices_SortFunc_eq YtjcdclpfeflfkaaGreatDoor.sort127 enc h1 cf hO g cb blk off cap d w eg hc hH hb hs, fun p cap fv w => AnyF.slices_SortFunc_none { YtjcdclpfeflfkaaGreatDoor.sort127 with } p cap fv w⟩
end Go.Proofs
set_option linter.unusedVariables false
set_option linter.unusedSimpArgs false
namespace Go.Proofs.YtjcdclpfeflfkaaGreatDoor
open Go Go.Ab
set_option maxRecDepth 20000 in
set_option maxHeartbeats 4000000 in
theorem table_isName_con {D : Prop} (s1 : List UInt8) (r2 : Bool) (h : table_isName s1 = some r2) : Con D Tryz.prog 96 [(.str s1)] (.bool r2) := by
 refine zP Tryz.call96 Tryz.func96 rfl Tryz.ntmps96 fun X w hT => ?_
 simp only [table_isName] at h
 refine zs (zr ?_)
 refine zU (zl (zn (zs (zs (zr ?_)))))
 refine zU ?_
 rcases zI h with ⟨h3, h⟩ | ⟨h3, h⟩
 refine zw 8 true ?_
 refine zh ?_
 refine zU ?_
 refine zh ?_
 refine zU (zl (zn ?_))
 refine zi (zs (zr ?_))
 refine zU (zl (zn (zq (zt ?_))))
 cases h
 exact zT Tryz.results96
 refine zw 8 false ?_
 refine zg ?_
 refine zg ?_
 refine zg ?_
 refine zU ?_
 rcases zI h with ⟨h4, h⟩ | ⟨h4, h⟩
 refine zw 13 true ?_
 refine zh ?_
 refine zU (zl (zn ?_))
 refine zi (zs (zr ?_))
 refine zU (zl (zn (zq (zt ?_))))
 cases h
 exact zT Tryz.results96
 refine zw 13 false ?_
 refine zg ?_
 refine zg ?_
 refine zU (zl (zn ?_))
 rcases zI h with ⟨h5, h⟩ | ⟨h5, h⟩
 refine zi (zs (zr ?_))
 refine zU (zl (zn (zq (zt ?_))))
 cases h
 exact zT Tryz.results96
 refine zj (zk (zn (zs (zs (zr ?_)))))
 refine zU (zl (zn (zb ?_)))
 obtain ⟨o6, h7, h⟩ := zB h
 refine zO (fun (s : Int) => ⟨[(0, .p (.str s1)), (18, .p (.int .i64 (s1.length : Int))), (19, .p (.int .i64 s))], []⟩) (fun (o : (Unit) ⊕ (Bool)) => match o with | .inl o8 => tE (cX Tryz.f96 X w D hT) (.exit 0) ⟨[], []⟩ | .inr o9 => tR Tryz.prog Tryz.f96 (.bool o9)) h7 ?_ ?_
 clear h h3 h4 h5 h7
 intro t10 x h
 simp only [table_isName_l1] at h
 refine zs (zr ?_)
 refine zU (zl (zn (zs ?_)))
 rcases zI h with ⟨h11, h⟩ | ⟨h11, h⟩
 refine zi (zk (zn (zs (zb (zs (zr ?_))))))
 refine zU (zl (zn (zs (zr ?_))))
 obtain ⟨c12, h13, h13a, h13b, h⟩ := zX h
 refine zU (zl (zn ?_))
 obtain ⟨l14, h15, h⟩ := zB h
 refine zJ (fun (o16 : Bool) => tE (cX Tryz.f96 X w D hT) .normal ⟨[(0, .p (.str s1)), (3, .p (.int .i64 t10)), (4, .p (.int .u8 ((c12.toNat : Nat) : Int))), (5, .p (.bool o16)), (18, .p (.int .i64 (s1.length : Int))), (19, .p (.int .i64 t10))], []⟩) l14 ?_ ?_
 replace h := h15
 clear h15
 refine zr ?_
 refine zU ?_
 rcases zI h with ⟨h17, h⟩ | ⟨h17, h⟩
 refine zw 27 true ?_
 refine zg ?_
 refine zg ?_
 refine zU ?_
 rcases zI h with ⟨h18, h⟩ | ⟨h18, h⟩
 refine zw 31 true ?_
 refine zh ?_
 refine zU ?_
 refine zh ?_
 refine zU (zl ?_)
 cases h
 exact ⟨rfl, zE⟩
 refine zw 31 false ?_
 refine zg ?_
 refine zg ?_
 refine zg ?_
 rcases zI h with ⟨h19, h⟩ | ⟨h19, h⟩
 refine zw 34 true ?_
 refine zg ?_
 refine zg ?_
 refine zg ?_
 refine zU ?_
 rcases zI h with ⟨h20, h⟩ | ⟨h20, h⟩
 refine zw 39 true ?_
 refine zh ?_
 refine zU (zl ?_)
 cases h
 exact ⟨rfl, zE⟩
 replace h := h.symm
 refine zw 39 false ?_
 refine zg ?_
 refine zg ?_
 refine zU (zl ?_)
 cases h
 exact ⟨rfl, zE⟩
 replace h := h.symm
 refine zw 34 false ?_
 refine zh ?_
 refine zg ?_
 refine zU ?_
 refine zg ?_
 refine zg ?_
 refine zU (zl ?_)
 cases h
 exact ⟨rfl, zE⟩
 refine zw 27 false ?_
 refine zh ?_
 refine zU ?_
 refine zg ?_
 refine zg ?_
 refine zg ?_
 rcases zI h with ⟨h21, h⟩ | ⟨h21, h⟩
 refine zw 34 true ?_
 refine zg ?_
 refine zg ?_
 refine zg ?_
 refine zU ?_
 rcases zI h with ⟨h22, h⟩ | ⟨h22, h⟩
 refine zw 39 true ?_
 refine zh ?_
 refine zU (zl ?_)
 cases h
 exact ⟨rfl, zE⟩
 replace h := h.symm
 refine zw 39 false ?_
 refine zg ?_
 refine zg ?_
 refine zU (zl ?_)
 cases h
 exact ⟨rfl, zE⟩
 replace h := h.symm
 refine zw 34 false ?_
 refine zh ?_
 refine zg ?_
 refine zU ?_
 refine zg ?_
 refine zg ?_
 refine zU (zl ?_)
 cases h
 exact ⟨rfl, zE⟩
 try simp only at h
 refine zA (zn (zs (zr ?_)))
 refine zU ?_
 rcases zI h with ⟨h23, h⟩ | ⟨h23, h⟩
 refine zw 45 false ?_
 refine zh ?_
 refine zU (zl (zn ?_))
 refine zj (zk (yn (zn (zr ?_))))
 refine zU (zl ?_)
 cases h
 exact ⟨rfl, zE⟩
 refine zw 45 true ?_
 refine zg ?_
 refine zg ?_
 refine zg ?_
 rcases zI h with ⟨h24, h⟩ | ⟨h24, h⟩
 replace h := h.symm
 refine zw 48 true ?_
 refine zh ?_
 refine zg ?_
 refine zg ?_
 refine zh ?_
 refine zg ?_
 refine zU (zl (zn ?_))
 refine zi (zs (zr ?_))
 refine zU (zl (zn (zq (yr (zt ?_)))))
 cases h
 exact ⟨rfl, zT Tryz.results96⟩
 refine zw 48 false ?_
 refine zg ?_
 refine zg ?_
 refine zg ?_
 refine zg ?_
 rcases zI h with ⟨h25, h⟩ | ⟨h25, h⟩
 replace h := h.symm
 refine zw 52 true ?_
 refine zh ?_
 refine zg ?_
 refine zU (zl (zn ?_))
 refine zi (zs (zr ?_))
 refine zU (zl (zn (zq (yr (zt ?_)))))
 cases h
 exact ⟨rfl, zT Tryz.results96⟩
 refine zw 52 false ?_
 refine zg ?_
 refine zg ?_
 refine zg ?_
 refine zU (zl (zn ?_))
 rcases zI h with ⟨h26, h⟩ | ⟨h26, h⟩
 refine zi (zs (zr ?_))
 refine zU (zl (zn (zq (yr (zt ?_)))))
 cases h
 exact ⟨rfl, zT Tryz.results96⟩
 refine zj (zk (yn (zn (zr ?_))))
 refine zU (zl ?_)
 cases h
 exact ⟨rfl, zE⟩
 refine zj (zx (ze ?_))
 cases h
 exact ⟨rfl, zE⟩
 rcases o6 with ⟨⟩ | r27
 try simp only at h
 refine zA (yh (zn (zs (zr ?_))))
 refine zU (zl (zn (zq ?_)))
 cases h
 exact zT Tryz.results96
 try simp only at h
 refine zZ fun s hq => ?_
 refine yr (zt ?_)
 cases h
 exact hq
end Go.Proofs.YtjcdclpfeflfkaaGreatDoor
set_option linter.unusedVariables false
set_option linter.unusedSimpArgs false
namespace Go.Proofs.YtjcdclpfeflfkaaGreatDoor
open Go Go.Ab
set_option maxHeartbeats 4000000 in
theorem slices_Index_string_con {D : Prop} (s1 : List (List UInt8)) (v2 : List UInt8) (r3 : Int) (h : slices_Index_string s1 v2 = some r3) : Con D Tryz.prog 135 [(.slc (List.map PV.str s1)), (.str v2)] (.int .i64 r3) := by
 refine zP Tryz.call135 Tryz.func135 rfl Tryz.ntmps135 fun X w hT => ?_
 simp only [slices_Index_string] at h
 refine zs (zr ?_)
 refine zU (zl (zn (zs (zs (zr ?_)))))
 refine zU (zl (zn (zb ?_)))
 obtain ⟨o4, h5, h⟩ := zB h
 refine zO (fun (s : Int) => ⟨[(0, .p (.slc (List.map PV.str s1))), (1, .p (.str v2)), (7, .p (.int .i64 (s1.length : Int))), (8, .p (.int .i64 s))], []⟩) (fun (o : (Unit) ⊕ (Int)) => match o with | .inl o6 => tE (cX Tryz.f135 X w D hT) (.exit 0) ⟨[], []⟩ | .inr o7 => tR Tryz.prog Tryz.f135 (.int .i64 o7)) h5 ?_ ?_
 clear h h5
 intro t8 x h
 simp only [slices_Index_string_l1] at h
 refine zs (zr ?_)
 refine zU (zl (zn (zs ?_)))
 rcases zI h with ⟨h9, h⟩ | ⟨h9, h⟩
 refine zi (zk (zn (zs (zb (zs (zr ?_))))))
 refine zU (zl (zn (zs (zr ?_))))
 obtain ⟨x10, h11, h11a, h11b, h⟩ := zX h
 refine zU (zl (zn ?_))
 rcases zI h with ⟨h12, h⟩ | ⟨h12, h⟩
 refine zi (zs (zr ?_))
 refine zU (zl (zn (zq (yr (zt ?_)))))
 cases h
 exact ⟨rfl, zT Tryz.results135⟩
 refine zj (zk (yn (zn (zr ?_))))
 refine zU (zl ?_)
 cases h
 exact ⟨rfl, zE⟩
 refine zj (zx (ze ?_))
 cases h
 exact ⟨rfl, zE⟩
 rcases o4 with ⟨⟩ | r13
 try simp only at h
 refine zA (yh (zn (zs (zr ?_))))
 refine zU (zl (zn (zq ?_)))
 cases h
 exact zT Tryz.results135
 try simp only at h
 refine zZ fun s hq => ?_
 refine yr (zt ?_)
 cases h
 exact hq
end Go.Proofs.YtjcdclpfeflfkaaGreatDoor
set_option linter.unusedVariables false
set_option linter.unusedSimpArgs false
namespace Go.Proofs.YtjcdclpfeflfkaaGreatDoor
open Go Go.Ab
set_option maxHeartbeats 4000000 in
theorem slices_Contains_string_con {D : Prop} (s1 : List (List UInt8)) (v2 : List UInt8) (r3 : Bool) (h : slices_Contains_string s1 v2 = some r3) : Con D Tryz.prog 97 [(.slc (List.map PV.str s1)), (.str v2)] (.bool r3) := by
 refine zP Tryz.call97 Tryz.func97 rfl Tryz.ntmps97 fun X w hT => ?_
 simp only [slices_Contains_string] at h
 refine zs (zr ?_)
 refine zU (zl (zn (zs (zr ?_))))
 refine zU ?_
 obtain ⟨r4, h5, h⟩ := zB h
 refine zc (slices_Index_string_con s1 v2 _ h5) ?_
 refine zU (zl (zn (zq ?_)))
 cases h
 exact zT Tryz.results97
end Go.Proofs.YtjcdclpfeflfkaaGreatDoor
set_option linter.unusedVariables false
set_option linter.unusedSimpArgs false
namespace Go.Proofs.YtjcdclpfeflfkaaGreatDoor
open Go Go.Ab
set_option maxHeartbeats 4000000 in
theorem slices_IndexFunc_Value_con {D : Prop} (s1 : List Value) (f2 : Value → Option (Bool)) (f2_k : FuncId) (f2_cs : List PV) (f2_h : ∀ (y3 : Value) (r4 : Bool), f2 y3 = some r4 → Con D Tryz.prog f2_k ((encValue y3) :: f2_cs) (.bool r4)) (r5 : Int) (h : slices_IndexFunc_Value s1 f2 = some r5) : Con D Tryz.prog 159 [(.slc (List.map encValue s1)), .func (.func f2_k) f2_cs] (.int .i64 r5) := by
 refine zP Tryz.call159 Tryz.func159 rfl Tryz.ntmps159 fun X w hT => ?_
 simp only [slices_IndexFunc_Value] at h
 refine zs (zr ?_)
 refine zU (zl (zn (zs (zs (zr ?_)))))
 refine zU (zl (zn (zb ?_)))
 obtain ⟨o6, h7, h⟩ := zB h
 refine zO (fun (s : Int) => ⟨[(0, .p (.slc (List.map encValue s1))), (1, .p (.func (.func f2_k) f2_cs)), (7, .p (.int .i64 (s1.length : Int))), (8, .p (.int .i64 s))], []⟩) (fun (o : (Unit) ⊕ (Int)) => match o with | .inl o8 => tE (cX Tryz.f159 X w D hT) (.exit 0) ⟨[], []⟩ | .inr o9 => tR Tryz.prog Tryz.f159 (.int .i64 o9)) h7 ?_ ?_
 clear h h7
 intro t10 x h
 simp only [slices_IndexFunc_Value_l1] at h
 refine zs (zr ?_)
 refine zU (zl (zn (zs ?_)))
 rcases zI h with ⟨h11, h⟩ | ⟨h11, h⟩
 refine zi (zk (zn (zs (zb (zs (zr ?_))))))
 refine zU (zl (zn (zs (zr ?_))))
 obtain ⟨x12, h13, h13a, h13b, h⟩ := zX h
 refine zU ?_
 obtain ⟨r14, h15, h⟩ := zB h
 refine zc (f2_h x12 _ h15) ?_
 refine zl (zn ?_)
 rcases zI h with ⟨h16, h⟩ | ⟨h16, h⟩
 refine zi (zs (zr ?_))
 refine zU (zl (zn (zq (yr (zt ?_)))))
 cases h
 exact ⟨rfl, zT Tryz.results159⟩
 refine zj (zk (yn (zn (zr ?_))))
 refine zU (zl ?_)
 cases h
 exact ⟨rfl, zE⟩
 refine zj (zx (ze ?_))
 cases h
 exact ⟨rfl, zE⟩
 rcases o6 with ⟨⟩ | r17
 try simp only at h
 refine zA (yh (zn (zs (zr ?_))))
 refine zU (zl (zn (zq ?_)))
 cases h
 exact zT Tryz.results159
 try simp only at h
 refine zZ fun s hq => ?_
 refine yr (zt ?_)
 cases h
 exact hq
end Go.Proofs.YtjcdclpfeflfkaaGreatDoor
set_option linter.unusedVariables false
set_option linter.unusedSimpArgs false
namespace Go.Proofs.YtjcdclpfeflfkaaGreatDoor
open Go Go.Ab
set_option maxHeartbeats 4000000 in
theorem slices_ContainsFunc_Value_con {D : Prop} (s1 : List Value) (f2 : Value → Option (Bool)) (f2_k : FuncId) (f2_cs : List PV) (f2_h : ∀ (y3 : Value) (r4 : Bool), f2 y3 = some r4 → Con D Tryz.prog f2_k ((encValue y3) :: f2_cs) (.bool r4)) (r5 : Bool) (h : slices_ContainsFunc_Value s1 f2 = some r5) : Con D Tryz.prog 136 [(.slc (List.map encValue s1)), .func (.func f2_k) f2_cs] (.bool r5) := by
 refine zP Tryz.call136 Tryz.func136 rfl Tryz.ntmps136 fun X w hT => ?_
 simp only [slices_ContainsFunc_Value] at h
 refine zs (zr ?_)
 refine zU (zl (zn (zs (zr ?_))))
 refine zU ?_
 obtain ⟨r6, h7, h⟩ := zB h
 refine zc (slices_IndexFunc_Value_con s1 f2 f2_k f2_cs f2_h _ h7) ?_
 refine zU (zl (zn (zq ?_)))
 cases h
 exact zT Tryz.results136
end Go.Proofs.YtjcdclpfeflfkaaGreatDoor
set_option linter.unusedVariables false
set_option linter.unusedSimpArgs false
namespace Go.Proofs.YtjcdclpfeflfkaaGreatDoor
open Go Go.Ab
set_option maxHeartbeats 4000000 in
theorem value_Valid_con {D : Prop} (v1 : Value) (r2 : Bool) (h : value_Valid v1 = some r2) : Con D Tryz.prog 138 [(encValue v1)] (.bool r2) := by
 refine zP Tryz.call138 Tryz.func138 rfl Tryz.ntmps138 fun X w hT => ?_
 simp only [value_Valid] at h
 refine zs (zr ?_)
 refine zU (zl (zn (zs (zs (zr ?_)))))
 refine zU (zl (zn (zb (zs (zr ?_)))))
 refine zU (zl (zn ?_))
 rcases zI h with ⟨h3, h⟩ | ⟨h3, h⟩
 refine zi (zs (zr ?_))
 refine zU ?_
 rcases zI h with ⟨h4, h⟩ | ⟨h4, h⟩
 replace h := h.symm
 refine zw 10 true ?_
 refine zg ?_
 refine zg ?_
 refine zg ?_
 refine zU (zl (zn (zq (yr (zt ?_)))))
 cases h
 exact zT Tryz.results138
 refine zw 10 false ?_
 refine zh ?_
 refine zU (zl (zn (zq (yr (zt ?_)))))
 cases h
 exact zT Tryz.results138
 refine zj (zs (zr ?_))
 refine zU (zl (zn ?_))
 rcases zI h with ⟨h5, h⟩ | ⟨h5, h⟩
 refine zi (zs (zr ?_))
 refine zU (zl (zn (zq (yr (zt ?_)))))
 cases h
 exact zT Tryz.results138
 refine zj (zs (zr ?_))
 refine zU (zl (zn ?_))
 rcases zI h with ⟨h6, h⟩ | ⟨h6, h⟩
 refine zi (zs (zr ?_))
 refine zU ?_
 rcases zI h with ⟨h7, h⟩ | ⟨h7, h⟩
 replace h := h.symm
 refine zw 25 true ?_
 refine zg ?_
 refine zg ?_
 refine zg ?_
 refine zg ?_
 refine zU (zl (zn (zq (yr (zt ?_)))))
 cases h
 exact zT Tryz.results138
 refine zw 25 false ?_
 refine zh ?_
 refine zU (zl (zn (zq (yr (zt ?_)))))
 cases h
 exact zT Tryz.results138
 refine zj (zs (zr ?_))
 refine zU (zl (zn ?_))
 rcases zI h with ⟨h8, h⟩ | ⟨h8, h⟩
 refine zi (zs (zr ?_))
 refine zU ?_
 rcases zI h with ⟨h9, h⟩ | ⟨h9, h⟩
 replace h := h.symm
 refine zw 36 true ?_
 refine zg ?_
 refine zg ?_
 refine zg ?_
 refine zU (zl (zn (zq (yr (zt ?_)))))
 cases h
 exact zT Tryz.results138
 refine zw 36 false ?_
 refine zh ?_
 refine zU (zl (zn (zq (yr (zt ?_)))))
 cases h
 exact zT Tryz.results138
 refine zj (zk (yn (zn (zs (zr ?_)))))
 refine zU (zl (zn (zq ?_)))
 cases h
 exact zT Tryz.results138
end Go.Proofs.YtjcdclpfeflfkaaGreatDoor
set_option linter.unusedVariables false
set_option linter.unusedSimpArgs false
namespace Go.Proofs.YtjcdclpfeflfkaaGreatDoor
open Go Go.Ab
set_option maxHeartbeats 4000000 in
theorem table_validValues_1_con {D : Prop} (v1 : Value) (r2 : Bool) (h : table_validValues_1 v1 = some r2) : Con D Tryz.prog 137 [(encValue v1)] (.bool r2) := by
 refine zP Tryz.call137 Tryz.func137 rfl Tryz.ntmps137 fun X w hT => ?_
 simp only [table_validValues_1] at h
 refine zs (zr ?_)
 refine zU (zl (zn (zs (zr ?_))))
 refine zU ?_
 obtain ⟨r3, h4, h⟩ := zB h
 refine zc (value_Valid_con v1 _ h4) ?_
 refine zU (zl (zn (zq ?_)))
 cases h
 exact zT Tryz.results137
end Go.Proofs.YtjcdclpfeflfkaaGreatDoor
set_option linter.unusedVariables false
set_option linter.unusedSimpArgs false
namespace Go.Proofs.YtjcdclpfeflfkaaGreatDoor
open Go Go.Ab
set_option maxHeartbeats 4000000 in
theorem table_validValues_con {D : Prop} (l1 : List Value) (r2 : Bool) (h : table_validValues l1 = some r2) : Con D Tryz.prog 98 [(.slc (List.map encValue l1))] (.bool r2) := by
 refine zP Tryz.call98 Tryz.func98 rfl Tryz.ntmps98 fun X w hT => ?_
 simp only [table_validValues] at h
 refine zs (zr ?_)
 refine zU (zl (zn (zs (zr ?_))))
 refine zU ?_
 obtain ⟨r3, h4, h⟩ := zB h
 refine zc (slices_ContainsFunc_Value_con l1 (fun (y5 : Value) => table_validValues_1 y5) 137 [] (fun y5 r h => table_validValues_1_con y5 r h) _ h4) ?_
 refine zU (zl (zn (zq ?_)))
 cases h
 exact zT Tryz.results98
end Go.Proofs.YtjcdclpfeflfkaaGreatDoor
set_option linter.unusedVariables false
set_option linter.unusedSimpArgs false
namespace Go.Proofs.YtjcdclpfeflfkaaGreatDoor
open Go Go.Ab
set_option maxHeartbeats 4000000 in
theorem table_Valid_con {D : Prop} (t1 : Table) (r2 : Int) (h : table_Valid t1 = some r2) : Con D Tryz.prog 60 [(encTable t1)] (.int .i64 r2) := by
 refine zP Tryz.call60 Tryz.func60 rfl Tryz.ntmps60 fun X w hT => ?_
 simp only [table_Valid] at h
 refine zs (zr ?_)
 refine zU (zl (zn (zs (zs (zr ?_)))))
 refine zU ?_
 obtain ⟨r3, h4, h⟩ := zB h
 refine zc (table_isName_con t1.Name _ h4) ?_
 refine zU (zl (zn ?_))
 rcases zI h with ⟨h5, h⟩ | ⟨h5, h⟩
 refine zj (zk (zn (zs (zs (zr ?_)))))
 refine zU ?_
 rcases zI h with ⟨h6, h⟩ | ⟨h6, h⟩
 refine zw 16 true ?_
 refine zh ?_
 refine zU (zl (zn ?_))
 refine zi (zs (zr ?_))
 refine zU (zl (zn (zq (zt ?_))))
 cases h
 exact zT Tryz.results60
 refine zw 16 false ?_
 refine zg ?_
 refine zg ?_
 refine zg ?_
 refine zg ?_
 refine zU (zl (zn ?_))
 rcases zI h with ⟨h7, h⟩ | ⟨h7, h⟩
 refine zi (zs (zr ?_))
 refine zU (zl (zn (zq (zt ?_))))
 cases h
 exact zT Tryz.results60
 refine zj (zk (zn (zs (zs (zr ?_)))))
 refine zU (zl (zn (zb ?_)))
 obtain ⟨o8, h9, h⟩ := zB h
 refine zO (fun (s : Int) => ⟨[(1, .loc 1 1 0 0), (23, .p (.slc (List.map PV.str t1.Attrs))), (24, .p (.int .i64 (t1.Attrs.length : Int))), (25, .p (.int .i64 s))], [(1, .arr 25 3 1 [.p (encTable t1)])]⟩) (fun (o : (Unit) ⊕ (Int)) => match o with | .inl o10 => tE (cX Tryz.f60 X w D hT) (.exit 0) ⟨[(1, .loc 1 1 0 0)], [(1, .arr 25 3 1 [.p (encTable t1)])]⟩ | .inr o11 => tR Tryz.prog Tryz.f60 (.int .i64 o11)) h9 ?_ ?_
 clear h h4 h5 h6 h7 h9
 intro t12 x h
 simp only [table_Valid_l1] at h
 refine zs (zr ?_)
 refine zU (zl (zn (zs ?_)))
 rcases zI h with ⟨h13, h⟩ | ⟨h13, h⟩
 refine zi (zk (zn (zs (zb (zs (zr ?_))))))
 obtain ⟨x14, h15, h15a, h15b, h⟩ := zX h
 refine zU (zl (zn (zs (zr ?_))))
 refine zU ?_
 obtain ⟨r16, h17, h⟩ := zB h
 refine zc (table_isName_con x14 _ h17) ?_
 refine zU ?_
 rcases zI h with ⟨h18, h⟩ | ⟨h18, h⟩
 refine zw 33 false ?_
 refine zg ?_
 refine zg ?_
 refine zg ?_
 obtain ⟨h19, h⟩ := ite_some h
 obtain ⟨h20, h⟩ := ite_some h
 refine zg ?_
 refine zg ?_
 obtain ⟨r21, h22, h⟩ := zB h
 refine zc (slices_Contains_string_con (t1.Attrs.take (t12.toNat)) x14 _ h22) ?_
 refine zU (zl (zn ?_))
 rcases zI h with ⟨h23, h⟩ | ⟨h23, h⟩
 refine zi (zs (zr ?_))
 refine zU (zl (zn (zq (yr (zt ?_)))))
 cases h
 exact ⟨rfl, zT Tryz.results60⟩
 refine zj (zk (yn (zn (zr ?_))))
 refine zU (zl ?_)
 cases h
 exact ⟨rfl, zE⟩
 refine zw 33 true ?_
 refine zh ?_
 refine zU (zl (zn ?_))
 refine zi (zs (zr ?_))
 refine zU (zl (zn (zq (yr (zt ?_)))))
 cases h
 exact ⟨rfl, zT Tryz.results60⟩
 refine zj (zx (ze ?_))
 cases h
 exact ⟨rfl, zE⟩
 rcases o8 with ⟨⟩ | r24
 try simp only at h
 refine zA (yh (zn (zs (zr ?_))))
 refine zU (zl (zn (zs (zs (zr ?_)))))
 refine zU (zl (zn (zb ?_)))
 obtain ⟨o25, h26, h⟩ := zB h
 refine zO (fun (s : Int × Int) => ⟨[(1, .loc 1 1 0 0), (5, .p (.int .i64 s.1)), (43, .p (.slc (List.map encRow t1.Rows))), (44, .p (.int .i64 (t1.Rows.length : Int))), (45, .p (.int .i64 s.2))], [(1, .arr 25 3 1 [.p (encTable t1)])]⟩) (fun (o : (Unit) ⊕ (Int)) => match o with | .inl o27 => tE (cX Tryz.f60 X w D hT) (.exit 2) ⟨[], []⟩ | .inr o28 => tR Tryz.prog Tryz.f60 (.int .i64 o28)) h26 ?_ ?_
 clear h h4 h5 h6 h7 h9 h26
 intro s x h
 obtain ⟨l29, t30⟩ := s
 simp only [table_Valid_l2] at h
 dsimp only
 refine zs (zr ?_)
 refine zU (zl (zn (zs ?_)))
 rcases zI h with ⟨h31, h⟩ | ⟨h31, h⟩
 refine zi (zk (zn (zs (zb (zs (zr ?_))))))
 obtain ⟨x32, h33, h33a, h33b, h⟩ := zX h
 refine zU (zl (zn (zs (zb (zs (zr ?_))))))
 refine zU (zl (zn ?_))
 rcases zI h with ⟨h34, h⟩ | ⟨h34, h⟩
 refine zi (zs (zr ?_))
 refine zU (zl (zn (zq (yr (zt (yr (zt ?_)))))))
 cases h
 exact ⟨rfl, zT Tryz.results60⟩
 refine zj (zs (zr ?_))
 refine zU (zl (zn ?_))
 rcases zI h with ⟨h35, h⟩ | ⟨h35, h⟩
 refine zi (zs (zr ?_))
 refine zU (zl (zn (zq (yr (zt (yr (zt ?_)))))))
 cases h
 exact ⟨rfl, zT Tryz.results60⟩
 refine zj (zs (zr ?_))
 refine zU ?_
 obtain ⟨r36, h37, h⟩ := zB h
 refine zc (table_validValues_con x32.Values _ h37) ?_
 refine zU (zl (zn ?_))
 rcases zI h with ⟨h38, h⟩ | ⟨h38, h⟩
 refine zj (zk (yn (zn (zr ?_))))
 refine zU (zl (yn (zn (zr ?_))))
 refine zU (zl ?_)
 cases h
 exact ⟨rfl, zE⟩
 refine zi (zs (zr ?_))
 refine zU (zl (zn (zq (yr (zt (yr (zt ?_)))))))
 cases h
 exact ⟨rfl, zT Tryz.results60⟩
 refine zj (zx (ze ?_))
 cases h
 exact ⟨rfl, zE⟩
 rcases o25 with ⟨⟩ | r39
 try simp only at h
 refine zA (yh (zn (zs (zr ?_))))
 refine zU (zl (zn (zq ?_)))
 cases h
 exact zT Tryz.results60
 try simp only at h
 refine zZ fun s hq => ?_
 refine yr (zt ?_)
 cases h
 exact hq
 try simp only at h
 refine zZ fun s hq => ?_
 refine yr (zt ?_)
 cases h
 exact hq
 refine zi (zs (zr ?_))
 refine zU (zl (zn (zq (zt ?_))))
 cases h
 exact zT Tryz.results60
end Go.Proofs.YtjcdclpfeflfkaaGreatDoor
set_option linter.unusedVariables false
set_option linter.unusedSimpArgs false
namespace Go.Proofs.YtjcdclpfeflfkaaGreatDoor
open Go Go.Ab
set_option maxHeartbeats 4000000 in
theorem approx_known_con {D : Prop} (t1 : Table) (f2 : List FD) (r3 : Int) (h : approx_known t1 f2 = some r3) : Con D Tryz.prog 26 [(encTable t1), (.slc (List.map encFD f2))] (.int .i64 r3) := by
 refine zP Tryz.call26 Tryz.func26 rfl Tryz.ntmps26 fun X w hT => ?_
 simp only [approx_known] at h
 refine zs (zr ?_)
 refine zU (zl (zn (zs (zs (zr ?_)))))
 refine zU ?_
 obtain ⟨r4, h5, h⟩ := zB h
 refine zc (table_Valid_con t1 _ h5) ?_
 refine zU (zl (zn (zs (zr ?_))))
 refine zU (zl (zn ?_))
 rcases zI h with ⟨h6, h⟩ | ⟨h6, h⟩
 refine zi (zs (zr ?_))
 refine zU (zl (zn (zq (zt ?_))))
 cases h
 exact zT Tryz.results26
 refine zj (zk (zn (zs (zs (zr ?_)))))
 refine zU (zl (zn (zb ?_)))
 obtain ⟨o7, h8, h⟩ := zB h
 refine zO (fun (s : Int) => ⟨[(2, .loc 2 1 0 0), (13, .p (.slc (List.map encFD f2))), (14, .p (.int .i64 (f2.length : Int))), (15, .p (.int .i64 s))], [(2, .arr 25 3 1 [.p (encTable t1)])]⟩) (fun (o : (Unit) ⊕ (Int)) => match o with | .inl o9 => tE (cX Tryz.f26 X w D hT) (.exit 0) ⟨[], []⟩ | .inr o10 => tR Tryz.prog Tryz.f26 (.int .i64 o10)) h8 ?_ ?_
 clear h h5 h6 h8
 intro t11 x h
 simp only [approx_known_l1] at h
 refine zs (zr ?_)
 refine zU (zl (zn (zs ?_)))
 rcases zI h with ⟨h12, h⟩ | ⟨h12, h⟩
 refine zi (zk (zn (zs (zb (zs (zr ?_))))))
 obtain ⟨x13, h14, h14a, h14b, h⟩ := zX h
 refine zU (zl (zn (zs (zr ?_))))
 obtain ⟨h15, h⟩ := ite_none h
 refine zU (zl (zn ?_))
 rcases zI h with ⟨h16, h⟩ | ⟨h16, h⟩
 refine zi (zs (zr ?_))
 refine zU (zl (zn (zq (yr (zt ?_)))))
 cases h
 exact ⟨rfl, zT Tryz.results26⟩
 refine zj (zk (yn (zn (zr ?_))))
 refine zU (zl ?_)
 cases h
 exact ⟨rfl, zE⟩
 refine zj (zx (ze ?_))
 cases h
 exact ⟨rfl, zE⟩
 rcases o7 with ⟨⟩ | r17
 try simp only at h
 refine zA (yh (zn (zs (zr ?_))))
 refine zU (zl (zn (zq ?_)))
 cases h
 exact zT Tryz.results26
 try simp only at h
 refine zZ fun s hq => ?_
 refine yr (zt ?_)
 cases h
 exact hq
end Go.Proofs.YtjcdclpfeflfkaaGreatDoor
set_option linter.unusedVariables false
set_option linter.unusedSimpArgs false
namespace Go.Proofs.YtjcdclpfeflfkaaGreatDoor
open Go Go.Ab
set_option maxHeartbeats 4000000 in
theorem partition_within_con {D : Prop} (t1 : Table) (s2 : Int) (r3 : Bool) (h : partition_within t1 s2 = some r3) : Con D Tryz.prog 99 [(encTable t1), (.int .u32 s2)] (.bool r3) := by
 refine zP Tryz.call99 Tryz.func99 rfl Tryz.ntmps99 fun X w hT => ?_
 simp only [partition_within] at h
 refine zs (zr ?_)
 refine zU (zl (zn (zs (zr ?_))))
 obtain ⟨h4, h⟩ := ite_none h
 refine zU (zl (zn (zq ?_)))
 cases h
 exact zT Tryz.results99
end Go.Proofs.YtjcdclpfeflfkaaGreatDoor
namespace Go.Proofs
open Go Go.Ab Go.Shelf
def YtjcdclpfeflfkaaGreatDoor.bwr_ren : Go.Shelf.Ren := ⟨fun | 166 => 141 | 169 => 142 | 240 => 162 | 276 => 180 | n => n, fun | 0 => 0 | 3 => 3 | 4 => 4 | 9 => 9 | 20 => 20 | 37 => 101 | 70 => 175 | 72 => 177 | 75 => 181 | 80 => 184 | 164 => 214 | 5 => 5 | 127 => 199 | n => n, fun | n => n⟩
theorem YtjcdclpfeflfkaaGreatDoor.bwr : Go.Proofs.Lays.n166 Tryz.prog YtjcdclpfeflfkaaGreatDoor.bwr_ren := {
  mixed := by kernel_rfl
  f166 := Tryz.func141.trans (congrArg some (by kernel_rfl))
  f240 := Tryz.func162.trans (congrArg some (by kernel_rfl))
  f276 := Tryz.func180.trans (congrArg some (by kernel_rfl))
  t0 := Tryz.underlying0
  a0 := Tryz.isAgg0
  z0 := Tryz.sizeOf0
  v0 := Tryz.zeroValue0
  t3 := Tryz.underlying3
  a3 := Tryz.isAgg3
  z3 := Tryz.sizeOf3
  v3 := Tryz.zeroValue3
  t4 := Tryz.underlying4
  a4 := Tryz.isAgg4
  z4 := Tryz.sizeOf4
  v4 := Tryz.zeroValue4
  t9 := Tryz.underlying9
  a9 := Tryz.isAgg9
  z9 := Tryz.sizeOf9
  v9 := Tryz.zeroValue9
  t20 := Tryz.underlying20
  a20 := Tryz.isAgg20
  z20 := Tryz.sizeOf20
  v20 := Tryz.zeroValue20
  t37 := Tryz.underlying101
  a37 := Tryz.isAgg101
  z37 := Tryz.sizeOf101
  v37 := Tryz.zeroValue101
  t70 := Tryz.underlying175
  a70 := Tryz.isAgg175
  z70 := Tryz.sizeOf175
  v70 := Tryz.zeroValue175
  t72 := Tryz.underlying177
  a72 := Tryz.isAgg177
  z72 := Tryz.sizeOf177
  v72 := Tryz.zeroValue177
  t75 := Tryz.underlying181
  a75 := Tryz.isAgg181
  z75 := Tryz.sizeOf181
  v75 := Tryz.zeroValue181
  t164 := Tryz.underlying214
  a164 := Tryz.isAgg214
  z164 := Tryz.sizeOf214
  v164 := Tryz.zeroValue214 }
def YtjcdclpfeflfkaaGreatDoor.bst_ren : Go.Shelf.Ren := ⟨fun | 166 => 141 | 169 => 142 | 240 => 162 | 276 => 180 | n => n, fun | 0 => 0 | 3 => 3 | 4 => 4 | 9 => 9 | 20 => 20 | 37 => 101 | 70 => 175 | 72 => 177 | 75 => 181 | 80 => 184 | 164 => 214 | 5 => 5 | 127 => 199 | n => n, fun | n => n⟩
theorem YtjcdclpfeflfkaaGreatDoor.bst : Go.Proofs.Lays.n169 Tryz.prog YtjcdclpfeflfkaaGreatDoor.bst_ren := {
  mixed := by kernel_rfl
  f169 := Tryz.func142.trans (congrArg some (by kernel_rfl))
  t0 := Tryz.underlying0
  a0 := Tryz.isAgg0
  z0 := Tryz.sizeOf0
  v0 := Tryz.zeroValue0
  t3 := Tryz.underlying3
  a3 := Tryz.isAgg3
  z3 := Tryz.sizeOf3
  v3 := Tryz.zeroValue3
  t9 := Tryz.underlying9
  a9 := Tryz.isAgg9
  z9 := Tryz.sizeOf9
  v9 := Tryz.zeroValue9
  t37 := Tryz.underlying101
  a37 := Tryz.isAgg101
  z37 := Tryz.sizeOf101
  v37 := Tryz.zeroValue101
  t70 := Tryz.underlying175
  a70 := Tryz.isAgg175
  z70 := Tryz.sizeOf175
  v70 := Tryz.zeroValue175
  t72 := Tryz.underlying177
  a72 := Tryz.isAgg177
  z72 := Tryz.sizeOf177
  v72 := Tryz.zeroValue177
  t127 := Tryz.underlying199
  a127 := Tryz.isAgg199
  z127 := Tryz.sizeOf199
  v127 := Tryz.zeroValue199 }
theorem YtjcdclpfeflfkaaGreatDoor.bwrX : Builder.Extra Tryz.prog YtjcdclpfeflfkaaGreatDoor.bwr_ren where
  sizeBuilder := by kernel_rfl
  liesBuilder := by kernel_rfl
  t5 := Tryz.underlying5
  a5 := Tryz.isAgg5
  z5 := Tryz.sizeOf5
  v5 := Tryz.zeroValue5
  infoByte := by kernel_rfl
  cellsByte := by kernel_rfl
  sizeByte := by kernel_rfl
  neB5 := by decide
theorem YtjcdclpfeflfkaaGreatDoor.bstX : Builder.Extra Tryz.prog YtjcdclpfeflfkaaGreatDoor.bst_ren where
  sizeBuilder := by kernel_rfl
  liesBuilder := by kernel_rfl
  t5 := Tryz.underlying5
  a5 := Tryz.isAgg5
  z5 := Tryz.sizeOf5
  v5 := Tryz.zeroValue5
  infoByte := by kernel_rfl
  cellsByte := by kernel_rfl
  sizeByte := by kernel_rfl
  neB5 := by decide
theorem YtjcdclpfeflfkaaGreatDoor.bldL (c : Nat) (h : 1 ≤ c) : liesAt Tryz.prog Tryz.prog.depth 177 (c * 2 / Tryz.prog.cellsOf 177) 0 177 1 = true := lies_pair (d := Tryz.prog.depth - 1) (by kernel_rfl) (by kernel_rfl) (by kernel_rfl) c h
theorem YtjcdclpfeflfkaaGreatDoor.bld : Bld Tryz.prog 141 142 177 5 where
  bodyW := Tryz.call141
  bodyS := Tryz.call142
  write := fun b c p v bs s w h1 h2 h3 h4 h5 h6 => (BldX.writeString YtjcdclpfeflfkaaGreatDoor.bwr YtjcdclpfeflfkaaGreatDoor.bwrX b (c * 2) p v (Lib.byteCells bs) ⟨s.toArray⟩ w h2 h3 (YtjcdclpfeflfkaaGreatDoor.bldL c h1) (by rw [Lib.byteCells_length]; exact h4) h5 (by rw [Lib.byteCells_length]; exact h6)).mono fun e w' h => by
    obtain ⟨he, v', q1, q2, q3, q4, q5⟩ := h
    refine ⟨he, v', q1, ?_, q3, q4, q5⟩
    have e1 : Lib.byteCells bs ++ Lib.strCells ⟨s.toArray⟩ = Lib.byteCells (bs ++ s) := by simp [Lib.byteCells, Lib.strCells]
    rw [e1, Lib.byteCells_length] at q2
    rw [List.length_append]; exact q2
  string := fun b n p v l w h1 h2 => BldX.string YtjcdclpfeflfkaaGreatDoor.bst YtjcdclpfeflfkaaGreatDoor.bstX b n p v l w h1 h2
end Go.Proofs
set_option linter.unusedVariables false
set_option linter.unusedSimpArgs false
namespace Go.Proofs.YtjcdclpfeflfkaaGreatDoor
open Go Go.Ab
set_option maxRecDepth 20000 in
set_option maxHeartbeats 4000000 in
theorem bits_TrailingZeros32_con {D : Prop} (x : Int) (r : Int) (h : bits_TrailingZeros32 x = some r) : Con D Tryz.prog 160 [(.int .u32 x)] (.int .i64 r) := by
 obtain ⟨hx, h⟩ := ite_some h
 obtain ⟨n, rfl⟩ := Int.eq_ofNat_of_zero_le hx.1
 have hn : n < 4294967296 := by omega
 replace h := Option.some.inj h
 subst h
 rw [Int.toNat_natCast]
 refine zP Tryz.call160 Tryz.func160 rfl Tryz.ntmps160 fun X w hT => ?_
 refine zs (zr ?_)
 refine zU (zl (zn ?_))
 by_cases h0 : n = 0
 subst h0
 refine zs (zs (zr ?_))
 refine zU (zl (zn ?_))
 refine zi (zs (zr ?_))
 refine zU (zl (zn (zq (zt ?_))))
 exact zT Tryz.results160
 have hb : ((n : Int) == 0) = false := by simp; omega
 refine zs (zs (zr ?_))
 refine zU (zl (zn ?_))
 refine zj (zk (zn (zs (zr ?_))))
 refine zW 6 ?_
 refine zTab (g := 0) (x := .tmp 10) (k := .u32) (tzI n) (by kernel_rfl) Tryz.underlying213 (tzI_lt n) (by simp only [go_sem, seval, *]; exact tz_idx h0 hn) ?_
 have hw := @wrap_i64t n
 refine zU (zl (zn (zq ?_)))
 have ht : tz32 n = tabNs.getD (tzI n) 0 := if_neg h0
 rw [ht]
 exact zT Tryz.results160
end Go.Proofs.YtjcdclpfeflfkaaGreatDoor
set_option linter.unusedVariables false
set_option linter.unusedSimpArgs false
namespace Go.Proofs.YtjcdclpfeflfkaaGreatDoor
open Go Go.Ab
set_option maxHeartbeats 4000000 in
theorem attrset_Members_con {D : Prop} (s1 : Int) (r2 : List Int) (h : attrset_Members s1 = some r2) : Con D Tryz.prog 139 [(.int .u32 s1)] (.slc (List.map (PV.int .i64) r2)) := by
 refine zP Tryz.call139 Tryz.func139 rfl Tryz.ntmps139 fun X w hT => ?_
 simp only [attrset_Members] at h
 refine zs (zr ?_)
 refine zU (zl (zn (zs (zr ?_))))
 refine zU (zl (zn (zs (zb ?_))))
 obtain ⟨o3, h4, h⟩ := zB h
 refine zO (fun (s : Int × List Int) => ⟨[(0, .p (.int .u32 s.1)), (3, .own 14 1 0 s.2.length)], [(14, .arr 3 1 1 (List.map AV.p (List.map (PV.int .i64) s.2)))]⟩) (fun (o5 : List Int) => tE (cX Tryz.f139 X w D hT) (.exit 0) ⟨[(3, .own 14 1 0 o5.length)], [(14, .arr 3 1 1 (List.map AV.p (List.map (PV.int .i64) o5)))]⟩) h4 ?_ ?_
 clear h h4
 intro s x h
 obtain ⟨s6, o7⟩ := s
 simp only [attrset_Members_l1] at h
 dsimp only
 refine zs (zs (zr ?_))
 refine zU (zl (zn ?_))
 rcases zI h with ⟨h8, h⟩ | ⟨h8, h⟩
 refine zi (zk (zn (zs (zb (zr ?_)))))
 refine zU ?_
 obtain ⟨r9, h10, h⟩ := zB h
 refine zc (bits_TrailingZeros32_con s6 _ h10) ?_
 obtain ⟨h11, h⟩ := ite_some h
 refine zU (zl (yn (zn (zr ?_))))
 refine zU (zl ?_)
 cases h
 exact ⟨rfl, zE⟩
 refine zj (zx (ze ?_))
 cases h
 exact ⟨rfl, zE⟩
 try simp only at h
 refine zA (yh (zn (zs (zr ?_))))
 refine zU (zl (zn (zq ?_)))
 cases h
 exact zT Tryz.results139
end Go.Proofs.YtjcdclpfeflfkaaGreatDoor
set_option linter.unusedVariables false
set_option linter.unusedSimpArgs false
namespace Go.Proofs.YtjcdclpfeflfkaaGreatDoor
open Go Go.Ab
set_option maxHeartbeats 4000000 in
theorem value_Key_con {D : Prop} (v1 : Value) (r2 : List UInt8 × Int) (h : value_Key v1 = some r2) : Con D Tryz.prog 140 [(encValue v1)] (.tup [(.str r2.1), (.int .i64 r2.2)]) := by
 refine zP Tryz.call140 Tryz.func140 rfl Tryz.ntmps140 fun X w hT => ?_
 simp only [value_Key] at h
 refine zs (zr ?_)
 refine zU (zl (zn (zs (zs (zr ?_)))))
 refine zU ?_
 obtain ⟨r3, h4, h⟩ := zB h
 refine zc (value_Valid_con v1 _ h4) ?_
 refine zU (zl (zn ?_))
 rcases zI h with ⟨h5, h⟩ | ⟨h5, h⟩
 refine zj (zk (zn (zs (zr ?_))))
 refine zU (zl (zn (zs (zs (zr ?_)))))
 refine zU (zl (zn (zb (zs (zs (zr ?_))))))
 refine zU (zl (zn ?_))
 rcases zI h with ⟨h6, h⟩ | ⟨h6, h⟩
 refine zi (zk (zn ?_))
 refine zi (zr ?_)
 refine zU ?_
 refine zM ⟨[(18, .own 12 1 0 1), (20, .p (.int .i64 v1.Num))], [(12, .arr 5 1 1 [.p (.int .u8 (IntKind.u8.wrap v1.Kind))])]⟩ ?_
 refine AL_inline (avs := [.own 12 1 0 1, .p (.int .i64 v1.Num)]) 51 rfl (guard_none rfl) rfl Tryz.func161 rfl Tryz.call161 Tryz.ntmps161 (by simp) (by simp only [go_sem, seval, h5, h6]; all_goals rfl) ?_
 intro i7 w8 h9
 show AWp _ _ _ ⟨[(0, .own 12 1 0 1), (1, .p (.int .i64 v1.Num))], [(12, .arr 5 1 1 [.p (.int .u8 (IntKind.u8.wrap v1.Kind))])]⟩
 refine zs (zr ?_)
 refine zU (zl (zn (zs (zr ?_))))
 refine zU (zl (zn (zs (zs (zr ?_)))))
 refine zU (zl (zn (zb ?_)))
 obtain ⟨o10, h11, h⟩ := zB h
 refine zO (fun (s : List Int × Int) => ⟨[(0, .own 12 2 0 s.1.length), (5, .p (.int .u64 (IntKind.u64.wrap ((BitVec.ofInt 64 (IntKind.u64.wrap v1.Num) ^^^ (9223372036854775808#64)).toNat : Int)))), (6, .p (.int .i64 s.2))], [(12, .arr 5 1 2 (List.map AV.p (List.map (PV.int .u8) s.1)))]⟩) (fun (o12 : List Int) => tE ⟨Tryz.prog, 22, 51, X, [(12, .arr 5 1 1 [.p (.int .u8 (IntKind.u8.wrap v1.Kind))])], i7, w8, D, h9⟩ (.exit 0) ⟨[(0, .own 12 2 0 o12.length)], [(12, .arr 5 1 2 (List.map AV.p (List.map (PV.int .u8) o12)))]⟩) h11 ?_ ?_
 clear h h4 h5 h6 h11
 intro s x h
 obtain ⟨o13, s14⟩ := s
 simp only [value_Key_l1] at h
 dsimp only
 refine zs (zs (zr ?_))
 refine zU (zl (zn ?_))
 rcases zI h with ⟨h15, h⟩ | ⟨h15, h⟩
 refine zi (zk (zn (zs (zb (zr ?_)))))
 obtain ⟨h16, h⟩ := ite_none h
 obtain ⟨h17, h⟩ := ite_some h
 refine zU (zl (yn (zn (zr ?_))))
 refine zU (zl ?_)
 cases h
 exact ⟨rfl, zE⟩
 refine zj (zx (ze ?_))
 cases h
 exact ⟨rfl, zE⟩
 try simp only at h
 refine zA (yh (zn (zs (zr ?_))))
 refine zU (zl (zn (zq ?_)))
 refine inlQ_ret (by simp only [Tryz.results161]; simp only [go_sem, seval, h5, h6]; exact rfl) ?_
 refine zU (zl (yn (zn (zs (zr ?_)))))
 refine zU (zl (zn (zq ?_)))
 cases h
 exact zT Tryz.results140
 have h6F := Bool.eq_false_iff.2 h6
 refine zj (zr ?_)
 refine zU (zl (zn ?_))
 rcases zI h with ⟨h18, h⟩ | ⟨h18, h⟩
 refine zi (zr ?_)
 refine zU ?_
 refine zM ⟨[(18, .own 12 1 0 1), (20, .p (.int .i64 v1.Num))], [(12, .arr 5 1 1 [.p (.int .u8 (IntKind.u8.wrap v1.Kind))])]⟩ ?_
 refine AL_inline (avs := [.own 12 1 0 1, .p (.int .i64 v1.Num)]) 73 rfl (guard_none rfl) rfl Tryz.func161 rfl Tryz.call161 Tryz.ntmps161 (by simp) (by simp only [go_sem, seval, h5, h6F, h18]; all_goals rfl) ?_
 intro i19 w20 h21
 show AWp _ _ _ ⟨[(0, .own 12 1 0 1), (1, .p (.int .i64 v1.Num))], [(12, .arr 5 1 1 [.p (.int .u8 (IntKind.u8.wrap v1.Kind))])]⟩
 refine zs (zr ?_)
 refine zU (zl (zn (zs (zr ?_))))
 refine zU (zl (zn (zs (zs (zr ?_)))))
 refine zU (zl (zn (zb ?_)))
 obtain ⟨o22, h23, h⟩ := zB h
 refine zO (fun (s : List Int × Int) => ⟨[(0, .own 12 2 0 s.1.length), (5, .p (.int .u64 (IntKind.u64.wrap ((BitVec.ofInt 64 (IntKind.u64.wrap v1.Num) ^^^ (9223372036854775808#64)).toNat : Int)))), (6, .p (.int .i64 s.2))], [(12, .arr 5 1 2 (List.map AV.p (List.map (PV.int .u8) s.1)))]⟩) (fun (o24 : List Int) => tE ⟨Tryz.prog, 22, 73, X, [(12, .arr 5 1 1 [.p (.int .u8 (IntKind.u8.wrap v1.Kind))])], i19, w20, D, h21⟩ (.exit 0) ⟨[(0, .own 12 2 0 o24.length)], [(12, .arr 5 1 2 (List.map AV.p (List.map (PV.int .u8) o24)))]⟩) h23 ?_ ?_
 clear h h4 h5 h6 h6F h18 h23
 intro s x h
 obtain ⟨o25, s26⟩ := s
 simp only [value_Key_l2] at h
 dsimp only
 refine zs (zs (zr ?_))
 refine zU (zl (zn ?_))
 rcases zI h with ⟨h27, h⟩ | ⟨h27, h⟩
 refine zi (zk (zn (zs (zb (zr ?_)))))
 obtain ⟨h28, h⟩ := ite_none h
 obtain ⟨h29, h⟩ := ite_some h
 refine zU (zl (yn (zn (zr ?_))))
 refine zU (zl ?_)
 cases h
 exact ⟨rfl, zE⟩
 refine zj (zx (ze ?_))
 cases h
 exact ⟨rfl, zE⟩
 try simp only at h
 refine zA (yh (zn (zs (zr ?_))))
 refine zU (zl (zn (zq ?_)))
 refine inlQ_ret (by simp only [Tryz.results161]; simp only [go_sem, seval, h5, h6F, h18]; exact rfl) ?_
 refine zU (zl (yn (zn (zs (zr ?_)))))
 refine zU (zl (zn (zq ?_)))
 cases h
 exact zT Tryz.results140
 have h18F := Bool.eq_false_iff.2 h18
 refine zj (zs (zr ?_))
 refine zU (zl (zn ?_))
 rcases zI h with ⟨h30, h⟩ | ⟨h30, h⟩
 refine zi (zs (zs (zr ?_)))
 refine zU (zl (zn (zb ?_)))
 obtain ⟨o31, h32, h⟩ := zB h
 refine zO (fun (s : List Int × Int) => ⟨[(1, .loc 1 1 0 0), (4, .own 12 1 0 s.1.length), (26, .p (.int .i64 (v1.Str.length : Int))), (27, .p (.int .i64 s.2))], [(1, .arr 138 3 1 [.p (encValue v1)]), (12, .arr 5 1 1 (List.map AV.p (List.map (PV.int .u8) s.1)))]⟩) (fun (o33 : List Int) => tE (cX Tryz.f140 X w D hT) (.exit 1) ⟨[(4, .own 12 1 0 o33.length)], [(12, .arr 5 1 1 (List.map AV.p (List.map (PV.int .u8) o33)))]⟩) h32 ?_ ?_
 clear h h4 h5 h6 h6F h18 h18F h30 h32
 intro s x h
 obtain ⟨o34, t35⟩ := s
 simp only [value_Key_l3] at h
 dsimp only
 refine zs (zr ?_)
 refine zU (zl (zn (zs ?_)))
 rcases zI h with ⟨h36, h⟩ | ⟨h36, h⟩
 refine zi (zk (zn (zs (zb (zs (zr ?_))))))
 refine zU (zl (zn (zs (zr ?_))))
 obtain ⟨c37, h38, h38a, h38b, h⟩ := zX h
 obtain ⟨h39, h⟩ := ite_some h
 refine zU (zl (zn (zs (zr ?_))))
 refine zU (zl (zn ?_))
 rcases zI h with ⟨h40, h⟩ | ⟨h40, h⟩
 refine zi (zr ?_)
 obtain ⟨h41, h⟩ := ite_some h
 refine zU (zl (yn (zn (zr ?_))))
 refine zU (zl ?_)
 cases h
 exact ⟨rfl, zE⟩
 refine zj (zk (yn (zn (zr ?_))))
 refine zU (zl ?_)
 cases h
 exact ⟨rfl, zE⟩
 refine zj (zx (ze ?_))
 cases h
 exact ⟨rfl, zE⟩
 try simp only at h
 refine zA (yh (zn (zr ?_)))
 obtain ⟨h42, h⟩ := ite_some h
 refine zU (zl (yn (zn (zs (zr ?_)))))
 refine zU (zl (zn (zq ?_)))
 cases h
 exact zT Tryz.results140
 have h30F := Bool.eq_false_iff.2 h30
 refine zj (zk (yn (zn (zs (zr ?_)))))
 refine zW 1 ?_
 obtain ⟨l43, h44, h⟩ := zB h
 replace h44 := Option.some.inj h44
 refine AL_le (st' := ⟨[(49, .own 12 1 0 l43.length)], [(12, .arr 5 1 1 (List.map AV.p (List.map (PV.int .u8) l43)))]⟩) (by simp only [go_sem, seval, h5, h6F, h18F, h30F, ← h44]; all_goals ((repeat' refine And.intro ?_ ?_) <;> first | rfl | (simp; done) | (simp; rfl) | (simp [*]; done) | (simp [*]; rfl))) ?_
 have h44n : l43.length = 1 := by rw [← h44]; rfl
 clear h44
 refine zU (zl (zn (zq ?_)))
 cases h
 exact zT Tryz.results140
 refine zi (zs (zr ?_))
 refine zU (zl (zn (zq (zt ?_))))
 cases h
 exact zT Tryz.results140
end Go.Proofs.YtjcdclpfeflfkaaGreatDoor
set_option linter.unusedVariables false
set_option linter.unusedSimpArgs false
namespace Go.Proofs.YtjcdclpfeflfkaaGreatDoor
open Go Go.Ab
set_option maxHeartbeats 4000000 in
theorem partition_groups_string_c1_con {D : Prop} (c1 : List Int) (r2 : Bool) (h : partition_groups_string_c1 c1 = some r2) : Con D Tryz.prog 164 [(.slc (List.map (PV.int .i64) c1))] (.bool r2) := by
 refine zP Tryz.call164 Tryz.func164 rfl Tryz.ntmps164 fun X w hT => ?_
 simp only [partition_groups_string_c1] at h
 refine zs (zr ?_)
 refine zU (zl (zn (zs (zr ?_))))
 refine zU (zl (zn (zq ?_)))
 cases h
 exact zT Tryz.results164
end Go.Proofs.YtjcdclpfeflfkaaGreatDoor
set_option linter.unusedVariables false
set_option linter.unusedSimpArgs false
namespace Go.Proofs.YtjcdclpfeflfkaaGreatDoor
open Go Go.Ab
set_option maxHeartbeats 4000000 in
theorem slices_IndexFunc_Lint_con {D : Prop} (s1 : List (List Int)) (f2 : (List Int) → Option (Bool)) (f2_k : FuncId) (f2_cs : List PV) (f2_h : ∀ (y3 : List Int) (r4 : Bool), f2 y3 = some r4 → Con D Tryz.prog f2_k ((.slc (List.map (PV.int .i64) y3)) :: f2_cs) (.bool r4)) (r5 : Int) (h : slices_IndexFunc_Lint s1 f2 = some r5) : Con D Tryz.prog 181 [(.slc (List.map (encL (PV.int .i64)) s1)), .func (.func f2_k) f2_cs] (.int .i64 r5) := by
 refine zP Tryz.call181 Tryz.func181 rfl Tryz.ntmps181 fun X w hT => ?_
 simp only [slices_IndexFunc_Lint] at h
 refine zs (zr ?_)
 refine zU (zl (zn (zs (zs (zr ?_)))))
 refine zU (zl (zn (zb ?_)))
 obtain ⟨o6, h7, h⟩ := zB h
 refine zO (fun (s : Int) => ⟨[(0, .p (.slc (List.map (encL (PV.int .i64)) s1))), (1, .p (.func (.func f2_k) f2_cs)), (7, .p (.int .i64 (s1.length : Int))), (8, .p (.int .i64 s))], []⟩) (fun (o : (Unit) ⊕ (Int)) => match o with | .inl o8 => tE (cX Tryz.f181 X w D hT) (.exit 0) ⟨[], []⟩ | .inr o9 => tR Tryz.prog Tryz.f181 (.int .i64 o9)) h7 ?_ ?_
 clear h h7
 intro t10 x h
 simp only [slices_IndexFunc_Lint_l1] at h
 refine zs (zr ?_)
 refine zU (zl (zn (zs ?_)))
 rcases zI h with ⟨h11, h⟩ | ⟨h11, h⟩
 refine zi (zk (zn (zs (zb (zs (zr ?_))))))
 refine zU (zl (zn (zs (zr ?_))))
 obtain ⟨x12, h13, h13a, h13b, h⟩ := zX h
 refine zU ?_
 obtain ⟨r14, h15, h⟩ := zB h
 refine zc (f2_h x12 _ h15) ?_
 refine zl (zn ?_)
 rcases zI h with ⟨h16, h⟩ | ⟨h16, h⟩
 refine zi (zs (zr ?_))
 refine zU (zl (zn (zq (yr (zt ?_)))))
 cases h
 exact ⟨rfl, zT Tryz.results181⟩
 refine zj (zk (yn (zn (zr ?_))))
 refine zU (zl ?_)
 cases h
 exact ⟨rfl, zE⟩
 refine zj (zx (ze ?_))
 cases h
 exact ⟨rfl, zE⟩
 rcases o6 with ⟨⟩ | r17
 try simp only at h
 refine zA (yh (zn (zs (zr ?_))))
 refine zU (zl (zn (zq ?_)))
 cases h
 exact zT Tryz.results181
 try simp only at h
 refine zZ fun s hq => ?_
 refine yr (zt ?_)
 cases h
 exact hq
end Go.Proofs.YtjcdclpfeflfkaaGreatDoor
set_option linter.unusedVariables false
set_option linter.unusedSimpArgs false
namespace Go.Proofs.YtjcdclpfeflfkaaGreatDoor
open Go Go.Ab
set_option maxHeartbeats 4000000 in
theorem partition_groups_string_con {D : Prop} (k1 : List (List UInt8)) (r2 : List (List Int)) (h : partition_groups_string k1 = some r2) : Con D Tryz.prog 143 [(.slc (List.map PV.str k1))] (.slc (List.map (encL (PV.int .i64)) r2)) := by
 refine zP Tryz.call143 Tryz.func143 rfl Tryz.ntmps143 fun X w hT => ?_
 simp only [partition_groups_string] at h
 refine zs (zr ?_)
 refine zU (zl (zn (zs (zr ?_))))
 refine zU (zl (zn (zs (zr ?_))))
 refine zU (zl (zn (zs (zs (zr ?_)))))
 refine zU (zl (zn (zb ?_)))
 obtain ⟨a3, h4, h⟩ := zB h
 refine zO (fun (s : (List (List UInt8 × Int)) × List (List Int) × Int) => ⟨[(3, .mapo 9 1), (4, .own 32 1 0 s.2.1.length), (10, .p (.slc (List.map PV.str k1))), (11, .p (.int .i64 (k1.length : Int))), (12, .p (.int .i64 s.2.2))], ((9, .map 1 (List.map AV.p (encK PV.str s.1)) (List.map AV.p (encW (PV.int .i64) s.1))) :: (32, .arr 41 1 1 (famR 32 3 1 1 (PV.int .i64) s.2.1)) :: famL 32 3 1 1 (PV.int .i64) s.2.1 [])⟩) (fun (o5 : List (List Int)) => tE (cX Tryz.f143 X w D hT) (.exit 0) ⟨[(4, .own 32 1 0 o5.length)], ((32, .arr 41 1 1 (famR 32 3 1 1 (PV.int .i64) o5)) :: famL 32 3 1 1 (PV.int .i64) o5 [])⟩) h4 ?_ ?_
 clear h h4
 intro s x h
 obtain ⟨a6, a7, t8⟩ := s
 simp only [partition_groups_string_l1] at h
 dsimp only
 refine zs (zr ?_)
 refine zU (zl (zn (zs ?_)))
 rcases zI h with ⟨h9, h⟩ | ⟨h9, h⟩
 refine zi (zk (zn (zs (zb (zs (zr ?_))))))
 obtain ⟨x10, h11, h11a, h11b, h⟩ := zX h
 refine zU (zl (zn (zs (zr ?_))))
 refine zU (zl (zn (zs (zs (zr ?_)))))
 refine zU (zl (zn ?_))
 rcases zI h with ⟨h12, h⟩ | ⟨h12, h⟩
 refine zj (zk (zn (zr ?_)))
 obtain ⟨x13, h14, h14a, h14b, h⟩ := zX h
 obtain ⟨h15, h⟩ := ite_some h
 refine zW 11 ?_
 refine zM ⟨[(3, .mapo 9 1), (4, .own 32 1 0 ((a7.set (((mget a6 x10).getD 0).toNat) (x13 ++ [t8]))).length), (10, .p (.slc (List.map PV.str k1))), (11, .p (.int .i64 (k1.length : Int))), (12, .p (.int .i64 t8))], ((9, .map 1 (List.map AV.p (encK PV.str a6)) (List.map AV.p (encW (PV.int .i64) a6))) :: (32, .arr 41 1 1 (famR 32 3 1 1 (PV.int .i64) (a7.set (((mget a6 x10).getD 0).toNat) (x13 ++ [t8])))) :: famL 32 3 1 1 (PV.int .i64) (a7.set (((mget a6 x10).getD 0).toNat) (x13 ++ [t8])) [])⟩ ?_
 refine zl (yn (zn (zr ?_)))
 refine zU (zl ?_)
 cases h
 exact ⟨rfl, zE⟩
 refine zi (zs (zr ?_))
 refine zU (zl (zn (zs (zr ?_))))
 refine zU (zl (zn (zr ?_)))
 obtain ⟨h16, h⟩ := ite_some h
 refine zW 3 ?_
 refine zM ⟨[(3, .mapo 9 1), (5, .p (.int .i64 t8)), (7, .p (.int .i64 ((a7.length : Nat) : Int))), (10, .p (.slc (List.map PV.str k1))), (11, .p (.int .i64 (k1.length : Int))), (12, .p (.int .i64 t8)), (32, .own 32 1 0 (a7.length + 1))], ((9, .map 1 (List.map AV.p (encK PV.str (mset a6 x10 ((a7.length : Nat) : Int)))) (List.map AV.p (encW (PV.int .i64) (mset a6 x10 ((a7.length : Nat) : Int))))) :: (32, .arr 41 1 1 (famR 32 3 1 1 (PV.int .i64) (a7 ++ [[]]))) :: famL 32 3 1 1 (PV.int .i64) (a7 ++ [[]]) [])⟩ ?_
 refine zU (zl (zn (zr ?_)))
 obtain ⟨x17, h18, h18a, h18b, h⟩ := zX h
 have hx_527C := h18b
 simp only [List.length_append, List.length_set, List.length_cons, List.length_nil, Nat.zero_add] at hx_527C
 have h18N := nat_get h18
 obtain ⟨h19, h⟩ := ite_some h
 refine zW 11 ?_
 refine zM ⟨[(3, .mapo 9 1), (4, .own 32 1 0 (((a7 ++ [[]]).set (((a7.length : Nat) : Int).toNat) (x17 ++ [t8]))).length), (10, .p (.slc (List.map PV.str k1))), (11, .p (.int .i64 (k1.length : Int))), (12, .p (.int .i64 t8))], ((9, .map 1 (List.map AV.p (encK PV.str (mset a6 x10 ((a7.length : Nat) : Int)))) (List.map AV.p (encW (PV.int .i64) (mset a6 x10 ((a7.length : Nat) : Int))))) :: (32, .arr 41 1 1 (famR 32 3 1 1 (PV.int .i64) ((a7 ++ [[]]).set (((a7.length : Nat) : Int).toNat) (x17 ++ [t8])))) :: famL 32 3 1 1 (PV.int .i64) ((a7 ++ [[]]).set (((a7.length : Nat) : Int).toNat) (x17 ++ [t8])) [])⟩ ?_
 refine zl (yn (zn (zr ?_)))
 refine zU (zl ?_)
 cases h
 exact ⟨rfl, zE⟩
 refine zj (zx (ze ?_))
 cases h
 exact ⟨rfl, zE⟩
 try simp only at h
 refine zA (yh (zn (zs (zr ?_))))
 refine zU ?_
 refine zM ⟨[(44, .own 32 1 0 a3.length)], [(32, .arr 41 1 1 (List.map AV.p (List.map (encL (PV.int .i64)) a3)))]⟩ ?_
 refine AL_inline (avs := [.own 32 1 0 a3.length, .p (.func (.func 164) [])]) 46 rfl (guard_none rfl) rfl Tryz.func163 rfl Tryz.call163 Tryz.ntmps163 (by simp) (by simp only [go_sem, seval]; all_goals rfl) ?_
 intro i20 w21 h22
 show AWp _ _ _ ⟨[(0, .own 32 1 0 a3.length), (1, .p (.func (.func 164) []))], [(32, .arr 41 1 1 (List.map AV.p (List.map (encL (PV.int .i64)) a3)))]⟩
 refine zs (zr ?_)
 refine zU (zl (zn (zs (zr ?_))))
 refine zU ?_
 obtain ⟨r23, h24, h⟩ := zB h
 refine zc (slices_IndexFunc_Lint_con a3 (fun (y25 : List Int) => partition_groups_string_c1 y25) 164 [] (fun y25 r h => partition_groups_string_c1_con y25 r h) _ h24) ?_
 refine zU (zl (zn (zs (zs (zr ?_)))))
 refine zU (zl (zn ?_))
 rcases zI h with ⟨h26, h⟩ | ⟨h26, h⟩
 refine zi (zs (zr ?_))
 refine zU (zl (zn (zq (zt ?_))))
 refine inlQ_ret (by simp only [Tryz.results163]; simp only [go_sem, seval, h26]; exact rfl) ?_
 refine zU (zl (zn (zq ?_)))
 cases h
 exact zT Tryz.results143
 have h26F := Bool.eq_false_iff.2 h26
 refine zj (zk (zn (zs (zs (zr ?_)))))
 refine zU (zl (zn (zb ?_)))
 obtain ⟨o27, h28, h⟩ := zB h
 refine zO (fun (s : List (List Int) × Int × Int) => ⟨[(0, .own 32 1 0 s.1.length), (1, .p (.func (.func 164) [])), (5, .p (.int .i64 s.2.1)), (6, .p (.int .i64 s.2.2))], [(32, .arr 41 1 1 (List.map AV.p (List.map (encL (PV.int .i64)) s.1)))]⟩) (fun (o29 : List (List Int) × Int) => tE ⟨Tryz.prog, 42, 46, X, [(32, .arr 41 1 1 (List.map AV.p (List.map (encL (PV.int .i64)) a3)))], i20, w21, D, h22⟩ (.exit 0) ⟨[(0, .own 32 1 0 o29.1.length), (5, .p (.int .i64 o29.2))], [(32, .arr 41 1 1 (List.map AV.p (List.map (encL (PV.int .i64)) o29.1)))]⟩) h28 ?_ ?_
 clear h h4 h24 h26 h26F h28
 intro s x h
 obtain ⟨s30, i31, j32⟩ := s
 simp only [partition_groups_string_l2] at h
 dsimp only
 refine zs (zs (zr ?_))
 refine zU (zl (zn ?_))
 rcases zI h with ⟨h33, h⟩ | ⟨h33, h⟩
 refine zi (zk (zn (zs (zb (zs (zr ?_))))))
 obtain ⟨x34, h35, h35a, h35b, h⟩ := zX h
 refine zU (zl (zn (zs (zr ?_))))
 refine zU ?_
 obtain ⟨r36, h37, h⟩ := zB h
 refine zc (partition_groups_string_c1_con x34 _ h37) ?_
 refine zU (zl (zn ?_))
 rcases zI h with ⟨h38, h⟩ | ⟨h38, h⟩
 refine zj (zk (yn (zn (zr ?_))))
 refine zU (zl ?_)
 cases h
 exact ⟨rfl, zE⟩
 refine zi (zs (zr ?_))
 obtain ⟨x39, h40, h40a, h40b, h⟩ := zX h
 refine zU (zl (zn (zr ?_)))
 refine zU (zl (yn (zn (zr ?_))))
 refine zU (zl ?_)
 cases h
 exact ⟨rfl, zE⟩
 refine zj (zx (ze ?_))
 cases h
 exact ⟨rfl, zE⟩
 obtain ⟨s41, i42⟩ := o27
 try simp only at h
 refine zA (yh (zn (zs (zr ?_))))
 obtain ⟨h43, h⟩ := ite_some h
 obtain ⟨h44, h⟩ := ite_some h
 refine zW 3 ?_
 refine zCn (encL (PV.int .i64)) s41 32 i42.toNat (s41.length - i42.toNat) (by simp only [List.length_set, List.length_append, List.length_replicate] at *; omega) ?_
 refine zM ⟨[(0, .own 32 1 0 ((((s41.take i42.toNat)).length + ((List.replicate (s41.length - i42.toNat) ([] : List Int))).length) + ((s41.drop (i42.toNat + (s41.length - i42.toNat)))).length)), (5, .p (.int .i64 i42))], [(32, .arr 41 1 1 (List.map AV.p (List.map (encL (PV.int .i64)) (((s41.take i42.toNat) ++ (List.replicate (s41.length - i42.toNat) ([] : List Int))) ++ (s41.drop (i42.toNat + (s41.length - i42.toNat)))))))]⟩ ?_
 refine zl (zn (zs (zr ?_)))
 obtain ⟨h45, h⟩ := ite_some h
 obtain ⟨h46, h⟩ := ite_some h
 refine zU (zl (zn ?_))
 refine zL ⟨[(4, .own 32 1 0 i42.toNat)], [(32, .arr 41 1 1 (List.map AV.p (List.map (encL (PV.int .i64)) (((s41.take i42.toNat) ++ (List.replicate (s41.length - i42.toNat) ([] : List Int))) ++ (s41.drop (i42.toNat + (s41.length - i42.toNat)))))))]⟩ ?_
 obtain ⟨l47, h48, h⟩ := zB h
 replace h48 := Option.some.inj h48
 rw [h48]
 obtain ⟨h49, h⟩ := ite_some h
 obtain ⟨l50, h51, h⟩ := zB h
 replace h51 := Option.some.inj h51
 have h51L : l50.length = i42.toNat := by rw [← h51]; exact List.length_take_of_le h49
 refine awp_shrink 4 32 1 i42.toNat 41 1 (es' := List.map AV.p (List.map (encL (PV.int .i64)) l50)) (by exact rfl) (by exact rfl) (by rw [← List.map_take, ← List.map_take, h51]) rfl ?_
 refine zL ⟨[(4, .own 32 2 0 l50.length)], [(32, .arr 41 1 2 (List.map AV.p (List.map (encL (PV.int .i64)) l50)))]⟩ ?_
 clear h51L h49
 refine zq ?_
 refine inlQ_ret (by simp only [Tryz.results163]; simp only [go_sem, seval, h26F]; exact rfl) ?_
 refine zU (zl (zn (zq ?_)))
 cases h
 exact zT Tryz.results143
end Go.Proofs.YtjcdclpfeflfkaaGreatDoor
set_option linter.unusedVariables false
set_option linter.unusedSimpArgs false
namespace Go.Proofs.YtjcdclpfeflfkaaGreatDoor
open Go Go.Ab
set_option maxHeartbeats 4000000 in
theorem partition_of_con (t1 : Table) (s2 : Int) (r3 : Partition) (h : partition_of t1 s2 = some r3) : Con False Tryz.prog 100 [(encTable t1), (.int .u32 s2)] (encPartition r3) := by
 refine zP Tryz.call100 Tryz.func100 rfl Tryz.ntmps100 fun X w hT => ?_
 simp only [partition_of] at h
 refine zs (zr ?_)
 refine zU (zl (zn (zs (zr ?_))))
 refine zU ?_
 obtain ⟨r4, h5, h⟩ := zB h
 refine zc (attrset_Members_con s2 _ h5) ?_
 refine zU (zl (zn (zs (zr ?_))))
 obtain ⟨h6, h⟩ := ite_some h
 obtain ⟨h7, h⟩ := ite_some h
 refine zU (zl (zn (zs (zs (zr ?_)))))
 refine zU (zl (zn (zb ?_)))
 obtain ⟨k8, h9, h⟩ := zB h
 refine zO (fun (s : List (List UInt8) × Int) => ⟨[(2, .loc 2 1 0 0), (4, .loc 4 1 0 0), (5, .p (.slc (List.map (PV.int .i64) r4))), (6, .own 19 1 0 s.1.length), (21, .p (.slc (List.map encRow t1.Rows))), (22, .p (.int .i64 (t1.Rows.length : Int))), (23, .p (.int .i64 s.2))], [(2, .arr 25 3 1 [.p (encTable t1)]), (4, .arr 105 2 1 [.agg [.p (.int .i64 0), .nils]]), (19, .arr 9 1 1 (List.map AV.p (List.map PV.str s.1)))]⟩) (fun (o10 : List (List UInt8)) => tE (cX Tryz.f100 X w False hT) (.exit 0) ⟨[(2, .loc 2 1 0 0), (4, .loc 4 1 0 0), (6, .own 19 1 0 o10.length)], [(2, .arr 25 3 1 [.p (encTable t1)]), (4, .arr 105 2 1 [.agg [.p (.int .i64 0), .nils]]), (19, .arr 9 1 1 (List.map AV.p (List.map PV.str o10)))]⟩) h9 ?_ ?_
 clear h h5 h6 h7 h9
 intro s x h
 obtain ⟨k11, t12⟩ := s
 simp only [partition_of_l4] at h
 dsimp only
 refine zs (zr ?_)
 refine zU (zl (zn (zs ?_)))
 rcases zI h with ⟨h13, h⟩ | ⟨h13, h⟩
 refine zi (zk (zn (zs (zb (zs (zr ?_))))))
 obtain ⟨x14, h15, h15a, h15b, h⟩ := zX h
 refine zU (zl (zn (zs (zr ?_))))
 refine zU (zl (zn (zs (zs (zr ?_)))))
 refine zU (zl (zn (zb ?_)))
 obtain ⟨o16, h17, h⟩ := zB h
 refine zO (fun (s : Bool × List UInt8 × Int) => ⟨[(2, .loc 2 1 0 0), (4, .loc 4 1 0 0), (5, .p (.slc (List.map (PV.int .i64) r4))), (6, .own 19 1 0 k11.length), (7, .p (.int .i64 t12)), (8, .loc 8 1 0 0), (9, .loc 9 1 0 0), (21, .p (.slc (List.map encRow t1.Rows))), (22, .p (.int .i64 (t1.Rows.length : Int))), (23, .p (.int .i64 t12)), (28, .p (.slc (List.map (PV.int .i64) r4))), (29, .p (.int .i64 (r4.length : Int))), (30, .p (.int .i64 s.2.2))], [(2, .arr 25 3 1 [.p (encTable t1)]), (4, .arr 105 2 1 [.agg [.p (.int .i64 0), .nils]]), (8, .arr 71 2 1 [.p (encRow x14)]), (9, .arr 177 2 1 [.agg [(if s.1 = true then .loc 9 1 0 0 else .p .nilp), .own 100009 1 0 s.2.1.length]]), (19, .arr 9 1 1 (List.map AV.p (List.map PV.str k11))), (100009, .arr 5 1 1 (bytesA s.2.1))]⟩) (fun (o18 : Bool × List UInt8) => tE (cX Tryz.f100 X w False hT) (.exit 2) ⟨[(2, .loc 2 1 0 0), (4, .loc 4 1 0 0), (5, .p (.slc (List.map (PV.int .i64) r4))), (6, .own 19 1 0 k11.length), (7, .p (.int .i64 t12)), (9, .loc 9 1 0 0), (21, .p (.slc (List.map encRow t1.Rows))), (22, .p (.int .i64 (t1.Rows.length : Int))), (23, .p (.int .i64 t12))], [(2, .arr 25 3 1 [.p (encTable t1)]), (4, .arr 105 2 1 [.agg [.p (.int .i64 0), .nils]]), (9, .arr 177 2 1 [.agg [(if o18.1 = true then .loc 9 1 0 0 else .p .nilp), .own 100009 1 0 o18.2.length]]), (19, .arr 9 1 1 (List.map AV.p (List.map PV.str k11))), (100009, .arr 5 1 1 (bytesA o18.2))]⟩) h17 ?_ ?_
 clear h h13 h15 h15a h15b h17
 intro s x h
 obtain ⟨b19, b20, t21⟩ := s
 simp only [partition_of_l3] at h
 dsimp only
 refine zs (zr ?_)
 refine zU (zl (zn (zs ?_)))
 rcases zI h with ⟨h22, h⟩ | ⟨h22, h⟩
 refine zi (zk (zn (zs (zb (zs (zr ?_))))))
 obtain ⟨x23, h24, h24a, h24b, h⟩ := zX h
 refine zU (zl (zn (zs (zr ?_))))
 obtain ⟨x25, h26, h26a, h26b, h⟩ := zX h
 refine zU ?_
 obtain ⟨r27, h28, h⟩ := zB h
 refine zc (value_Key_con x25 _ h28) ?_
 refine zU (zl (zn (zr ?_)))
 refine zU ?_
 obtain ⟨h29, h⟩ := ite_some h
 refine zBw bld 9 100009 b20 r27.1 ((b20.length + (r27.1).length)) h29 ?_
 refine zM ⟨[(2, .loc 2 1 0 0), (4, .loc 4 1 0 0), (5, .p (.slc (List.map (PV.int .i64) r4))), (6, .own 19 1 0 k11.length), (7, .p (.int .i64 t12)), (8, .loc 8 1 0 0), (9, .loc 9 1 0 0), (21, .p (.slc (List.map encRow t1.Rows))), (22, .p (.int .i64 (t1.Rows.length : Int))), (23, .p (.int .i64 t12)), (28, .p (.slc (List.map (PV.int .i64) r4))), (29, .p (.int .i64 (r4.length : Int))), (30, .p (.int .i64 t21)), (44, .p (.tup [.int .i64 (r27.1.length : Int), .nili]))], [(2, .arr 25 3 1 [.p (encTable t1)]), (4, .arr 105 2 1 [.agg [.p (.int .i64 0), .nils]]), (8, .arr 71 2 1 [.p (encRow x14)]), (9, .arr 177 2 1 [.agg [.loc 9 1 0 0, .own 100009 1 0 (b20.length + (r27.1).length)]]), (19, .arr 9 1 1 (List.map AV.p (List.map PV.str k11))), (100009, .arr 5 1 1 (bytesA (b20 ++ r27.1)))]⟩ ?_
 refine zl (yn (zn (zr ?_)))
 refine zU (zl ?_)
 cases h
 exact ⟨rfl, zE⟩
 refine zj (zx (ze ?_))
 cases h
 exact ⟨rfl, zE⟩
 obtain ⟨b30, b31⟩ := o16
 try simp only at h
 refine zA (yh (zn (zr ?_)))
 refine zU ?_
 refine zBs bld 9 100009 b31 ?_
 refine zM ⟨[(2, .loc 2 1 0 0), (4, .loc 4 1 0 0), (5, .p (.slc (List.map (PV.int .i64) r4))), (6, .own 19 1 0 k11.length), (21, .p (.slc (List.map encRow t1.Rows))), (22, .p (.int .i64 (t1.Rows.length : Int))), (23, .p (.int .i64 t12)), (46, .own 19 1 0 k11.length), (47, .p (.int .i64 t12)), (48, .p (.str b31))], [(2, .arr 25 3 1 [.p (encTable t1)]), (4, .arr 105 2 1 [.agg [.p (.int .i64 0), .nils]]), (19, .arr 9 1 1 (List.map AV.p (List.map PV.str k11)))]⟩ ?_
 obtain ⟨x32, h33, h33a, h33b, h⟩ := zX h
 refine zU (zl (yn (zn (zr ?_))))
 refine zU (zl ?_)
 cases h
 exact ⟨rfl, zE⟩
 refine zj (zx (ze ?_))
 cases h
 exact ⟨rfl, zE⟩
 try simp only at h
 refine zA (yh (zn (zs ?_)))
 refine zL ⟨[(2, .loc 2 1 0 0), (4, .loc 4 1 0 0), (6, .p (.slc (List.map PV.str k8)))], [(2, .arr 25 3 1 [.p (encTable t1)]), (4, .arr 105 2 1 [.agg [.p (.int .i64 0), .nils]])]⟩ ?_
 refine zd ?_
 refine yU ?_
 obtain ⟨r34, h35, h⟩ := zB h
 refine yc (partition_groups_string_con k8 _ h35) ?_
 refine yU ?_
 refine yd (zn (zq ?_))
 cases h
 exact zT Tryz.results100
end Go.Proofs.YtjcdclpfeflfkaaGreatDoor
set_option linter.unusedVariables false
set_option linter.unusedSimpArgs false
namespace Go.Proofs.YtjcdclpfeflfkaaGreatDoor
open Go Go.Ab
set_option maxHeartbeats 4000000 in
theorem partition_Of_con (t1 : Table) (s2 : Int) (r3 : Partition × Int) (h : partition_Of t1 s2 = some r3) : Con False Tryz.prog 61 [(encTable t1), (.int .u32 s2)] (.tup [(encPartition r3.1), (.int .i64 r3.2)]) := by
 refine zP Tryz.call61 Tryz.func61 rfl Tryz.ntmps61 fun X w hT => ?_
 simp only [partition_Of] at h
 refine zs (zr ?_)
 refine zU (zl (zn (zs (zs (zr ?_)))))
 refine zU ?_
 obtain ⟨r4, h5, h⟩ := zB h
 refine zc (table_Valid_con t1 _ h5) ?_
 refine zU (zl (zn (zs (zr ?_))))
 refine zU (zl (zn ?_))
 rcases zI h with ⟨h6, h⟩ | ⟨h6, h⟩
 refine zi (zs (zr ?_))
 refine zU (zl (zn (zq (zt ?_))))
 cases h
 exact zT Tryz.results61
 refine zj (zk (zn (zs (zs (zr ?_)))))
 refine zU ?_
 obtain ⟨r7, h8, h⟩ := zB h
 refine zc (partition_within_con t1 s2 _ h8) ?_
 refine zU (zl (zn ?_))
 rcases zI h with ⟨h9, h⟩ | ⟨h9, h⟩
 refine zj (zk (zn (zs (zr ?_))))
 refine zU ?_
 obtain ⟨r10, h11, h⟩ := zB h
 refine zc (partition_of_con t1 s2 _ h11) ?_
 refine zU (zl (zn (zq ?_)))
 cases h
 exact zT Tryz.results61
 refine zi (zs (zr ?_))
 refine zU (zl (zn (zq (zt ?_))))
 cases h
 exact zT Tryz.results61
end Go.Proofs.YtjcdclpfeflfkaaGreatDoor
set_option linter.unusedVariables false
set_option linter.unusedSimpArgs false
namespace Go.Proofs.YtjcdclpfeflfkaaGreatDoor
open Go Go.Ab
set_option maxHeartbeats 4000000 in
theorem approx_groups_con (t1 : Table) (f2 : FD) (r3 : List (List (List Int))) (h : approx_groups t1 f2 = some r3) : Con False Tryz.prog 27 [(encTable t1), (encFD f2)] (.slc (List.map (encL (encL (PV.int .i64))) r3)) := by
 refine zP Tryz.call27 Tryz.func27 rfl Tryz.ntmps27 fun X w hT => ?_
 simp only [approx_groups] at h
 refine zs (zr ?_)
 refine zU (zl (zn (zs (zr ?_))))
 refine zU ?_
 obtain ⟨r4, h5, h⟩ := zB h
 refine zc (partition_Of_con t1 f2.Lhs _ h5) ?_
 refine zU (zl (zn (zs (zr ?_))))
 refine zU ?_
 obtain ⟨r6, h7, h⟩ := zB h
 refine zc (partition_Of_con t1 (IntKind.u32.wrap ((BitVec.ofInt 32 f2.Lhs ||| (BitVec.ofInt 32 f2.Rhs)).toNat : Int)) _ h7) ?_
 refine zU (zl (zn (zs (zr ?_))))
 obtain ⟨h8, h⟩ := ite_some h
 obtain ⟨h9, h⟩ := ite_some h
 refine zU (zl (zn (zs (zs (zr ?_)))))
 refine zU (zl (zn (zb ?_)))
 obtain ⟨c10, h11, h⟩ := zB h
 refine zO (fun (s : List Int × Int) => ⟨[(5, .loc 5 1 0 0), (7, .loc 7 1 0 0), (9, .own 44 1 0 s.1.length), (46, .p (.int .i64 ((t1.Rows.length : Nat) : Int))), (47, .p (.int .i64 s.2))], [(5, .arr 105 2 1 [.p (encPartition r4.1)]), (7, .arr 105 2 1 [.p (encPartition r6.1)]), (44, .arr 3 1 1 (List.map AV.p (List.map (PV.int .i64) s.1)))]⟩) (fun (o12 : List Int) => tE (cX Tryz.f27 X w False hT) (.exit 0) ⟨[(5, .loc 5 1 0 0), (7, .loc 7 1 0 0), (9, .own 44 1 0 o12.length)], [(5, .arr 105 2 1 [.p (encPartition r4.1)]), (7, .arr 105 2 1 [.p (encPartition r6.1)]), (44, .arr 3 1 1 (List.map AV.p (List.map (PV.int .i64) o12)))]⟩) h11 ?_ ?_
 clear h h5 h7 h8 h9 h11
 intro s x h
 obtain ⟨c13, t14⟩ := s
 simp only [approx_groups_l1] at h
 dsimp only
 refine zs (zr ?_)
 refine zU (zl (zn (zs ?_)))
 rcases zI h with ⟨h15, h⟩ | ⟨h15, h⟩
 refine zi (zk (zn (zs (zb (zs (zr ?_))))))
 refine zU (zl (zn (zr ?_)))
 obtain ⟨x16, h17, h17a, h17b, h⟩ := zX h
 refine zU (zl (yn (zn (zr ?_))))
 refine zU (zl ?_)
 cases h
 exact ⟨rfl, zE⟩
 refine zj (zx (ze ?_))
 cases h
 exact ⟨rfl, zE⟩
 try simp only at h
 refine zA (yh (zn (zs (zs (zr ?_)))))
 refine zU (zl (zn (zb ?_)))
 obtain ⟨c18, h19, h⟩ := zB h
 refine zO (fun (s : List Int × Int) => ⟨[(5, .loc 5 1 0 0), (9, .own 44 1 0 s.1.length), (57, .p (.slc (List.map (encL (PV.int .i64)) r6.1.Classes))), (58, .p (.int .i64 (r6.1.Classes.length : Int))), (59, .p (.int .i64 s.2))], [(5, .arr 105 2 1 [.p (encPartition r4.1)]), (44, .arr 3 1 1 (List.map AV.p (List.map (PV.int .i64) s.1)))]⟩) (fun (o20 : List Int) => tE (cX Tryz.f27 X w False hT) (.exit 2) ⟨[(5, .loc 5 1 0 0), (9, .own 44 1 0 o20.length)], [(5, .arr 105 2 1 [.p (encPartition r4.1)]), (44, .arr 3 1 1 (List.map AV.p (List.map (PV.int .i64) o20)))]⟩) h19 ?_ ?_
 clear h h5 h7 h8 h9 h11 h19
 intro s x h
 obtain ⟨c21, t22⟩ := s
 simp only [approx_groups_l5] at h
 dsimp only
 refine zs (zr ?_)
 refine zU (zl (zn (zs ?_)))
 rcases zI h with ⟨h23, h⟩ | ⟨h23, h⟩
 refine zi (zk (zn (zs (zb (zs (zr ?_))))))
 obtain ⟨x24, h25, h25a, h25b, h⟩ := zX h
 refine zU (zl (zn (zs (zr ?_))))
 refine zU (zl (zn (zb ?_)))
 obtain ⟨c26, h27, h⟩ := zB h
 refine zO (fun (s : List Int × Int) => ⟨[(5, .loc 5 1 0 0), (9, .own 44 1 0 s.1.length), (11, .p (.int .i64 t22)), (57, .p (.slc (List.map (encL (PV.int .i64)) r6.1.Classes))), (58, .p (.int .i64 (r6.1.Classes.length : Int))), (59, .p (.int .i64 t22)), (64, .p (.slc (List.map (PV.int .i64) x24))), (65, .p (.int .i64 (x24.length : Int))), (66, .p (.int .i64 s.2))], [(5, .arr 105 2 1 [.p (encPartition r4.1)]), (44, .arr 3 1 1 (List.map AV.p (List.map (PV.int .i64) s.1)))]⟩) (fun (o28 : List Int) => tE (cX Tryz.f27 X w False hT) (.exit 4) ⟨[(5, .loc 5 1 0 0), (9, .own 44 1 0 o28.length), (57, .p (.slc (List.map (encL (PV.int .i64)) r6.1.Classes))), (58, .p (.int .i64 (r6.1.Classes.length : Int))), (59, .p (.int .i64 t22))], [(5, .arr 105 2 1 [.p (encPartition r4.1)]), (44, .arr 3 1 1 (List.map AV.p (List.map (PV.int .i64) o28)))]⟩) h27 ?_ ?_
 clear h h23 h25 h25a h25b h27
 intro s x h
 obtain ⟨c29, t30⟩ := s
 simp only [approx_groups_l4] at h
 dsimp only
 refine zs (zr ?_)
 refine zU (zl (zn (zs ?_)))
 rcases zI h with ⟨h31, h⟩ | ⟨h31, h⟩
 refine zi (zk (zn (zs (zb (zs (zr ?_))))))
 obtain ⟨x32, h33, h33a, h33b, h⟩ := zX h
 refine zU (zl (zn (zr ?_)))
 obtain ⟨x34, h35, h35a, h35b, h⟩ := zX h
 refine zU (zl (yn (zn (zr ?_))))
 refine zU (zl ?_)
 cases h
 exact ⟨rfl, zE⟩
 refine zj (zx (ze ?_))
 cases h
 exact ⟨rfl, zE⟩
 try simp only at h
 refine zA (yh (yn (zn (zr ?_))))
 refine zU (zl ?_)
 cases h
 exact ⟨rfl, zE⟩
 refine zj (zx (ze ?_))
 cases h
 exact ⟨rfl, zE⟩
 try simp only at h
 refine zA (yh (zn (zs (zr ?_))))
 refine zU (zl (zn (zs (zs (zr ?_)))))
 refine zU (zl (zn (zb ?_)))
 obtain ⟨o36, h37, h⟩ := zB h
 refine zO (fun (s : List (List (List Int)) × Int) => ⟨[(9, .own 44 1 0 c18.length), (15, .own 126 1 0 s.1.length), (77, .p (.slc (List.map (encL (PV.int .i64)) r4.1.Classes))), (78, .p (.int .i64 (r4.1.Classes.length : Int))), (79, .p (.int .i64 s.2))], [(44, .arr 3 1 1 (List.map AV.p (List.map (PV.int .i64) c18))), (126, .arr 67 1 1 (List.map AV.p (List.map (encL (encL (PV.int .i64))) s.1)))]⟩) (fun (o38 : List (List (List Int))) => tE (cX Tryz.f27 X w False hT) (.exit 6) ⟨[(15, .own 126 1 0 o38.length)], [(126, .arr 67 1 1 (List.map AV.p (List.map (encL (encL (PV.int .i64))) o38)))]⟩) h37 ?_ ?_
 clear h h5 h7 h8 h9 h11 h19 h37
 intro s x h
 obtain ⟨o39, t40⟩ := s
 simp only [approx_groups_l9] at h
 dsimp only
 refine zs (zr ?_)
 refine zU (zl (zn (zs ?_)))
 rcases zI h with ⟨h41, h⟩ | ⟨h41, h⟩
 refine zi (zk (zn (zs (zb (zs (zr ?_))))))
 obtain ⟨x42, h43, h43a, h43b, h⟩ := zX h
 refine zU (zl (zn (zs (zr ?_))))
 refine zU (zl (zn (zs (zr ?_))))
 refine zU (zl (zn (zs (zs (zr ?_)))))
 refine zU (zl (zn (zb ?_)))
 obtain ⟨g44, h45, h⟩ := zB h
 refine zO (fun (s : List (List Int) × (List (Int × Int)) × Int) => ⟨[(9, .own 44 1 0 c18.length), (15, .own 126 1 0 o39.length), (18, .own 111 1 0 s.1.length), (19, .mapo 83 1), (77, .p (.slc (List.map (encL (PV.int .i64)) r4.1.Classes))), (78, .p (.int .i64 (r4.1.Classes.length : Int))), (79, .p (.int .i64 t40)), (84, .p (.slc (List.map (PV.int .i64) x42))), (85, .p (.int .i64 (x42.length : Int))), (86, .p (.int .i64 s.2.2))], ((44, .arr 3 1 1 (List.map AV.p (List.map (PV.int .i64) c18))) :: (83, .map 1 (List.map AV.p (encK (PV.int .i64) s.2.1)) (List.map AV.p (encW (PV.int .i64) s.2.1))) :: (111, .arr 41 1 1 (famR 111 3 1 1 (PV.int .i64) s.1)) :: (126, .arr 67 1 1 (List.map AV.p (List.map (encL (encL (PV.int .i64))) o39))) :: famL 111 3 1 1 (PV.int .i64) s.1 [])⟩) (fun (o46 : List (List Int)) => tE (cX Tryz.f27 X w False hT) (.exit 8) ⟨[(9, .own 44 1 0 c18.length), (15, .own 126 1 0 o39.length), (18, .own 111 1 0 o46.length), (77, .p (.slc (List.map (encL (PV.int .i64)) r4.1.Classes))), (78, .p (.int .i64 (r4.1.Classes.length : Int))), (79, .p (.int .i64 t40))], ((44, .arr 3 1 1 (List.map AV.p (List.map (PV.int .i64) c18))) :: (111, .arr 41 1 1 (famR 111 3 1 1 (PV.int .i64) o46)) :: (126, .arr 67 1 1 (List.map AV.p (List.map (encL (encL (PV.int .i64))) o39))) :: famL 111 3 1 1 (PV.int .i64) o46 [])⟩) h45 ?_ ?_
 clear h h41 h43 h43a h43b h45
 intro s x h
 obtain ⟨g47, a48, t49⟩ := s
 simp only [approx_groups_l8] at h
 dsimp only
 refine zs (zr ?_)
 refine zU (zl (zn (zs ?_)))
 rcases zI h with ⟨h50, h⟩ | ⟨h50, h⟩
 refine zi (zk (zn (zs (zb (zs (zr ?_))))))
 obtain ⟨x51, h52, h52a, h52b, h⟩ := zX h
 refine zU (zl (zn (zs (zr ?_))))
 obtain ⟨x53, h54, h54a, h54b, h⟩ := zX h
 refine zU (zl (zn (zs (zs (zr ?_)))))
 refine zU (zl (zn ?_))
 rcases zI h with ⟨h55, h⟩ | ⟨h55, h⟩
 refine zj (zk (zn (zr ?_)))
 obtain ⟨x56, h57, h57a, h57b, h⟩ := zX h
 obtain ⟨h58, h⟩ := ite_some h
 refine zW 11 ?_
 refine zM ⟨[(9, .own 44 1 0 c18.length), (15, .own 126 1 0 o39.length), (18, .own 111 1 0 ((g47.set (((mget a48 x53).getD 0).toNat) (x56 ++ [x51]))).length), (19, .mapo 83 1), (77, .p (.slc (List.map (encL (PV.int .i64)) r4.1.Classes))), (78, .p (.int .i64 (r4.1.Classes.length : Int))), (79, .p (.int .i64 t40)), (84, .p (.slc (List.map (PV.int .i64) x42))), (85, .p (.int .i64 (x42.length : Int))), (86, .p (.int .i64 t49))], ((44, .arr 3 1 1 (List.map AV.p (List.map (PV.int .i64) c18))) :: (83, .map 1 (List.map AV.p (encK (PV.int .i64) a48)) (List.map AV.p (encW (PV.int .i64) a48))) :: (111, .arr 41 1 1 (famR 111 3 1 1 (PV.int .i64) (g47.set (((mget a48 x53).getD 0).toNat) (x56 ++ [x51])))) :: (126, .arr 67 1 1 (List.map AV.p (List.map (encL (encL (PV.int .i64))) o39))) :: famL 111 3 1 1 (PV.int .i64) (g47.set (((mget a48 x53).getD 0).toNat) (x56 ++ [x51])) [])⟩ ?_
 refine zl (yn (zn (zr ?_)))
 refine zU (zl ?_)
 cases h
 exact ⟨rfl, zE⟩
 refine zi (zs (zr ?_))
 refine zU (zl (zn (zs (zr ?_))))
 refine zU (zl (zn (zr ?_)))
 obtain ⟨h59, h⟩ := ite_some h
 refine zW 3 ?_
 refine zM ⟨[(9, .own 44 1 0 c18.length), (15, .own 126 1 0 o39.length), (19, .mapo 83 1), (21, .p (.int .i64 x51)), (22, .p (.int .i64 ((g47.length : Nat) : Int))), (77, .p (.slc (List.map (encL (PV.int .i64)) r4.1.Classes))), (78, .p (.int .i64 (r4.1.Classes.length : Int))), (79, .p (.int .i64 t40)), (84, .p (.slc (List.map (PV.int .i64) x42))), (85, .p (.int .i64 (x42.length : Int))), (86, .p (.int .i64 t49)), (111, .own 111 1 0 (g47.length + 1))], ((44, .arr 3 1 1 (List.map AV.p (List.map (PV.int .i64) c18))) :: (83, .map 1 (List.map AV.p (encK (PV.int .i64) (mset a48 x53 ((g47.length : Nat) : Int)))) (List.map AV.p (encW (PV.int .i64) (mset a48 x53 ((g47.length : Nat) : Int))))) :: (111, .arr 41 1 1 (famR 111 3 1 1 (PV.int .i64) (g47 ++ [[]]))) :: (126, .arr 67 1 1 (List.map AV.p (List.map (encL (encL (PV.int .i64))) o39))) :: famL 111 3 1 1 (PV.int .i64) (g47 ++ [[]]) [])⟩ ?_
 refine zU (zl (zn (zr ?_)))
 obtain ⟨x60, h61, h61a, h61b, h⟩ := zX h
 have hx_1308C := h61b
 simp only [List.length_append, List.length_set, List.length_cons, List.length_nil, Nat.zero_add] at hx_1308C
 have h61N := nat_get h61
 obtain ⟨h62, h⟩ := ite_some h
 refine zW 11 ?_
 refine zM ⟨[(9, .own 44 1 0 c18.length), (15, .own 126 1 0 o39.length), (18, .own 111 1 0 (((g47 ++ [[]]).set (((g47.length : Nat) : Int).toNat) (x60 ++ [x51]))).length), (19, .mapo 83 1), (77, .p (.slc (List.map (encL (PV.int .i64)) r4.1.Classes))), (78, .p (.int .i64 (r4.1.Classes.length : Int))), (79, .p (.int .i64 t40)), (84, .p (.slc (List.map (PV.int .i64) x42))), (85, .p (.int .i64 (x42.length : Int))), (86, .p (.int .i64 t49))], ((44, .arr 3 1 1 (List.map AV.p (List.map (PV.int .i64) c18))) :: (83, .map 1 (List.map AV.p (encK (PV.int .i64) (mset a48 x53 ((g47.length : Nat) : Int)))) (List.map AV.p (encW (PV.int .i64) (mset a48 x53 ((g47.length : Nat) : Int))))) :: (111, .arr 41 1 1 (famR 111 3 1 1 (PV.int .i64) ((g47 ++ [[]]).set (((g47.length : Nat) : Int).toNat) (x60 ++ [x51])))) :: (126, .arr 67 1 1 (List.map AV.p (List.map (encL (encL (PV.int .i64))) o39))) :: famL 111 3 1 1 (PV.int .i64) ((g47 ++ [[]]).set (((g47.length : Nat) : Int).toNat) (x60 ++ [x51])) [])⟩ ?_
 refine zl (yn (zn (zr ?_)))
 refine zU (zl ?_)
 cases h
 exact ⟨rfl, zE⟩
 refine zj (zx (ze ?_))
 cases h
 exact ⟨rfl, zE⟩
 try simp only at h
 refine zA (yh (zn (zr ?_)))
 refine zW 3 ?_
 refine zM ⟨[(9, .own 44 1 0 c18.length), (77, .p (.slc (List.map (encL (PV.int .i64)) r4.1.Classes))), (78, .p (.int .i64 (r4.1.Classes.length : Int))), (79, .p (.int .i64 t40)), (123, .own 126 1 0 o39.length), (125, .own 125 1 0 1)], [(44, .arr 3 1 1 (List.map AV.p (List.map (PV.int .i64) c18))), (125, .arr 67 1 1 [.p (.slc (List.map (encL (PV.int .i64)) g44))]), (126, .arr 67 1 1 (List.map AV.p (List.map (encL (encL (PV.int .i64))) o39)))]⟩ ?_
 obtain ⟨h63, h⟩ := ite_some h
 refine zU (zl (yn (zn (zr ?_))))
 refine zU (zl ?_)
 cases h
 exact ⟨rfl, zE⟩
 refine zj (zx (ze ?_))
 cases h
 exact ⟨rfl, zE⟩
 try simp only at h
 refine zA (yh (zn (zs (zr ?_))))
 refine zU (zl (zn (zq ?_)))
 cases h
 exact zT Tryz.results27
end Go.Proofs.YtjcdclpfeflfkaaGreatDoor
set_option linter.unusedVariables false
set_option linter.unusedSimpArgs false
namespace Go.Proofs.YtjcdclpfeflfkaaGreatDoor
open Go Go.Ab
set_option maxHeartbeats 4000000 in
theorem approx_group_best_con {D : Prop} (g1 : List (List Int)) (r2 : Int) (h : approx_group_best g1 = some r2) : Con D Tryz.prog 28 [(.slc (List.map (encL (PV.int .i64)) g1))] (.int .i64 r2) := by
 refine zP Tryz.call28 Tryz.func28 rfl Tryz.ntmps28 fun X w hT => ?_
 simp only [approx_group_best] at h
 refine zs (zr ?_)
 refine zU (zl (zn (zs (zr ?_))))
 refine zU (zl (zn (zs (zs (zr ?_)))))
 refine zU (zl (zn (zb ?_)))
 obtain ⟨k3, h4, h⟩ := zB h
 refine zO (fun (s : Int × Int) => ⟨[(0, .p (.slc (List.map (encL (PV.int .i64)) g1))), (3, .p (.int .i64 s.1)), (6, .p (.slc (List.map (encL (PV.int .i64)) g1))), (7, .p (.int .i64 (g1.length : Int))), (8, .p (.int .i64 s.2))], []⟩) (fun (o5 : Int) => tE (cX Tryz.f28 X w D hT) (.exit 0) ⟨[(3, .p (.int .i64 o5))], []⟩) h4 ?_ ?_
 clear h h4
 intro s x h
 obtain ⟨k6, t7⟩ := s
 simp only [approx_group_best_l1] at h
 dsimp only
 refine zs (zr ?_)
 refine zU (zl (zn (zs ?_)))
 rcases zI h with ⟨h8, h⟩ | ⟨h8, h⟩
 refine zi (zk (zn (zs (zb (zs (zr ?_))))))
 obtain ⟨x9, h10, h10a, h10b, h⟩ := zX h
 refine zU (zl (zn (zs (zr ?_))))
 obtain ⟨x11, h12, h12a, h12b, h⟩ := zX h
 refine zU (zl (zn ?_))
 rcases zI h with ⟨h13, h⟩ | ⟨h13, h⟩
 refine zi (zr ?_)
 refine zU (zl (yn (zn (zr ?_))))
 refine zU (zl ?_)
 cases h
 exact ⟨rfl, zE⟩
 refine zj (zk (yn (zn (zr ?_))))
 refine zU (zl ?_)
 cases h
 exact ⟨rfl, zE⟩
 refine zj (zx (ze ?_))
 cases h
 exact ⟨rfl, zE⟩
 try simp only at h
 refine zA (yh (zn (zs (zr ?_))))
 refine zU (zl (zn (zq ?_)))
 cases h
 exact zT Tryz.results28
end Go.Proofs.YtjcdclpfeflfkaaGreatDoor
set_option linter.unusedVariables false
set_option linter.unusedSimpArgs false
namespace Go.Proofs.YtjcdclpfeflfkaaGreatDoor
open Go Go.Ab
set_option maxHeartbeats 4000000 in
theorem approx_Removal_con (t1 : Table) (f2 : FD) (r3 : List Int × Int) (h : approx_Removal t1 f2 = some r3) : Con False Tryz.prog 8 [(encTable t1), (encFD f2)] (.tup [(.slc (List.map (PV.int .i64) r3.1)), (.int .i64 r3.2)]) := by
 refine zP Tryz.call8 Tryz.func8 rfl Tryz.ntmps8 fun X w hT => ?_
 simp only [approx_Removal] at h
 refine zs (zr ?_)
 refine zU (zl (zn (zs (zs (zr ?_)))))
 refine zU ?_
 obtain ⟨r4, h5, h⟩ := zB h
 refine zc (approx_known_con t1 [f2] _ h5) ?_
 refine zU (zl (zn (zs (zr ?_))))
 refine zU (zl (zn ?_))
 rcases zI h with ⟨h6, h⟩ | ⟨h6, h⟩
 refine zi (zs (zr ?_))
 refine zU (zl (zn (zq (zt ?_))))
 cases h
 exact zT Tryz.results8
 refine zj (zk (zn (zs (zr ?_))))
 refine zU (zl (zn (zs (zs (zr ?_)))))
 refine zU ?_
 obtain ⟨r7, h8, h⟩ := zB h
 refine zc (approx_groups_con t1 f2 _ h8) ?_
 refine zU (zl (zn (zb ?_)))
 obtain ⟨o9, h10, h⟩ := zB h
 refine zO (fun (s : List Int × Int) => ⟨[(2, .loc 2 1 0 0), (7, .own 56 1 0 s.1.length), (24, .p (.slc (List.map (encL (encL (PV.int .i64))) r7))), (25, .p (.int .i64 (r7.length : Int))), (26, .p (.int .i64 s.2))], [(2, .arr 25 3 1 [.p (encTable t1)]), (56, .arr 2 1 1 (List.map AV.p (List.map (PV.int .i64) s.1)))]⟩) (fun (o11 : List Int) => tE (cX Tryz.f8 X w False hT) (.exit 0) ⟨[(7, .own 56 1 0 o11.length)], [(56, .arr 2 1 1 (List.map AV.p (List.map (PV.int .i64) o11)))]⟩) h10 ?_ ?_
 clear h h5 h6 h8 h10
 intro s x h
 obtain ⟨o12, t13⟩ := s
 simp only [approx_Removal_l13] at h
 dsimp only
 refine zs (zr ?_)
 refine zU (zl (zn (zs ?_)))
 rcases zI h with ⟨h14, h⟩ | ⟨h14, h⟩
 refine zi (zk (zn (zs (zb (zs (zr ?_))))))
 obtain ⟨x15, h16, h16a, h16b, h⟩ := zX h
 refine zU (zl (zn (zs (zr ?_))))
 refine zU ?_
 obtain ⟨r17, h18, h⟩ := zB h
 refine zc (approx_group_best_con x15 _ h18) ?_
 refine zU (zl (zn (zs (zr ?_))))
 refine zU (zl (zn (zb ?_)))
 obtain ⟨o19, h20, h⟩ := zB h
 refine zO (fun (s : List Int × Int) => ⟨[(2, .loc 2 1 0 0), (7, .own 56 1 0 s.1.length), (10, .p (.int .i64 r17)), (24, .p (.slc (List.map (encL (encL (PV.int .i64))) r7))), (25, .p (.int .i64 (r7.length : Int))), (26, .p (.int .i64 t13)), (32, .p (.slc (List.map (encL (PV.int .i64)) x15))), (33, .p (.int .i64 (x15.length : Int))), (34, .p (.int .i64 s.2))], [(2, .arr 25 3 1 [.p (encTable t1)]), (56, .arr 2 1 1 (List.map AV.p (List.map (PV.int .i64) s.1)))]⟩) (fun (o21 : List Int) => tE (cX Tryz.f8 X w False hT) (.exit 2) ⟨[(2, .loc 2 1 0 0), (7, .own 56 1 0 o21.length), (24, .p (.slc (List.map (encL (encL (PV.int .i64))) r7))), (25, .p (.int .i64 (r7.length : Int))), (26, .p (.int .i64 t13))], [(2, .arr 25 3 1 [.p (encTable t1)]), (56, .arr 2 1 1 (List.map AV.p (List.map (PV.int .i64) o21)))]⟩) h20 ?_ ?_
 clear h h14 h16 h16a h16b h18 h20
 intro s x h
 obtain ⟨o22, t23⟩ := s
 simp only [approx_Removal_l12] at h
 dsimp only
 refine zs (zr ?_)
 refine zU (zl (zn (zs ?_)))
 rcases zI h with ⟨h24, h⟩ | ⟨h24, h⟩
 refine zi (zk (zn (zs (zb (zs (zr ?_))))))
 obtain ⟨x25, h26, h26a, h26b, h⟩ := zX h
 refine zU (zl (zn (zs (zr ?_))))
 refine zU (zl (zn (zb ?_)))
 obtain ⟨o27, h28, h⟩ := zB h
 refine zO (fun (s : List Int × Int) => ⟨[(2, .loc 2 1 0 0), (7, .own 56 1 0 s.1.length), (10, .p (.int .i64 r17)), (11, .p (.int .i64 t23)), (24, .p (.slc (List.map (encL (encL (PV.int .i64))) r7))), (25, .p (.int .i64 (r7.length : Int))), (26, .p (.int .i64 t13)), (32, .p (.slc (List.map (encL (PV.int .i64)) x15))), (33, .p (.int .i64 (x15.length : Int))), (34, .p (.int .i64 t23)), (39, .p (.slc (List.map (PV.int .i64) x25))), (40, .p (.int .i64 (x25.length : Int))), (41, .p (.int .i64 s.2))], [(2, .arr 25 3 1 [.p (encTable t1)]), (56, .arr 2 1 1 (List.map AV.p (List.map (PV.int .i64) s.1)))]⟩) (fun (o29 : List Int) => tE (cX Tryz.f8 X w False hT) (.exit 4) ⟨[(2, .loc 2 1 0 0), (7, .own 56 1 0 o29.length), (10, .p (.int .i64 r17)), (24, .p (.slc (List.map (encL (encL (PV.int .i64))) r7))), (25, .p (.int .i64 (r7.length : Int))), (26, .p (.int .i64 t13)), (32, .p (.slc (List.map (encL (PV.int .i64)) x15))), (33, .p (.int .i64 (x15.length : Int))), (34, .p (.int .i64 t23))], [(2, .arr 25 3 1 [.p (encTable t1)]), (56, .arr 2 1 1 (List.map AV.p (List.map (PV.int .i64) o29)))]⟩) h28 ?_ ?_
 clear h h24 h26 h26a h26b h28
 intro s x h
 obtain ⟨o30, t31⟩ := s
 simp only [approx_Removal_l11] at h
 dsimp only
 refine zs (zr ?_)
 refine zU (zl (zn (zs ?_)))
 rcases zI h with ⟨h32, h⟩ | ⟨h32, h⟩
 refine zi (zk (zn (zs (zb (zs (zr ?_))))))
 obtain ⟨x33, h34, h34a, h34b, h⟩ := zX h
 refine zU (zl (zn (zs (zr ?_))))
 refine zU (zl (zn ?_))
 rcases zI h with ⟨h35, h⟩ | ⟨h35, h⟩
 refine zi (zr ?_)
 obtain ⟨x36, h37, h37a, h37b, h⟩ := zX h
 obtain ⟨h38, h⟩ := ite_some h
 refine zU (zl (yn (zn (zr ?_))))
 refine zU (zl ?_)
 cases h
 exact ⟨rfl, zE⟩
 refine zj (zk (yn (zn (zr ?_))))
 refine zU (zl ?_)
 cases h
 exact ⟨rfl, zE⟩
 refine zj (zx (ze ?_))
 cases h
 exact ⟨rfl, zE⟩
 try simp only at h
 refine zA (yh (yn (zn (zr ?_))))
 refine zU (zl ?_)
 cases h
 exact ⟨rfl, zE⟩
 refine zj (zx (ze ?_))
 cases h
 exact ⟨rfl, zE⟩
 try simp only at h
 refine zA (yh (yn (zn (zr ?_))))
 refine zU (zl ?_)
 cases h
 exact ⟨rfl, zE⟩
 refine zj (zx (ze ?_))
 cases h
 exact ⟨rfl, zE⟩
 try simp only at h
 refine zA (yh (zn (zs (zr ?_))))
 refine zU ?_
 refine zM ⟨[(7, .own 56 1 0 o9.length), (60, .own 56 1 0 o9.length)], [(56, .arr 2 1 1 (List.map AV.p (List.map (PV.int .i64) o9)))]⟩ ?_
 obtain ⟨l39, h40, h⟩ := zB h
 refine zSI srt29 h40 ?_
 have h41 := srtIF_len h40
 refine zM ⟨[(7, .own 56 1 0 l39.length), (61, .p (.tup []))], [(56, .arr 2 1 1 (List.map AV.p (List.map (PV.int .i64) l39)))]⟩ ?_
 clear h41
 refine zl (zn (zs (zr ?_)))
 refine zU (zl (zn (zq ?_)))
 cases h
 exact zT Tryz.results8
end Go.Proofs.YtjcdclpfeflfkaaGreatDoor
set_option linter.unusedVariables false
set_option linter.unusedSimpArgs false
namespace Go.Proofs.YtjcdclpfeflfkaaGreatDoor
open Go Go.Ab
set_option maxHeartbeats 4000000 in
theorem drossref03_IDs_con {D : Prop} (a1 : List Int) (b2 : List Int) (r3 : Bool) (h : drossref03_IDs a1 b2 = some r3) : Con D Tryz.prog 12 [(.slc (List.map (PV.int .i64) a1)), (.slc (List.map (PV.int .i64) b2))] (.bool r3) := by
 refine zP Tryz.call12 Tryz.func12 rfl Tryz.ntmps12 fun X w hT => ?_
 simp only [drossref03_IDs] at h
 refine zs (zr ?_)
 refine zU (zl (zn (zs (zs (zr ?_)))))
 refine zU (zl (zn ?_))
 rcases zI h with ⟨h4, h⟩ | ⟨h4, h⟩
 refine zi (zs (zr ?_))
 refine zU (zl (zn (zq (zt ?_))))
 cases h
 exact zT Tryz.results12
 refine zj (zk (zn (zs (zs (zr ?_)))))
 refine zU (zl (zn (zb ?_)))
 obtain ⟨o5, h6, h⟩ := zB h
 refine zO (fun (s : Int) => ⟨[(0, .p (.slc (List.map (PV.int .i64) a1))), (1, .p (.slc (List.map (PV.int .i64) b2))), (5, .p (.int .i64 s))], []⟩) (fun (o : (Unit) ⊕ (Bool)) => match o with | .inl o7 => tE (cX Tryz.f12 X w D hT) (.exit 0) ⟨[], []⟩ | .inr o8 => tR Tryz.prog Tryz.f12 (.bool o8)) h6 ?_ ?_
 clear h h4 h6
 intro i9 x h
 simp only [drossref03_IDs_l1] at h
 refine zs (zs (zr ?_))
 refine zU (zl (zn ?_))
 rcases zI h with ⟨h10, h⟩ | ⟨h10, h⟩
 refine zi (zk (zn (zs (zb (zs (zd ?_))))))
 obtain ⟨x11, h12, h12a, h12b, h⟩ := zX h
 obtain ⟨x13, h14, h14a, h14b, h⟩ := zX h
 refine yU ?_
 refine yd (zn ?_)
 rcases zI h with ⟨h15, h⟩ | ⟨h15, h⟩
 refine zi (zs (zr ?_))
 refine zU (zl (zn (zq (yr (zt ?_)))))
 cases h
 exact ⟨rfl, zT Tryz.results12⟩
 refine zj (zk (yn (zn (zr ?_))))
 refine zU (zl ?_)
 cases h
 exact ⟨rfl, zE⟩
 refine zj (zx (ze ?_))
 cases h
 exact ⟨rfl, zE⟩
 rcases o5 with ⟨⟩ | r16
 try simp only at h
 refine zA (yh (zn (zs (zr ?_))))
 refine zU (zl (zn (zq ?_)))
 cases h
 exact zT Tryz.results12
 try simp only at h
 refine zZ fun s hq => ?_
 refine yr (zt ?_)
 cases h
 exact hq
end Go.Proofs.YtjcdclpfeflfkaaGreatDoor
set_option linter.unusedVariables false
set_option linter.unusedSimpArgs false
namespace Go.Proofs.YtjcdclpfeflfkaaGreatDoor
open Go Go.Ab
set_option maxHeartbeats 4000000 in
theorem drossref04_size_con {D : Prop} (n1 : Int) (r2 : Drossref04_Wide) (h : drossref04_size n1 = some r2) : Con D Tryz.prog 83 [(.int .i64 n1)] (encDrossref04_Wide r2) := by
 refine zP Tryz.call83 Tryz.func83 rfl Tryz.ntmps83 fun X w hT => ?_
 simp only [drossref04_size] at h
 refine zs (zr ?_)
 refine zU (zl (zn (zs (zs (zr ?_)))))
 refine zU (zl (zn ?_))
 rcases zI h with ⟨h3, h⟩ | ⟨h3, h⟩
 refine zi (zs (zr ?_))
 refine zU (zl (zn (zq (zt ?_))))
 cases h
 exact zT Tryz.results83
 refine zj (zk (zn (zs (zr ?_))))
 refine zU (zl (zn (zq ?_)))
 cases h
 exact zT Tryz.results83
end Go.Proofs.YtjcdclpfeflfkaaGreatDoor
set_option linter.unusedVariables false
set_option linter.unusedSimpArgs false
namespace Go.Proofs.YtjcdclpfeflfkaaGreatDoor
open Go Go.Ab
set_option maxRecDepth 20000 in
set_option maxHeartbeats 4000000 in
theorem drossref04_less_con {D : Prop} (a1 : Drossref04_Wide) (b2 : Drossref04_Wide) (r3 : Bool) (h : drossref04_less a1 b2 = some r3) : Con D Tryz.prog 84 [(encDrossref04_Wide a1), (encDrossref04_Wide b2)] (.bool r3) := by
 refine zP Tryz.call84 Tryz.func84 rfl Tryz.ntmps84 fun X w hT => ?_
 simp only [drossref04_less] at h
 refine zs (zr ?_)
 refine zU (zl (zn (zs (zr ?_))))
 refine zU ?_
 rcases zI h with ⟨h4, h⟩ | ⟨h4, h⟩
 refine zw 10 true ?_
 refine zh ?_
 refine zU (zl (zn (zq ?_)))
 cases h
 exact zT Tryz.results84
 refine zw 10 false ?_
 refine zg ?_
 refine zg ?_
 refine zg ?_
 refine zg ?_
 refine zg ?_
 refine zg ?_
 rcases zI h with ⟨h5, h⟩ | ⟨h5, h⟩
 replace h := h.symm
 refine zw 16 true ?_
 refine zg ?_
 refine zg ?_
 refine zg ?_
 refine zg ?_
 refine zg ?_
 refine zg ?_
 refine zU (zl (zn (zq ?_)))
 cases h
 exact zT Tryz.results84
 replace h := h.symm
 refine zw 16 false ?_
 refine zh ?_
 refine zg ?_
 refine zU (zl (zn (zq ?_)))
 cases h
 exact zT Tryz.results84
end Go.Proofs.YtjcdclpfeflfkaaGreatDoor
set_option linter.unusedVariables false
set_option linter.unusedSimpArgs false
namespace Go.Proofs.YtjcdclpfeflfkaaGreatDoor
open Go Go.Ab
set_option maxHeartbeats 4000000 in
theorem drossref04_zero_con {D : Prop} (a1 : Drossref04_Wide) (r2 : Bool) (h : drossref04_zero a1 = some r2) : Con D Tryz.prog 133 [(encDrossref04_Wide a1)] (.bool r2) := by
 refine zP Tryz.call133 Tryz.func133 rfl Tryz.ntmps133 fun X w hT => ?_
 simp only [drossref04_zero] at h
 refine zs (zr ?_)
 refine zU (zl (zn (zs (zr ?_))))
 refine zU ?_
 rcases zI h with ⟨h3, h⟩ | ⟨h3, h⟩
 replace h := h.symm
 refine zw 6 true ?_
 refine zg ?_
 refine zg ?_
 refine zg ?_
 refine zU (zl (zn (zq ?_)))
 cases h
 exact zT Tryz.results133
 refine zw 6 false ?_
 refine zh ?_
 refine zU (zl (zn (zq ?_)))
 cases h
 exact zT Tryz.results133
end Go.Proofs.YtjcdclpfeflfkaaGreatDoor
namespace Go.Proofs.YtjcdclpfeflfkaaGreatDoor
open Go Go.Ab
theorem ext178 (x y c : Nat) (hc : c ≤ 1) (w : World) : (callFunc 178 #[.int .u64 x, .int .u64 y, .int .u64 c]).run Tryz.prog w = .ok (.value (.tuple #[.int .u64 (((x + y + c) % 18446744073709551616 : Nat) : Int), .int .u64 (((x + y + c) / 18446744073709551616 : Nat) : Int)])) w := by
  rw [run_callFunc_extern Tryz.func178 (by kernel_rfl) (by kernel_rfl) (by kernel_rfl) (e := add64Entry) (by kernel_rfl), run_add64 x y c (by omega) (by omega) (by omega) (by omega)]
  simp only [Result.andThen]
  congr 5 <;> omega
theorem ext179 (x y b : Nat) (hb : b ≤ 1) (w : World) : (callFunc 179 #[.int .u64 x, .int .u64 y, .int .u64 b]).run Tryz.prog w = .ok (.value (.tuple #[.int .u64 (((x + 18446744073709551616 - y - b) % 18446744073709551616 : Nat) : Int), .int .u64 ((if x < y + b then 1 else 0 : Nat) : Int)])) w := by
  rw [run_callFunc_extern Tryz.func179 (by kernel_rfl) (by kernel_rfl) (by kernel_rfl) (e := sub64Entry) (by kernel_rfl), run_sub64 x y b hb]
  rfl
end Go.Proofs.YtjcdclpfeflfkaaGreatDoor
set_option linter.unusedVariables false
set_option linter.unusedSimpArgs false
namespace Go.Proofs.YtjcdclpfeflfkaaGreatDoor
open Go Go.Ab
set_option maxHeartbeats 4000000 in
theorem drossref04_plus_con {D : Prop} (a1 : Drossref04_Wide) (b2 : Drossref04_Wide) (r3 : Drossref04_Wide) (h : drossref04_plus a1 b2 = some r3) : Con D Tryz.prog 157 [(encDrossref04_Wide a1), (encDrossref04_Wide b2)] (encDrossref04_Wide r3) := by
 refine zP Tryz.call157 Tryz.func157 rfl Tryz.ntmps157 fun X w hT => ?_
 simp only [drossref04_plus] at h
 refine zs (zr ?_)
 refine zU (zl (zn (zs (zr ?_))))
 refine zU ?_
 obtain ⟨r4, h5, h⟩ := zB h
 refine zE3 (add_run ext178 h5) ?_
 refine zU (zl (zn (zs (zr ?_))))
 refine zU ?_
 obtain ⟨r6, h7, h⟩ := zB h
 refine zE3 (add_run ext178 h7) ?_
 refine zU (zl (zn (zs (zr ?_))))
 refine zU (zl (zn (zq ?_)))
 cases h
 exact zT Tryz.results157
end Go.Proofs.YtjcdclpfeflfkaaGreatDoor
set_option linter.unusedVariables false
set_option linter.unusedSimpArgs false
namespace Go.Proofs.YtjcdclpfeflfkaaGreatDoor
open Go Go.Ab
set_option maxHeartbeats 4000000 in
theorem drossref04_minus_con {D : Prop} (a1 : Drossref04_Wide) (b2 : Drossref04_Wide) (r3 : Drossref04_Wide) (h : drossref04_minus a1 b2 = some r3) : Con D Tryz.prog 158 [(encDrossref04_Wide a1), (encDrossref04_Wide b2)] (encDrossref04_Wide r3) := by
 refine zP Tryz.call158 Tryz.func158 rfl Tryz.ntmps158 fun X w hT => ?_
 simp only [drossref04_minus] at h
 refine zs (zr ?_)
 refine zU (zl (zn (zs (zr ?_))))
 refine zU ?_
 obtain ⟨r4, h5, h⟩ := zB h
 refine zE3 (sub_run ext179 h5) ?_
 refine zU (zl (zn (zs (zr ?_))))
 refine zU ?_
 obtain ⟨r6, h7, h⟩ := zB h
 refine zE3 (sub_run ext179 h7) ?_
 refine zU (zl (zn (zs (zr ?_))))
 refine zU (zl (zn (zq ?_)))
 cases h
 exact zT Tryz.results158
end Go.Proofs.YtjcdclpfeflfkaaGreatDoor
set_option linter.unusedVariables false
set_option linter.unusedSimpArgs false
namespace Go.Proofs.YtjcdclpfeflfkaaGreatDoor
open Go Go.Ab
set_option maxRecDepth 20000 in
set_option maxHeartbeats 4000000 in
theorem drossref04_parts_con {D : Prop} (a1 : Drossref04_Wide) (b2 : Drossref04_Wide) (r3 : Drossref04_Wide × Drossref04_Wide) (h : drossref04_parts a1 b2 = some r3) : Con D Tryz.prog 134 [(encDrossref04_Wide a1), (encDrossref04_Wide b2)] (.tup [(encDrossref04_Wide r3.1), (encDrossref04_Wide r3.2)]) := by
 refine zP Tryz.call134 Tryz.func134 rfl Tryz.ntmps134 fun X w hT => ?_
 simp only [drossref04_parts] at h
 refine zs (zr ?_)
 refine zU (zl (zn (zs (zr ?_))))
 refine zU (zl (zn (zs (zs (zr ?_)))))
 refine zU (zl (zn (zb ?_)))
 obtain ⟨o4, h5, h⟩ := zB h
 refine zO (fun (s : Drossref04_Wide × Drossref04_Wide × Int) => ⟨[(2, .loc 2 1 0 0), (3, .loc 3 1 0 0), (4, .loc 4 1 0 0), (5, .loc 5 1 0 0), (6, .loc 6 1 0 0), (7, .loc 7 1 0 0), (8, .p (.int .i64 s.2.2))], [(2, .arr 129 2 1 [.p (encDrossref04_Wide a1)]), (3, .arr 129 2 1 [.p (encDrossref04_Wide b2)]), (4, .arr 129 2 1 [.p (.agg [.int .u64 0, .int .u64 0])]), (5, .arr 129 2 1 [.p (.agg [.int .u64 0, .int .u64 0])]), (6, .arr 129 2 1 [.p (encDrossref04_Wide s.1)]), (7, .arr 129 2 1 [.p (encDrossref04_Wide s.2.1)])]⟩) (fun (o6 : Drossref04_Wide × Drossref04_Wide) => tE (cX Tryz.f134 X w D hT) (.exit 0) ⟨[(4, .loc 4 1 0 0), (5, .loc 5 1 0 0), (6, .loc 6 1 0 0), (7, .loc 7 1 0 0)], [(4, .arr 129 2 1 [.p (.agg [.int .u64 0, .int .u64 0])]), (5, .arr 129 2 1 [.p (.agg [.int .u64 0, .int .u64 0])]), (6, .arr 129 2 1 [.p (encDrossref04_Wide o6.1)]), (7, .arr 129 2 1 [.p (encDrossref04_Wide o6.2)])]⟩) h5 ?_ ?_
 clear h h5
 intro s x h
 obtain ⟨q7, r8, i9⟩ := s
 simp only [drossref04_parts_l1] at h
 dsimp only
 refine zs (zs (zr ?_))
 refine zU (zl (zn ?_))
 rcases zI h with ⟨h10, h⟩ | ⟨h10, h⟩
 refine zi (zk (zn (zs (zb (zs (zr ?_))))))
 refine zU (zl (zn (zs (zs (zr ?_)))))
 refine zU (zl (zn ?_))
 rcases zI h with ⟨h11, h⟩ | ⟨h11, h⟩
 refine zi (zr ?_)
 refine zU (zl (zn (zs (zr ?_))))
 refine zU ?_
 obtain ⟨r12, h13, h⟩ := zB h
 refine zc (drossref04_plus_con r8 r8 _ h13) ?_
 refine zU (zl (zn (zs (zd ?_))))
 obtain ⟨h14, h⟩ := ite_none h
 refine yU ?_
 refine yd (zn (zs (zr ?_)))
 refine zU ?_
 obtain ⟨r15, h16, h⟩ := zB h
 refine zc (drossref04_plus_con q7 q7 _ h16) ?_
 refine zU (zl (zn (zs (zr ?_))))
 refine zU ?_
 obtain ⟨r17, h18, h⟩ := zB h
 refine zc (drossref04_less_con (Drossref04_Wide.mk r12.Hi (IntKind.u64.wrap (r12.Lo + (Int.tmod (Int.fdiv a1.Hi (2 ^ (min ((Int.tmod i9 64)).toNat 64))) 2)))) b2 _ h18) ?_
 refine zU (zl (zn ?_))
 rcases zI h with ⟨h19, h⟩ | ⟨h19, h⟩
 refine zj (zk (yn (zn (zr ?_))))
 refine zU (zl ?_)
 cases h
 exact ⟨rfl, zE⟩
 refine zi (zs (zr ?_))
 refine zU ?_
 obtain ⟨r20, h21, h⟩ := zB h
 refine zc (drossref04_minus_con (Drossref04_Wide.mk r12.Hi (IntKind.u64.wrap (r12.Lo + (Int.tmod (Int.fdiv a1.Hi (2 ^ (min ((Int.tmod i9 64)).toNat 64))) 2)))) b2 _ h21) ?_
 refine zU (zl (zn (zr ?_)))
 refine zU (zl (yn (zn (zr ?_))))
 refine zU (zl ?_)
 cases h
 exact ⟨rfl, zE⟩
 refine zj (zk (zn (zs (zr ?_))))
 refine zU ?_
 obtain ⟨r22, h23, h⟩ := zB h
 refine zc (drossref04_plus_con r8 r8 _ h23) ?_
 refine zU (zl (zn (zs (zd ?_))))
 obtain ⟨h24, h⟩ := ite_none h
 refine yU ?_
 refine yd (zn (zs (zr ?_)))
 refine zU ?_
 obtain ⟨r25, h26, h⟩ := zB h
 refine zc (drossref04_plus_con q7 q7 _ h26) ?_
 refine zU (zl (zn (zs (zr ?_))))
 refine zU ?_
 obtain ⟨r27, h28, h⟩ := zB h
 refine zc (drossref04_less_con (Drossref04_Wide.mk r22.Hi (IntKind.u64.wrap (r22.Lo + (Int.tmod (Int.fdiv a1.Lo (2 ^ (min ((Int.tmod i9 64)).toNat 64))) 2)))) b2 _ h28) ?_
 refine zU (zl (zn ?_))
 rcases zI h with ⟨h29, h⟩ | ⟨h29, h⟩
 refine zj (zk (yn (zn (zr ?_))))
 refine zU (zl ?_)
 cases h
 exact ⟨rfl, zE⟩
 refine zi (zs (zr ?_))
 refine zU ?_
 obtain ⟨r30, h31, h⟩ := zB h
 refine zc (drossref04_minus_con (Drossref04_Wide.mk r22.Hi (IntKind.u64.wrap (r22.Lo + (Int.tmod (Int.fdiv a1.Lo (2 ^ (min ((Int.tmod i9 64)).toNat 64))) 2)))) b2 _ h31) ?_
 refine zU (zl (zn (zr ?_)))
 refine zU (zl (yn (zn (zr ?_))))
 refine zU (zl ?_)
 cases h
 exact ⟨rfl, zE⟩
 refine zj (zx (ze ?_))
 cases h
 exact ⟨rfl, zE⟩
 obtain ⟨q32, r33⟩ := o4
 try simp only at h
 refine zA (yh (zn (zs (zd ?_))))
 refine yU ?_
 refine yd (zn (zq ?_))
 cases h
 exact zT Tryz.results134
end Go.Proofs.YtjcdclpfeflfkaaGreatDoor
set_option linter.unusedVariables false
set_option linter.unusedSimpArgs false
namespace Go.Proofs.YtjcdclpfeflfkaaGreatDoor
open Go Go.Ab
set_option maxHeartbeats 4000000 in
theorem drossref04_build_con {D : Prop} (n1 : Bool) (n2 : Drossref04_Wide) (d3 : Drossref04_Wide) (r4 : Ratio × Int) (h : drossref04_build n1 n2 d3 = some r4) : Con D Tryz.prog 94 [(.bool n1), (encDrossref04_Wide n2), (encDrossref04_Wide d3)] (.tup [(encRatio r4.1), (.int .i64 r4.2)]) := by
 refine zP Tryz.call94 Tryz.func94 rfl Tryz.ntmps94 fun X w hT => ?_
 simp only [drossref04_build] at h
 refine zs (zr ?_)
 refine zU (zl (zn (zs (zd ?_))))
 refine yU ?_
 refine yd (zn (zs (zb ?_)))
 obtain ⟨x5, h6, h⟩ := zB h
 refine zO (fun (s : Drossref04_Wide × Drossref04_Wide) => ⟨[(0, .p (.bool n1)), (4, .loc 4 1 0 0), (5, .loc 5 1 0 0), (6, .loc 6 1 0 0), (8, .loc 8 1 0 0), (9, .loc 9 1 0 0)], [(4, .arr 129 2 1 [.p (encDrossref04_Wide n2)]), (5, .arr 129 2 1 [.p (encDrossref04_Wide d3)]), (6, .arr 47 2 1 [.p (.agg [.int .i64 0, .int .i64 0])]), (8, .arr 129 2 1 [.p (encDrossref04_Wide s.1)]), (9, .arr 129 2 1 [.p (encDrossref04_Wide s.2)])]⟩) (fun (o7 : Drossref04_Wide) => tE (cX Tryz.f94 X w D hT) (.exit 0) ⟨[(0, .p (.bool n1)), (4, .loc 4 1 0 0), (5, .loc 5 1 0 0), (6, .loc 6 1 0 0), (8, .loc 8 1 0 0)], [(4, .arr 129 2 1 [.p (encDrossref04_Wide n2)]), (5, .arr 129 2 1 [.p (encDrossref04_Wide d3)]), (6, .arr 47 2 1 [.p (.agg [.int .i64 0, .int .i64 0])]), (8, .arr 129 2 1 [.p (encDrossref04_Wide o7)])]⟩) h6 ?_ ?_
 clear h h6
 intro s x h
 obtain ⟨x8, y9⟩ := s
 simp only [drossref04_build_l1] at h
 dsimp only
 refine zs (zs (zr ?_))
 refine zU ?_
 obtain ⟨r10, h11, h⟩ := zB h
 refine zc (drossref04_zero_con y9 _ h11) ?_
 refine zU (zl (zn ?_))
 rcases zI h with ⟨h12, h⟩ | ⟨h12, h⟩
 refine zj (zx (ze ?_))
 cases h
 exact ⟨rfl, zE⟩
 refine zi (zk (zn (zb (zs (zr ?_)))))
 refine zU ?_
 obtain ⟨r13, h14, h⟩ := zB h
 refine zc (drossref04_parts_con x8 y9 _ h14) ?_
 refine zU (zl (zn (zd ?_)))
 refine yU ?_
 refine yd (yn ?_)
 cases h
 exact ⟨rfl, zE⟩
 try simp only at h
 refine zA (yh (zn (zs (zr ?_))))
 refine zU ?_
 obtain ⟨r15, h16, h⟩ := zB h
 refine zc (drossref04_parts_con n2 x5 _ h16) ?_
 refine zU (zl (zn (zs (zr ?_))))
 refine zU ?_
 obtain ⟨r17, h18, h⟩ := zB h
 refine zc (drossref04_parts_con d3 x5 _ h18) ?_
 refine zU (zl (zn (zs (zr ?_))))
 refine zU (zl (zn (zs (zs (zr ?_)))))
 refine zU ?_
 obtain ⟨r19, h20, h⟩ := zB h
 refine zc (drossref04_less_con (Drossref04_Wide.mk 0 9223372036854775807) r15.1 _ h20) ?_
 refine zU ?_
 rcases zI h with ⟨h21, h⟩ | ⟨h21, h⟩
 refine zw 43 true ?_
 refine zh ?_
 refine zU (zl (zn ?_))
 refine zi (zs (zr ?_))
 refine zU (zl (zn (zq (zt ?_))))
 cases h
 exact zT Tryz.results94
 refine zw 43 false ?_
 refine zg ?_
 refine zg ?_
 obtain ⟨r22, h23, h⟩ := zB h
 refine zc (drossref04_less_con (Drossref04_Wide.mk 0 9223372036854775807) r17.1 _ h23) ?_
 refine zU (zl (zn ?_))
 rcases zI h with ⟨h24, h⟩ | ⟨h24, h⟩
 refine zi (zs (zr ?_))
 refine zU (zl (zn (zq (zt ?_))))
 cases h
 exact zT Tryz.results94
 refine zj (zk (zn (zs (zr ?_))))
 refine zU (zl (zn (zs (zs (zr ?_)))))
 refine zU (zl (zn ?_))
 rcases zI h with ⟨h25, h⟩ | ⟨h25, h⟩
 refine zi (zr ?_)
 refine zU (zl (zn (zs (zr ?_))))
 refine zU (zl (zn (zq ?_)))
 cases h
 exact zT Tryz.results94
 refine zj (zk (zn (zs (zr ?_))))
 refine zU (zl (zn (zq ?_)))
 cases h
 exact zT Tryz.results94
end Go.Proofs.YtjcdclpfeflfkaaGreatDoor
set_option linter.unusedVariables false
set_option linter.unusedSimpArgs false
namespace Go.Proofs.YtjcdclpfeflfkaaGreatDoor
open Go Go.Ab
set_option maxHeartbeats 4000000 in
theorem drossref04_Make_con {D : Prop} (n1 : Int) (d2 : Int) (r3 : Ratio × Int) (h : drossref04_Make n1 d2 = some r3) : Con D Tryz.prog 56 [(.int .i64 n1), (.int .i64 d2)] (.tup [(encRatio r3.1), (.int .i64 r3.2)]) := by
 refine zP Tryz.call56 Tryz.func56 rfl Tryz.ntmps56 fun X w hT => ?_
 simp only [drossref04_Make] at h
 refine zs (zr ?_)
 refine zU (zl (zn (zs (zs (zr ?_)))))
 refine zU (zl (zn ?_))
 rcases zI h with ⟨h4, h⟩ | ⟨h4, h⟩
 refine zi (zs (zr ?_))
 refine zU (zl (zn (zq (zt ?_))))
 cases h
 exact zT Tryz.results56
 refine zj (zk (zn (zs (zr ?_))))
 refine zU ?_
 obtain ⟨r5, h6, h⟩ := zB h
 refine zc (drossref04_size_con n1 _ h6) ?_
 refine zU ?_
 obtain ⟨r7, h8, h⟩ := zB h
 refine zc (drossref04_size_con d2 _ h8) ?_
 obtain ⟨r9, h10, h⟩ := zB h
 refine zc (drossref04_build_con (!((decide (n1 < 0)) == (decide (d2 < 0)))) r5 r7 _ h10) ?_
 refine zU (zl (zn (zq ?_)))
 cases h
 exact zT Tryz.results56
end Go.Proofs.YtjcdclpfeflfkaaGreatDoor
set_option linter.unusedVariables false
set_option linter.unusedSimpArgs false
namespace Go.Proofs.YtjcdclpfeflfkaaGreatDoor
open Go Go.Ab
set_option maxHeartbeats 4000000 in
theorem drossref04_Of_con {D : Prop} (n1 : Int) (d2 : Int) (r3 : Ratio) (h : drossref04_Of n1 d2 = some r3) : Con D Tryz.prog 22 [(.int .i64 n1), (.int .i64 d2)] (encRatio r3) := by
 refine zP Tryz.call22 Tryz.func22 rfl Tryz.ntmps22 fun X w hT => ?_
 simp only [drossref04_Of] at h
 refine zs (zr ?_)
 refine zU (zl (zn (zs (zr ?_))))
 refine zU ?_
 obtain ⟨r4, h5, h⟩ := zB h
 refine zc (drossref04_Make_con n1 d2 _ h5) ?_
 refine zU (zl (zn (zs (zs (zr ?_)))))
 refine zU (zl (zn ?_))
 rcases zI h with ⟨h6, h⟩ | ⟨h6, h⟩
 refine zi (zs (zr ?_))
 refine zU (zl (zn (zq (zt ?_))))
 cases h
 exact zT Tryz.results22
 refine zj (zk (zn (zs (zr ?_))))
 refine zU (zl (zn (zq ?_)))
 cases h
 exact zT Tryz.results22
end Go.Proofs.YtjcdclpfeflfkaaGreatDoor
set_option linter.unusedVariables false
set_option linter.unusedSimpArgs false
namespace Go.Proofs.YtjcdclpfeflfkaaGreatDoor
open Go Go.Ab
set_option maxHeartbeats 4000000 in
theorem approx_measures_con {D : Prop} (m1 : Int) (r2 : Bool) (h : approx_measures m1 = some r2) : Con D Tryz.prog 38 [(.int .i64 m1)] (.bool r2) := by
 refine zP Tryz.call38 Tryz.func38 rfl Tryz.ntmps38 fun X w hT => ?_
 simp only [approx_measures] at h
 refine zs (zr ?_)
 refine zU (zl (zn (zs (zr ?_))))
 refine zU ?_
 rcases zI h with ⟨h3, h⟩ | ⟨h3, h⟩
 replace h := h.symm
 refine zw 5 true ?_
 refine zg ?_
 refine zg ?_
 refine zU (zl (zn (zq ?_)))
 cases h
 exact zT Tryz.results38
 refine zw 5 false ?_
 refine zh ?_
 refine zU (zl (zn (zq ?_)))
 cases h
 exact zT Tryz.results38
end Go.Proofs.YtjcdclpfeflfkaaGreatDoor
set_option linter.unusedVariables false
set_option linter.unusedSimpArgs false
namespace Go.Proofs.YtjcdclpfeflfkaaGreatDoor
open Go Go.Ab
set_option maxHeartbeats 4000000 in
theorem approx_group_size_con {D : Prop} (g1 : List (List Int)) (r2 : Int) (h : approx_group_size g1 = some r2) : Con D Tryz.prog 72 [(.slc (List.map (encL (PV.int .i64)) g1))] (.int .i64 r2) := by
 refine zP Tryz.call72 Tryz.func72 rfl Tryz.ntmps72 fun X w hT => ?_
 simp only [approx_group_size] at h
 refine zs (zr ?_)
 refine zU (zl (zn (zs (zr ?_))))
 refine zU (zl (zn (zs (zs (zr ?_)))))
 refine zU (zl (zn (zb ?_)))
 obtain ⟨n3, h4, h⟩ := zB h
 refine zO (fun (s : Int × Int) => ⟨[(3, .p (.int .i64 s.1)), (6, .p (.slc (List.map (encL (PV.int .i64)) g1))), (7, .p (.int .i64 (g1.length : Int))), (8, .p (.int .i64 s.2))], []⟩) (fun (o5 : Int) => tE (cX Tryz.f72 X w D hT) (.exit 0) ⟨[(3, .p (.int .i64 o5))], []⟩) h4 ?_ ?_
 clear h h4
 intro s x h
 obtain ⟨n6, t7⟩ := s
 simp only [approx_group_size_l1] at h
 dsimp only
 refine zs (zr ?_)
 refine zU (zl (zn (zs ?_)))
 rcases zI h with ⟨h8, h⟩ | ⟨h8, h⟩
 refine zi (zk (zn (zs (zb (zs (zr ?_))))))
 obtain ⟨x9, h10, h10a, h10b, h⟩ := zX h
 refine zU (zl (zn (zr ?_)))
 refine zU (zl (yn (zn (zr ?_))))
 refine zU (zl ?_)
 cases h
 exact ⟨rfl, zE⟩
 refine zj (zx (ze ?_))
 cases h
 exact ⟨rfl, zE⟩
 try simp only at h
 refine zA (yh (zn (zs (zr ?_))))
 refine zU (zl (zn (zq ?_)))
 cases h
 exact zT Tryz.results72
end Go.Proofs.YtjcdclpfeflfkaaGreatDoor
set_option linter.unusedVariables false
set_option linter.unusedSimpArgs false
namespace Go.Proofs.YtjcdclpfeflfkaaGreatDoor
open Go Go.Ab
set_option maxHeartbeats 4000000 in
theorem ratio_abs_con {D : Prop} (n1 : Int) (r2 : Int) (h : ratio_abs n1 = some r2) : Con D Tryz.prog 76 [(.int .i64 n1)] (.int .u64 r2) := by
 refine zP Tryz.call76 Tryz.func76 rfl Tryz.ntmps76 fun X w hT => ?_
 simp only [ratio_abs] at h
 refine zs (zr ?_)
 refine zU (zl (zn (zs (zs (zr ?_)))))
 refine zU (zl (zn ?_))
 rcases zI h with ⟨h3, h⟩ | ⟨h3, h⟩
 refine zi (zs (zr ?_))
 refine zU (zl (zn (zq (zt ?_))))
 cases h
 exact zT Tryz.results76
 refine zj (zk (zn (zs (zr ?_))))
 refine zU (zl (zn (zq ?_)))
 cases h
 exact zT Tryz.results76
end Go.Proofs.YtjcdclpfeflfkaaGreatDoor
set_option linter.unusedVariables false
set_option linter.unusedSimpArgs false
namespace Go.Proofs.YtjcdclpfeflfkaaGreatDoor
open Go Go.Ab
set_option maxHeartbeats 4000000 in
theorem ratio_gcd_con {D : Prop} (a1 : Int) (b2 : Int) (r3 : Int) (h : ratio_gcd a1 b2 = some r3) : Con D Tryz.prog 85 [(.int .u64 a1), (.int .u64 b2)] (.int .u64 r3) := by
 refine zP Tryz.call85 Tryz.func85 rfl Tryz.ntmps85 fun X w hT => ?_
 simp only [ratio_gcd] at h
 refine zs (zr ?_)
 refine zU (zl (zn (zs (zb ?_))))
 obtain ⟨a4, h5, h⟩ := zB h
 refine zO (fun (s : Int × Int) => ⟨[(0, .p (.int .u64 s.1)), (1, .p (.int .u64 s.2))], []⟩) (fun (o6 : Int) => tE (cX Tryz.f85 X w D hT) (.exit 0) ⟨[(0, .p (.int .u64 o6))], []⟩) h5 ?_ ?_
 clear h h5
 intro s x h
 obtain ⟨a7, b8⟩ := s
 simp only [ratio_gcd_l1] at h
 dsimp only
 refine zs (zs (zr ?_))
 refine zU (zl (zn ?_))
 rcases zI h with ⟨h9, h⟩ | ⟨h9, h⟩
 refine zi (zk (zn (zb (zd ?_))))
 obtain ⟨h10, h⟩ := ite_none h
 refine yU ?_
 refine yd (yn ?_)
 cases h
 exact ⟨rfl, zE⟩
 refine zj (zx (ze ?_))
 cases h
 exact ⟨rfl, zE⟩
 try simp only at h
 refine zA (yh (zn (zs (zr ?_))))
 refine zU (zl (zn (zq ?_)))
 cases h
 exact zT Tryz.results85
end Go.Proofs.YtjcdclpfeflfkaaGreatDoor
set_option linter.unusedVariables false
set_option linter.unusedSimpArgs false
namespace Go.Proofs.YtjcdclpfeflfkaaGreatDoor
open Go Go.Ab
set_option maxHeartbeats 4000000 in
theorem ratio_of_con {D : Prop} (n1 : Bool) (n2 : Int) (d3 : Int) (r4 : Ratio × Int) (h : ratio_of n1 n2 d3 = some r4) : Con D Tryz.prog 118 [(.bool n1), (.int .u64 n2), (.int .u64 d3)] (.tup [(encRatio r4.1), (.int .i64 r4.2)]) := by
 refine zP Tryz.call118 Tryz.func118 rfl Tryz.ntmps118 fun X w hT => ?_
 simp only [ratio_of] at h
 refine zs (zr ?_)
 refine zU (zl (zn (zs (zs (zr ?_)))))
 refine zU ?_
 rcases zI h with ⟨h5, h⟩ | ⟨h5, h⟩
 refine zw 11 true ?_
 refine zh ?_
 refine zU (zl (zn ?_))
 refine zi (zs (zr ?_))
 refine zU (zl (zn (zq (zt ?_))))
 cases h
 exact zT Tryz.results118
 refine zw 11 false ?_
 refine zg ?_
 refine zg ?_
 refine zU (zl (zn ?_))
 rcases zI h with ⟨h6, h⟩ | ⟨h6, h⟩
 refine zi (zs (zr ?_))
 refine zU (zl (zn (zq (zt ?_))))
 cases h
 exact zT Tryz.results118
 refine zj (zk (zn (zs (zr ?_))))
 refine zU (zl (zn (zs (zs (zr ?_)))))
 refine zU (zl (zn ?_))
 rcases zI h with ⟨h7, h⟩ | ⟨h7, h⟩
 refine zi (zr ?_)
 refine zU (zl (zn (zs (zr ?_))))
 refine zU (zl (zn (zq ?_)))
 cases h
 exact zT Tryz.results118
 refine zj (zk (zn (zs (zr ?_))))
 refine zU (zl (zn (zq ?_)))
 cases h
 exact zT Tryz.results118
end Go.Proofs.YtjcdclpfeflfkaaGreatDoor
set_option linter.unusedVariables false
set_option linter.unusedSimpArgs false
namespace Go.Proofs.YtjcdclpfeflfkaaGreatDoor
open Go Go.Ab
set_option maxRecDepth 20000 in
set_option maxHeartbeats 4000000 in
theorem ratio_Make_con {D : Prop} (n1 : Int) (d2 : Int) (r3 : Ratio × Int) (h : ratio_Make n1 d2 = some r3) : Con D Tryz.prog 73 [(.int .i64 n1), (.int .i64 d2)] (.tup [(encRatio r3.1), (.int .i64 r3.2)]) := by
 refine zP Tryz.call73 Tryz.func73 rfl Tryz.ntmps73 fun X w hT => ?_
 simp only [ratio_Make] at h
 refine zs (zr ?_)
 refine zU (zl (zn (zs (zs (zr ?_)))))
 refine zU (zl (zn ?_))
 rcases zI h with ⟨h4, h⟩ | ⟨h4, h⟩
 refine zi (zs (zr ?_))
 refine zU (zl (zn (zq (zt ?_))))
 cases h
 exact zT Tryz.results73
 refine zj (zk (zn (zs (zr ?_))))
 refine zU ?_
 obtain ⟨r5, h6, h⟩ := zB h
 refine zc (ratio_abs_con n1 _ h6) ?_
 refine zU ?_
 obtain ⟨r7, h8, h⟩ := zB h
 refine zc (ratio_abs_con d2 _ h8) ?_
 refine zU (zl (zn (zs (zr ?_))))
 refine zU ?_
 obtain ⟨r9, h10, h⟩ := zB h
 refine zc (ratio_gcd_con r5 r7 _ h10) ?_
 refine zU (zl (zn (zs (zd ?_))))
 obtain ⟨h11, h⟩ := ite_none h
 refine yU ?_
 obtain ⟨r12, h13, h⟩ := zB h
 refine yc (ratio_of_con (!((decide (n1 < 0)) == (decide (d2 < 0)))) (IntKind.u64.wrap (Int.tdiv r5 r9)) (IntKind.u64.wrap (Int.tdiv r7 r9)) _ h13) ?_
 refine yU ?_
 refine yd (zn (zq ?_))
 cases h
 exact zT Tryz.results73
end Go.Proofs.YtjcdclpfeflfkaaGreatDoor
set_option linter.unusedVariables false
set_option linter.unusedSimpArgs false
namespace Go.Proofs.YtjcdclpfeflfkaaGreatDoor
open Go Go.Ab
set_option maxHeartbeats 4000000 in
theorem approx_measured_con (t1 : Table) (f2 : FD) (m3 : Int) (r4 : Ratio) (h : approx_measured t1 f2 m3 = some r4) : Con False Tryz.prog 39 [(encTable t1), (encFD f2), (.int .i64 m3)] (encRatio r4) := by
 refine zP Tryz.call39 Tryz.func39 rfl Tryz.ntmps39 fun X w hT => ?_
 simp only [approx_measured] at h
 refine zs (zr ?_)
 refine zU (zl (zn (zs (zr ?_))))
 refine zU (zl (zn (zs (zs (zr ?_)))))
 refine zU (zl (zn ?_))
 rcases zI h with ⟨h5, h⟩ | ⟨h5, h⟩
 refine zi (zs (zr ?_))
 refine zU (zl (zn (zq (zt ?_))))
 cases h
 exact zT Tryz.results39
 refine zj (zk (zn (zs (zr ?_))))
 refine zU (zl (zn (zs (zs (zr ?_)))))
 refine zU ?_
 obtain ⟨r6, h7, h⟩ := zB h
 refine zc (approx_groups_con t1 f2 _ h7) ?_
 refine zU (zl (zn (zb ?_)))
 obtain ⟨s8, h9, h⟩ := zB h
 refine zO (fun (s : Int × Int) => ⟨[(2, .p (.int .i64 m3)), (6, .loc 6 1 0 0), (7, .p (.int .i64 (t1.Rows.length : Int))), (8, .p (.int .i64 s.1)), (9, .p (.int .i64 (t1.Rows.length : Int))), (26, .p (.slc (List.map (encL (encL (PV.int .i64))) r6))), (27, .p (.int .i64 (r6.length : Int))), (28, .p (.int .i64 s.2))], [(6, .arr 47 2 1 [.p (.agg [.int .i64 0, .int .i64 0])])]⟩) (fun (o10 : Int) => tE (cX Tryz.f39 X w False hT) (.exit 0) ⟨[(2, .p (.int .i64 m3)), (6, .loc 6 1 0 0), (7, .p (.int .i64 (t1.Rows.length : Int))), (8, .p (.int .i64 o10)), (9, .p (.int .i64 (t1.Rows.length : Int)))], [(6, .arr 47 2 1 [.p (.agg [.int .i64 0, .int .i64 0])])]⟩) h9 ?_ ?_
 clear h h5 h7 h9
 intro s x h
 obtain ⟨s11, t12⟩ := s
 simp only [approx_measured_l4] at h
 dsimp only
 refine zs (zr ?_)
 refine zU (zl (zn (zs ?_)))
 rcases zI h with ⟨h13, h⟩ | ⟨h13, h⟩
 refine zi (zk (zn (zs (zb (zs (zr ?_))))))
 obtain ⟨x14, h15, h15a, h15b, h⟩ := zX h
 refine zU (zl (zn (zs (zr ?_))))
 refine zU ?_
 obtain ⟨r16, h17, h⟩ := zB h
 refine zc (approx_group_size_con x14 _ h17) ?_
 refine zU (zl (zn (zs (zr ?_))))
 refine zU (zl (zn (zb (zs (zr ?_)))))
 refine zU (zl (zn ?_))
 rcases zI h with ⟨h18, h⟩ | ⟨h18, h⟩
 refine zi (zs (zr ?_))
 refine zU (zl (zn (zs (zr ?_))))
 refine zU (zl (zn (zb ?_)))
 obtain ⟨s19, h20, h⟩ := zB h
 refine zO (fun (s : Int × Int) => ⟨[(2, .p (.int .i64 m3)), (6, .loc 6 1 0 0), (7, .p (.int .i64 (t1.Rows.length : Int))), (8, .p (.int .i64 s.1)), (9, .p (.int .i64 (t1.Rows.length : Int))), (26, .p (.slc (List.map (encL (encL (PV.int .i64))) r6))), (27, .p (.int .i64 (r6.length : Int))), (28, .p (.int .i64 t12)), (52, .p (.slc (List.map (encL (PV.int .i64)) x14))), (53, .p (.int .i64 (x14.length : Int))), (54, .p (.int .i64 s.2))], [(6, .arr 47 2 1 [.p (.agg [.int .i64 0, .int .i64 0])])]⟩) (fun (o21 : Int) => tE (cX Tryz.f39 X w False hT) (.exit 3) ⟨[(2, .p (.int .i64 m3)), (6, .loc 6 1 0 0), (7, .p (.int .i64 (t1.Rows.length : Int))), (8, .p (.int .i64 o21)), (9, .p (.int .i64 (t1.Rows.length : Int))), (26, .p (.slc (List.map (encL (encL (PV.int .i64))) r6))), (27, .p (.int .i64 (r6.length : Int))), (28, .p (.int .i64 t12))], [(6, .arr 47 2 1 [.p (.agg [.int .i64 0, .int .i64 0])])]⟩) h20 ?_ ?_
 clear h h13 h15 h15a h15b h17 h18 h20
 intro s x h
 obtain ⟨s22, t23⟩ := s
 simp only [approx_measured_l3] at h
 dsimp only
 refine zs (zr ?_)
 refine zU (zl (zn (zs ?_)))
 rcases zI h with ⟨h24, h⟩ | ⟨h24, h⟩
 refine zi (zk (zn (zs (zb (zs (zr ?_))))))
 obtain ⟨x25, h26, h26a, h26b, h⟩ := zX h
 refine zU (zl (zn (zr ?_)))
 refine zU (zl (yn (zn (zr ?_))))
 refine zU (zl ?_)
 cases h
 exact ⟨rfl, zE⟩
 refine zj (zx (ze ?_))
 cases h
 exact ⟨rfl, zE⟩
 try simp only at h
 refine zA (yh (yn (yn (zn (zr ?_)))))
 refine zU (zl ?_)
 cases h
 exact ⟨rfl, zE⟩
 refine zj (zs (zr ?_))
 refine zU (zl (zn ?_))
 rcases zI h with ⟨h27, h⟩ | ⟨h27, h⟩
 refine zi (zs (zr ?_))
 refine zU (zl (zn ?_))
 rcases zI h with ⟨h28, h⟩ | ⟨h28, h⟩
 refine zi (zr ?_)
 refine zU (zl (yn (yn (zn (zr ?_)))))
 refine zU (zl ?_)
 cases h
 exact ⟨rfl, zE⟩
 refine zj (zk (yn (yn (zn (zr ?_)))))
 refine zU (zl ?_)
 cases h
 exact ⟨rfl, zE⟩
 refine zj (zr ?_)
 refine zU ?_
 obtain ⟨r29, h30, h⟩ := zB h
 refine zc (approx_group_best_con x14 _ h30) ?_
 obtain ⟨x31, h32, h32a, h32b, h⟩ := zX h
 refine zU (zl (yn (yn (zn (zr ?_)))))
 refine zU (zl ?_)
 cases h
 exact ⟨rfl, zE⟩
 refine zj (zx (ze ?_))
 cases h
 exact ⟨rfl, zE⟩
 try simp only at h
 refine zA (yh (zn (zs (zs (zr ?_)))))
 refine zU (zl (zn ?_))
 rcases zI h with ⟨h33, h⟩ | ⟨h33, h⟩
 refine zi (zr ?_)
 refine zU (zl (zn (zs (zr ?_))))
 refine zU ?_
 obtain ⟨r34, h35, h⟩ := zB h
 refine zc (ratio_Make_con s8 (IntKind.i64.wrap ((t1.Rows.length : Int) * (t1.Rows.length : Int))) _ h35) ?_
 refine zU (zl (zn (zs (zr ?_))))
 refine zU (zl (zn (zq ?_)))
 cases h
 exact zT Tryz.results39
 refine zj (zk (zn (zs (zr ?_))))
 refine zU ?_
 obtain ⟨r36, h37, h⟩ := zB h
 refine zc (ratio_Make_con s8 (t1.Rows.length : Int) _ h37) ?_
 refine zU (zl (zn (zs (zr ?_))))
 refine zU (zl (zn (zq ?_)))
 cases h
 exact zT Tryz.results39
end Go.Proofs.YtjcdclpfeflfkaaGreatDoor
set_option linter.unusedVariables false
set_option linter.unusedSimpArgs false
namespace Go.Proofs.YtjcdclpfeflfkaaGreatDoor
open Go Go.Ab
set_option maxHeartbeats 4000000 in
theorem approx_Error_con (t1 : Table) (f2 : FD) (m3 : Int) (r4 : Ratio × Int) (h : approx_Error t1 f2 m3 = some r4) : Con False Tryz.prog 24 [(encTable t1), (encFD f2), (.int .i64 m3)] (.tup [(encRatio r4.1), (.int .i64 r4.2)]) := by
 refine zP Tryz.call24 Tryz.func24 rfl Tryz.ntmps24 fun X w hT => ?_
 simp only [approx_Error] at h
 refine zs (zr ?_)
 refine zU (zl (zn (zs (zs (zr ?_)))))
 refine zU ?_
 obtain ⟨r5, h6, h⟩ := zB h
 refine zc (approx_known_con t1 [f2] _ h6) ?_
 refine zU (zl (zn (zs (zr ?_))))
 refine zU (zl (zn ?_))
 rcases zI h with ⟨h7, h⟩ | ⟨h7, h⟩
 refine zi (zs (zr ?_))
 refine zU (zl (zn (zq (zt ?_))))
 cases h
 exact zT Tryz.results24
 refine zj (zk (zn (zs (zs (zr ?_)))))
 refine zU ?_
 obtain ⟨r8, h9, h⟩ := zB h
 refine zc (approx_measures_con m3 _ h9) ?_
 refine zU (zl (zn ?_))
 rcases zI h with ⟨h10, h⟩ | ⟨h10, h⟩
 refine zj (zk (zn (zs (zr ?_))))
 refine zU ?_
 obtain ⟨r11, h12, h⟩ := zB h
 refine zc (approx_measured_con t1 f2 m3 _ h12) ?_
 refine zU (zl (zn (zq ?_)))
 cases h
 exact zT Tryz.results24
 refine zi (zs (zr ?_))
 refine zU (zl (zn (zq (zt ?_))))
 cases h
 exact zT Tryz.results24
end Go.Proofs.YtjcdclpfeflfkaaGreatDoor
set_option linter.unusedVariables false
set_option linter.unusedSimpArgs false
namespace Go.Proofs.YtjcdclpfeflfkaaGreatDoor
open Go Go.Ab
set_option maxHeartbeats 4000000 in
theorem drossref01_Of_con {D : Prop} (c1 : Int) (r2 : Value) (h : drossref01_Of c1 = some r2) : Con D Tryz.prog 93 [(.int .u8 c1)] (encValue r2) := by
 refine zP Tryz.call93 Tryz.func93 rfl Tryz.ntmps93 fun X w hT => ?_
 simp only [drossref01_Of] at h
 refine zs (zr ?_)
 refine zU (zl (zn (zs (zs (zr ?_)))))
 refine zU (zl (zn (zb (zs (zr ?_)))))
 refine zU (zl (zn ?_))
 rcases zI h with ⟨h3, h⟩ | ⟨h3, h⟩
 refine zi (zs (zr ?_))
 refine zU (zl (zn (zq (yr (zt ?_)))))
 cases h
 exact zT Tryz.results93
 refine zj (zs (zr ?_))
 refine zU (zl (zn ?_))
 rcases zI h with ⟨h4, h⟩ | ⟨h4, h⟩
 refine zi (zs (zr ?_))
 refine zU (zl (zn (zq (yr (zt ?_)))))
 cases h
 exact zT Tryz.results93
 refine zj (zs (zr ?_))
 refine zU (zl (zn ?_))
 rcases zI h with ⟨h5, h⟩ | ⟨h5, h⟩
 refine zi (zs (zr ?_))
 refine zU (zl (zn (zq (yr (zt ?_)))))
 cases h
 exact zT Tryz.results93
 refine zj (zs (zr ?_))
 refine zU (zl (zn ?_))
 rcases zI h with ⟨h6, h⟩ | ⟨h6, h⟩
 refine zi (zs (zr ?_))
 refine zU (zl (zn (zq (yr (zt ?_)))))
 cases h
 exact zT Tryz.results93
 refine zj (zs (zr ?_))
 refine zU (zl (zn ?_))
 rcases zI h with ⟨h7, h⟩ | ⟨h7, h⟩
 refine zi (zs (zr ?_))
 refine zU (zl (zn (zq (yr (zt ?_)))))
 cases h
 exact zT Tryz.results93
 refine zj (zs (zr ?_))
 refine zU (zl (zn ?_))
 rcases zI h with ⟨h8, h⟩ | ⟨h8, h⟩
 refine zi (zs (zr ?_))
 refine zU (zl (zn (zq (yr (zt ?_)))))
 cases h
 exact zT Tryz.results93
 refine zj (zs (zr ?_))
 refine zU (zl (zn ?_))
 rcases zI h with ⟨h9, h⟩ | ⟨h9, h⟩
 refine zi (zs (zr ?_))
 refine zU (zl (zn (zq (yr (zt ?_)))))
 cases h
 exact zT Tryz.results93
 refine zj (zs (zr ?_))
 refine zU (zl (zn ?_))
 rcases zI h with ⟨h10, h⟩ | ⟨h10, h⟩
 refine zi (zs (zr ?_))
 refine zU (zl (zn (zq (yr (zt ?_)))))
 cases h
 exact zT Tryz.results93
 refine zj (zs (zr ?_))
 refine zU (zl (zn ?_))
 rcases zI h with ⟨h11, h⟩ | ⟨h11, h⟩
 refine zi (zs (zr ?_))
 refine zU (zl (zn (zq (yr (zt ?_)))))
 cases h
 exact zT Tryz.results93
 refine zj (zs (zr ?_))
 refine zU (zl (zn ?_))
 rcases zI h with ⟨h12, h⟩ | ⟨h12, h⟩
 refine zi (zs (zr ?_))
 refine zU (zl (zn (zq (yr (zt ?_)))))
 cases h
 exact zT Tryz.results93
 refine zj (zs (zr ?_))
 refine zU (zl (zn ?_))
 rcases zI h with ⟨h13, h⟩ | ⟨h13, h⟩
 refine zi (zs (zr ?_))
 refine zU (zl (zn (zq (yr (zt ?_)))))
 cases h
 exact zT Tryz.results93
 refine zj (zk (yn (zn (zs (zr ?_)))))
 refine zU (zl (zn (zq ?_)))
 cases h
 exact zT Tryz.results93
end Go.Proofs.YtjcdclpfeflfkaaGreatDoor
set_option linter.unusedVariables false
set_option linter.unusedSimpArgs false
namespace Go.Proofs.YtjcdclpfeflfkaaGreatDoor
open Go Go.Ab
set_option maxHeartbeats 4000000 in
theorem drossref01_List_con {D : Prop} (c1 : List Int) (r2 : List Value) (h : drossref01_List c1 = some r2) : Con D Tryz.prog 59 [(.slc (List.map (PV.int .u8) c1))] (.slc (List.map encValue r2)) := by
 refine zP Tryz.call59 Tryz.func59 rfl Tryz.ntmps59 fun X w hT => ?_
 simp only [drossref01_List] at h
 refine zs (zr ?_)
 refine zU (zl (zn (zs (zr ?_))))
 refine zU (zl (zn (zs (zs (zr ?_)))))
 refine zU (zl (zn (zb ?_)))
 obtain ⟨o3, h4, h⟩ := zB h
 refine zO (fun (s : List Value × Int) => ⟨[(0, .p (.slc (List.map (PV.int .u8) c1))), (3, .own 18 1 0 s.1.length), (4, .p (.int .i64 s.2))], [(18, .arr 138 3 1 (List.map AV.p (List.map encValue s.1)))]⟩) (fun (o5 : List Value) => tE (cX Tryz.f59 X w D hT) (.exit 0) ⟨[(3, .own 18 1 0 o5.length)], [(18, .arr 138 3 1 (List.map AV.p (List.map encValue o5)))]⟩) h4 ?_ ?_
 clear h h4
 intro s x h
 obtain ⟨o6, i7⟩ := s
 simp only [drossref01_List_l1] at h
 dsimp only
 refine zs (zs (zr ?_))
 refine zU (zl (zn ?_))
 rcases zI h with ⟨h8, h⟩ | ⟨h8, h⟩
 refine zi (zk (zn (zs (zb (zr ?_)))))
 obtain ⟨x9, h10, h10a, h10b, h⟩ := zX h
 refine zU ?_
 obtain ⟨r11, h12, h⟩ := zB h
 refine zc (drossref01_Of_con x9 _ h12) ?_
 obtain ⟨h13, h⟩ := ite_some h
 refine zU (zl (yn (zn (zr ?_))))
 refine zU (zl ?_)
 cases h
 exact ⟨rfl, zE⟩
 refine zj (zx (ze ?_))
 cases h
 exact ⟨rfl, zE⟩
 try simp only at h
 refine zA (yh (zn (zs (zr ?_))))
 refine zU (zl (zn (zq ?_)))
 cases h
 exact zT Tryz.results59
end Go.Proofs.YtjcdclpfeflfkaaGreatDoor
set_option linter.unusedVariables false
set_option linter.unusedSimpArgs false
namespace Go.Proofs.YtjcdclpfeflfkaaGreatDoor
open Go Go.Ab
set_option maxRecDepth 20000 in
set_option maxHeartbeats 4000000 in
theorem drosslaw32_example_con {D : Prop} (r1 : Table) (h : drosslaw32_example = some r1) : Con D Tryz.prog 25 [] (encTable r1) := by
 refine zP Tryz.call25 Tryz.func25 rfl Tryz.ntmps25 fun X w hT => ?_
 simp only [drosslaw32_example] at h
 refine zs (zr ?_)
 refine zU (zl (zn (zs (zr ?_))))
 refine zU (zl (zn (zs (zs (zr ?_)))))
 refine zU (zl (zn (zb ?_)))
 refine zL ⟨[(0, .loc 0 1 0 0), (1, .loc 1 1 0 0), (10, .own 10 1 0 4), (11, .p (.int .i64 4)), (12, .p (.int .i64 0))], [(0, .arr 25 3 1 [.agg [.p (.str []), .nils, .nils]]), (1, .arr 25 3 1 [.agg [.p (.str [114]), .own 4 1 0 2, .nils]]), (4, .arr 9 1 1 [.p (.str [97]), .p (.str [98])]), (10, .arr 101 1 1 [.p (.slc (List.map (PV.int .u8) [1, 1])), .p (.slc (List.map (PV.int .u8) [1, 1])), .p (.slc (List.map (PV.int .u8) [1, 2])), .p (.slc (List.map (PV.int .u8) [2, 5]))])]⟩ ?_
 obtain ⟨l2, h3, h⟩ := zB h
 replace h3 := Option.some.inj h3
 refine awp_le (st' := ⟨[(0, .loc 0 1 0 0), (1, .loc 1 1 0 0), (10, .own 10 1 0 l2.length), (11, .p (.int .i64 4)), (12, .p (.int .i64 0))], [(0, .arr 25 3 1 [.agg [.p (.str []), .nils, .nils]]), (1, .arr 25 3 1 [.agg [.p (.str [114]), .own 4 1 0 2, .nils]]), (4, .arr 9 1 1 [.p (.str [97]), .p (.str [98])]), (10, .arr 101 1 1 (List.map AV.p (List.map (encL (PV.int .u8)) l2)))]⟩) (by simp only [go_sem, seval, ← h3]; all_goals ((repeat' refine And.intro ?_ ?_) <;> first | rfl | (simp; done) | (simp; rfl) | (simp [*]; done) | (simp [*]; rfl))) ?_
 have h3n : l2.length = 4 := by rw [← h3]; rfl
 clear h3
 obtain ⟨t4, h5, h⟩ := zB h
 refine zO (fun (s : List Row × Int) => ⟨[(0, .loc 0 1 0 0), (1, .loc 1 1 0 0), (10, .own 10 1 0 l2.length), (11, .p (.int .i64 4)), (12, .p (.int .i64 s.2))], [(0, .arr 25 3 1 [.agg [.p (.str []), .nils, .nils]]), (1, .arr 25 3 1 [.agg [.p (.str [114]), .own 4 1 0 ([[97], [98]]).length, .own 25 1 0 s.1.length]]), (4, .arr 9 1 1 (List.map AV.p (List.map PV.str [[97], [98]]))), (10, .arr 101 1 1 (List.map AV.p (List.map (encL (PV.int .u8)) l2))), (25, .arr 71 2 1 (List.map AV.p (List.map encRow s.1)))]⟩) (fun (o6 : List Row) => tE (cX Tryz.f25 X w D hT) (.exit 0) ⟨[(0, .loc 0 1 0 0), (1, .loc 1 1 0 0)], [(0, .arr 25 3 1 [.agg [.p (.str []), .nils, .nils]]), (1, .arr 25 3 1 [.agg [.p (.str [114]), .own 4 1 0 ([[97], [98]]).length, .own 25 1 0 o6.length]]), (4, .arr 9 1 1 (List.map AV.p (List.map PV.str [[97], [98]]))), (25, .arr 71 2 1 (List.map AV.p (List.map encRow o6)))]⟩) h5 ?_ ?_
 clear h h3n h5
 intro s x h
 obtain ⟨t7, t8⟩ := s
 simp only [drosslaw32_example_l1] at h
 dsimp only
 refine zs (zr ?_)
 refine zU (zl (zn (zs ?_)))
 rcases zI h with ⟨h9, h⟩ | ⟨h9, h⟩
 refine zi (zk (zn (zs (zb (zs (zr ?_))))))
 obtain ⟨x10, h11, h11a, h11b, h⟩ := zX h
 refine zU (zl (zn (zd ?_)))
 refine yU ?_
 obtain ⟨r12, h13, h⟩ := zB h
 refine yc (drossref01_List_con x10 _ h13) ?_
 obtain ⟨h14, h⟩ := ite_some h
 refine yU ?_
 refine yd (yn (zn (zr ?_)))
 refine zU (zl ?_)
 cases h
 exact ⟨rfl, zE⟩
 refine zj (zx (ze ?_))
 cases h
 exact ⟨rfl, zE⟩
 try simp only at h
 refine zA (yh (zn (zs (zr ?_))))
 refine zU (zl (zn (zq ?_)))
 cases h
 exact zT Tryz.results25
end Go.Proofs.YtjcdclpfeflfkaaGreatDoor
set_option linter.unusedVariables false
set_option linter.unusedSimpArgs false
namespace Go.Proofs.YtjcdclpfeflfkaaGreatDoor
open Go Go.Ab
set_option maxRecDepth 20000 in
set_option maxHeartbeats 4000000 in
theorem drosslaw32_awake_con  (r1 : Bool) (h : drosslaw32_awake = some r1) : Con False Tryz.prog 7 [] (.bool r1) := by
 refine zP Tryz.call7 Tryz.func7 rfl Tryz.ntmps7 fun X w hT => ?_
 simp only [drosslaw32_awake] at h
 refine zs (zr ?_)
 refine zU (zl (zn (zs (zr ?_))))
 refine zU (zl (zn (zs (zd ?_))))
 obtain ⟨r2, h3, h⟩ := zB h
 refine yc (drosslaw32_example_con  _ h3) ?_
 refine yU ?_
 obtain ⟨r4, h5, h⟩ := zB h
 refine yc (approx_Error_con r2 (FD.mk 1 2) 1 _ h5) ?_
 refine yU ?_
 refine yd (zn (zs (zd ?_)))
 obtain ⟨r6, h7, h⟩ := zB h
 refine yc (drosslaw32_example_con  _ h7) ?_
 refine yU ?_
 obtain ⟨r8, h9, h⟩ := zB h
 refine yc (approx_Error_con r6 (FD.mk 1 2) 2 _ h9) ?_
 refine yU ?_
 refine yd (zn (zs (zd ?_)))
 obtain ⟨r10, h11, h⟩ := zB h
 refine yc (drosslaw32_example_con  _ h11) ?_
 refine yU ?_
 obtain ⟨r12, h13, h⟩ := zB h
 refine yc (approx_Error_con r10 (FD.mk 1 2) 3 _ h13) ?_
 refine yU ?_
 refine yd (zn (zs (zd ?_)))
 obtain ⟨r14, h15, h⟩ := zB h
 refine yc (drosslaw32_example_con  _ h15) ?_
 refine yU ?_
 obtain ⟨r16, h17, h⟩ := zB h
 refine yc (approx_Removal_con r14 (FD.mk 1 2) _ h17) ?_
 refine yU ?_
 refine yd (zn (zs (zd ?_)))
 refine yU ?_
 rcases zI h with ⟨h18, h⟩ | ⟨h18, h⟩
 refine yw 37 true ?_
 refine yg ?_
 refine yg ?_
 refine yU ?_
 rcases zI h with ⟨h19, h⟩ | ⟨h19, h⟩
 refine yw 41 true ?_
 refine yg ?_
 refine yg ?_
 refine yU ?_
 rcases zI h with ⟨h20, h⟩ | ⟨h20, h⟩
 refine yw 45 true ?_
 refine yg ?_
 refine yg ?_
 refine yU ?_
 rcases zI h with ⟨h21, h⟩ | ⟨h21, h⟩
 refine yw 49 true ?_
 refine yg ?_
 obtain ⟨r22, h23, h⟩ := zB h
 refine yc (drossref04_Of_con 1 4 _ h23) ?_
 refine yg ?_
 refine yU ?_
 rcases zI h with ⟨h24, h⟩ | ⟨h24, h⟩
 refine yw 54 true ?_
 refine yg ?_
 obtain ⟨r25, h26, h⟩ := zB h
 refine yc (drossref04_Of_con 3 4 _ h26) ?_
 refine yg ?_
 refine yU ?_
 rcases zI h with ⟨h27, h⟩ | ⟨h27, h⟩
 refine yw 59 true ?_
 refine yg ?_
 obtain ⟨r28, h29, h⟩ := zB h
 refine yc (drossref04_Of_con 1 4 _ h29) ?_
 refine yg ?_
 refine yU ?_
 rcases zI h with ⟨h30, h⟩ | ⟨h30, h⟩
 refine yw 64 true ?_
 refine yg ?_
 refine yg ?_
 obtain ⟨r31, h32, h⟩ := zB h
 refine yc (drossref03_IDs_con r16.1 [3] _ h32) ?_
 refine yU ?_
 refine yd (zn (zq ?_))
 cases h
 exact zT Tryz.results7
 refine yw 64 false ?_
 refine yk ?_
 refine yU ?_
 refine yd (zn (zq ?_))
 cases h
 exact zT Tryz.results7
 refine yw 59 false ?_
 refine yk ?_
 refine yU ?_
 refine yk ?_
 refine yU ?_
 refine yd (zn (zq ?_))
 cases h
 exact zT Tryz.results7
 refine yw 54 false ?_
 refine yk ?_
 refine yU ?_
 refine yk ?_
 refine yU ?_
 refine yk ?_
 refine yU ?_
 refine yd (zn (zq ?_))
 cases h
 exact zT Tryz.results7
 refine yw 49 false ?_
 refine yk ?_
 refine yU ?_
 refine yk ?_
 refine yU ?_
 refine yk ?_
 refine yU ?_
 refine yk ?_
 refine yU ?_
 refine yd (zn (zq ?_))
 cases h
 exact zT Tryz.results7
 refine yw 45 false ?_
 refine yk ?_
 refine yU ?_
 refine yk ?_
 refine yU ?_
 refine yk ?_
 refine yU ?_
 refine yk ?_
 refine yU ?_
 refine yk ?_
 refine yU ?_
 refine yd (zn (zq ?_))
 cases h
 exact zT Tryz.results7
 refine yw 41 false ?_
 refine yk ?_
 refine yU ?_
 refine yk ?_
 refine yU ?_
 refine yk ?_
 refine yU ?_
 refine yk ?_
 refine yU ?_
 refine yk ?_
 refine yU ?_
 refine yk ?_
 refine yU ?_
 refine yd (zn (zq ?_))
 cases h
 exact zT Tryz.results7
 refine yw 37 false ?_
 refine yk ?_
 refine yU ?_
 refine yk ?_
 refine yU ?_
 refine yk ?_
 refine yU ?_
 refine yk ?_
 refine yU ?_
 refine yk ?_
 refine yU ?_
 refine yk ?_
 refine yU ?_
 refine yk ?_
 refine yU ?_
 refine yd (zn (zq ?_))
 cases h
 exact zT Tryz.results7
end Go.Proofs.YtjcdclpfeflfkaaGreatDoor
set_option linter.unusedVariables false
set_option linter.unusedSimpArgs false
namespace Go.Proofs.YtjcdclpfeflfkaaGreatDoor
open Go Go.Ab
set_option maxHeartbeats 4000000 in
theorem bits_Mul64_con {D : Prop} (x1 : Int) (y2 : Int) (r3 : Int × Int) (h : bits_Mul64 x1 y2 = some r3) : Con D Tryz.prog 121 [(.int .u64 x1), (.int .u64 y2)] (.tup [(.int .u64 r3.1), (.int .u64 r3.2)]) := by
 refine zP Tryz.call121 Tryz.func121 rfl Tryz.ntmps121 fun X w hT => ?_
 simp only [bits_Mul64] at h
 refine zs (zr ?_)
 refine zU (zl (zn (zs (zr ?_))))
 refine zU (zl (zn (zs (zr ?_))))
 refine zU (zl (zn (zs (zr ?_))))
 refine zU (zl (zn (zs (zr ?_))))
 refine zU (zl (zn (zs (zr ?_))))
 refine zU (zl (zn (zs (zr ?_))))
 refine zU (zl (zn (zs (zr ?_))))
 refine zU (zl (zn (zs (zr ?_))))
 refine zU (zl (zn (zs (zr ?_))))
 refine zU (zl (zn (zs (zr ?_))))
 refine zU (zl (zn (zs (zr ?_))))
 refine zU (zl (zn (zq ?_)))
 cases h
 exact zT Tryz.results121
end Go.Proofs.YtjcdclpfeflfkaaGreatDoor
set_option linter.unusedVariables false
set_option linter.unusedSimpArgs false
namespace Go.Proofs.YtjcdclpfeflfkaaGreatDoor
open Go Go.Ab
set_option maxHeartbeats 4000000 in
theorem ratio_times_con {D : Prop} (a1 : Int) (b2 : Int) (r3 : Ratio_wide) (h : ratio_times a1 b2 = some r3) : Con D Tryz.prog 75 [(.int .u64 a1), (.int .u64 b2)] (encRatio_wide r3) := by
 refine zP Tryz.call75 Tryz.func75 rfl Tryz.ntmps75 fun X w hT => ?_
 simp only [ratio_times] at h
 refine zs (zr ?_)
 refine zU (zl (zn (zs (zr ?_))))
 refine zU ?_
 obtain ⟨r4, h5, h⟩ := zB h
 refine zc (bits_Mul64_con a1 b2 _ h5) ?_
 refine zU (zl (zn (zs (zr ?_))))
 refine zU (zl (zn (zq ?_)))
 cases h
 exact zT Tryz.results75
end Go.Proofs.YtjcdclpfeflfkaaGreatDoor
set_option linter.unusedVariables false
set_option linter.unusedSimpArgs false
namespace Go.Proofs.YtjcdclpfeflfkaaGreatDoor
open Go Go.Ab
set_option maxRecDepth 20000 in
set_option maxHeartbeats 4000000 in
theorem ratio_wide_cmp_con {D : Prop} (a1 : Ratio_wide) (b2 : Ratio_wide) (r3 : Int) (h : ratio_wide_cmp a1 b2 = some r3) : Con D Tryz.prog 77 [(encRatio_wide a1), (encRatio_wide b2)] (.int .i64 r3) := by
 refine zP Tryz.call77 Tryz.func77 rfl Tryz.ntmps77 fun X w hT => ?_
 simp only [ratio_wide_cmp] at h
 refine zs (zr ?_)
 refine zU (zl (zn (zs (zb (zs (zr ?_))))))
 refine zU (zl (zn ?_))
 rcases zI h with ⟨h4, h⟩ | ⟨h4, h⟩
 refine zi (zs (zr ?_))
 refine zU (zl (zn (zq (yr (zt ?_)))))
 cases h
 exact zT Tryz.results77
 refine zj (zs (zr ?_))
 refine zU ?_
 rcases zI h with ⟨h5, h⟩ | ⟨h5, h⟩
 refine zw 15 true ?_
 refine zh ?_
 refine zU (zl (zn ?_))
 refine zi (zs (zr ?_))
 refine zU (zl (zn (zq (yr (zt ?_)))))
 cases h
 exact zT Tryz.results77
 refine zw 15 false ?_
 refine zg ?_
 refine zg ?_
 refine zg ?_
 refine zg ?_
 refine zg ?_
 refine zg ?_
 rcases zI h with ⟨h6, h⟩ | ⟨h6, h⟩
 refine zw 21 true ?_
 refine zg ?_
 refine zg ?_
 refine zg ?_
 refine zg ?_
 refine zg ?_
 refine zg ?_
 refine zU (zl (zn ?_))
 rcases zI h with ⟨h7, h⟩ | ⟨h7, h⟩
 refine zi (zs (zr ?_))
 refine zU (zl (zn (zq (yr (zt ?_)))))
 cases h
 exact zT Tryz.results77
 refine zj (zk (yn (zn (zs (zr ?_)))))
 refine zU (zl (zn (zq ?_)))
 cases h
 exact zT Tryz.results77
 replace h := h.symm
 refine zw 21 false ?_
 refine zh ?_
 refine zg ?_
 refine zU (zl (zn ?_))
 refine zj (zk (yn (zn (zs (zr ?_)))))
 refine zU (zl (zn (zq ?_)))
 cases h
 exact zT Tryz.results77
end Go.Proofs.YtjcdclpfeflfkaaGreatDoor
set_option linter.unusedVariables false
set_option linter.unusedSimpArgs false
namespace Go.Proofs.YtjcdclpfeflfkaaGreatDoor
open Go Go.Ab
set_option maxRecDepth 20000 in
set_option maxHeartbeats 4000000 in
theorem ratio_Cmp_con {D : Prop} (a1 : Ratio) (b2 : Ratio) (r3 : Int) (h : ratio_Cmp a1 b2 = some r3) : Con D Tryz.prog 42 [(encRatio a1), (encRatio b2)] (.int .i64 r3) := by
 refine zP Tryz.call42 Tryz.func42 rfl Tryz.ntmps42 fun X w hT => ?_
 simp only [ratio_Cmp] at h
 refine zs (zr ?_)
 refine zU (zl (zn (zs (zs (zr ?_)))))
 refine zU (zl (zn ?_))
 rcases zI h with ⟨h4, h⟩ | ⟨h4, h⟩
 refine zj (zk (zn (zs (zd ?_))))
 refine yU ?_
 obtain ⟨r5, h6, h⟩ := zB h
 refine yc (ratio_abs_con a1.Num _ h6) ?_
 refine yU ?_
 obtain ⟨r7, h8, h⟩ := zB h
 refine yc (ratio_abs_con b2.Den _ h8) ?_
 obtain ⟨r9, h10, h⟩ := zB h
 refine yc (ratio_times_con r5 r7 _ h10) ?_
 refine yU ?_
 obtain ⟨r11, h12, h⟩ := zB h
 refine yc (ratio_abs_con b2.Num _ h12) ?_
 refine yU ?_
 obtain ⟨r13, h14, h⟩ := zB h
 refine yc (ratio_abs_con a1.Den _ h14) ?_
 obtain ⟨r15, h16, h⟩ := zB h
 refine yc (ratio_times_con r11 r13 _ h16) ?_
 obtain ⟨r17, h18, h⟩ := zB h
 refine yc (ratio_wide_cmp_con r9 r15 _ h18) ?_
 refine yU ?_
 refine yd (zn (zs (zs (zr ?_))))
 refine zU (zl (zn ?_))
 rcases zI h with ⟨h19, h⟩ | ⟨h19, h⟩
 refine zi (zs (zr ?_))
 refine zU (zl (zn (zq (zt ?_))))
 cases h
 exact zT Tryz.results42
 refine zj (zk (zn (zs (zr ?_))))
 refine zU (zl (zn (zq ?_)))
 cases h
 exact zT Tryz.results42
 refine zi (zs (zs (zr ?_)))
 refine zU (zl (zn ?_))
 rcases zI h with ⟨h20, h⟩ | ⟨h20, h⟩
 refine zi (zs (zr ?_))
 refine zU (zl (zn (zq (zt (zt ?_)))))
 cases h
 exact zT Tryz.results42
 refine zj (zk (zn (zs (zr ?_))))
 refine zU (zl (zn (zq (zt ?_))))
 cases h
 exact zT Tryz.results42
end Go.Proofs.YtjcdclpfeflfkaaGreatDoor
set_option linter.unusedVariables false
set_option linter.unusedSimpArgs false
namespace Go.Proofs.YtjcdclpfeflfkaaGreatDoor
open Go Go.Ab
set_option maxRecDepth 20000 in
set_option maxHeartbeats 4000000 in
theorem ratio_Valid_con {D : Prop} (r1 : Ratio) (r2 : Bool) (h : ratio_Valid r1 = some r2) : Con D Tryz.prog 46 [(encRatio r1)] (.bool r2) := by
 refine zP Tryz.call46 Tryz.func46 rfl Tryz.ntmps46 fun X w hT => ?_
 simp only [ratio_Valid] at h
 refine zs (zr ?_)
 refine zU (zl (zn (zs (zd ?_))))
 refine yU ?_
 rcases zI h with ⟨h3, h⟩ | ⟨h3, h⟩
 refine yw 6 true ?_
 refine yg ?_
 refine yg ?_
 refine yg ?_
 refine yU ?_
 rcases zI h with ⟨h4, h⟩ | ⟨h4, h⟩
 refine yw 11 true ?_
 refine yg ?_
 refine yg ?_
 obtain ⟨r5, h6, h⟩ := zB h
 refine yc (ratio_abs_con r1.Num _ h6) ?_
 refine yg ?_
 refine yg ?_
 refine yg ?_
 obtain ⟨r7, h8, h⟩ := zB h
 replace h := h.symm
 refine yc (ratio_gcd_con r5 (IntKind.u64.wrap r1.Den) _ h8) ?_
 refine yg ?_
 refine yU ?_
 refine yd (zn (zq ?_))
 cases h
 exact zT Tryz.results46
 refine yw 11 false ?_
 refine yk ?_
 refine yU ?_
 refine yd (zn (zq ?_))
 cases h
 exact zT Tryz.results46
 refine yw 6 false ?_
 refine yk ?_
 refine yU ?_
 refine yk ?_
 refine yU ?_
 refine yd (zn (zq ?_))
 cases h
 exact zT Tryz.results46
end Go.Proofs.YtjcdclpfeflfkaaGreatDoor
set_option linter.unusedVariables false
set_option linter.unusedSimpArgs false
namespace Go.Proofs.YtjcdclpfeflfkaaGreatDoor
open Go Go.Ab
set_option maxRecDepth 20000 in
set_option maxHeartbeats 4000000 in
theorem bits_OnesCount32_con {D : Prop} (x : Int) (r : Int) (h : bits_OnesCount32 x = some r) : Con D Tryz.prog 125 [(.int .u32 x)] (.int .i64 r) := by
 obtain ⟨hx, h⟩ := ite_some h
 obtain ⟨n, rfl⟩ := Int.eq_ofNat_of_zero_le hx.1
 have hn : n < 4294967296 := by omega
 replace h := Option.some.inj h
 subst h
 rw [Int.toNat_natCast]
 unfold ones32
 have e1 : Int.fdiv (n : Int) (2 ^ (min 24 32)) = ((n / 16777216 : Nat) : Int) := fdiv24 n 24 (by omega)
 have e2 : Int.fdiv (n : Int) (2 ^ (min 16 32)) = ((n / 65536 : Nat) : Int) := fdiv24 n 16 (by omega)
 have e3 : Int.fdiv (n : Int) (2 ^ (min 8 32)) = ((n / 256 : Nat) : Int) := fdiv24 n 8 (by omega)
 have a2 := and255 (n := n / 65536) (by omega)
 have a3 := and255 (n := n / 256) (by omega)
 have a4 := and255 hn
 refine zP Tryz.call125 Tryz.func125 rfl Tryz.ntmps125 fun X w hT => ?_
 refine zs (zr ?_)
 refine zU (zl (zn (zs ?_)))
 refine zd ?_
 have q1 := pop8_le (n / 16777216)
 have q2 := pop8_le (n / 65536 % 256)
 have q3 := pop8_le (n / 256 % 256)
 have q4 := pop8_le (n % 256)
 generalize g1 : pop8 (n / 16777216) = p1 at *
 generalize g2 : pop8 (n / 65536 % 256) = p2 at *
 generalize g3 : pop8 (n / 256 % 256) = p3 at *
 generalize g4 : pop8 (n % 256) = p4 at *
 have w1 : IntKind.u8.wrap ((p1 : Int) + (p2 : Int)) = ((p1 + p2 : Nat) : Int) := by rw [← Int.natCast_add]; exact wrap_u8s (by omega)
 have w2 : IntKind.u8.wrap (((p1 + p2 : Nat) : Int) + (p3 : Int)) = ((p1 + p2 + p3 : Nat) : Int) := by rw [← Int.natCast_add]; exact wrap_u8s (by omega)
 have w3 : IntKind.u8.wrap (((p1 + p2 + p3 : Nat) : Int) + (p4 : Int)) = ((p1 + p2 + p3 + p4 : Nat) : Int) := by rw [← Int.natCast_add]; exact wrap_u8s (by omega)
 have w4 : IntKind.i64.wrap ((p1 + p2 + p3 + p4 : Nat) : Int) = ((p1 + p2 + p3 + p4 : Nat) : Int) := wrap_i64 (by omega) (by omega)
 refine yV 2 ?_
 refine DGo.gt (guard_none rfl) rfl (index_ones (s := _) (m := n / 16777216) rfl (by simp only [go_sem, seval, e1]; exact rfl) (by kernel_rfl) (by omega) (by decide)) rfl ?_
 rw [g1]
 refine yV 3 ?_
 refine DGo.gt (guard_none rfl) rfl (index_ones (s := _) (m := n / 65536 % 256) rfl (by simp only [go_sem, seval, e2]; exact ⟨rfl, a2⟩) (by kernel_rfl) (by omega) (by decide)) rfl ?_
 rw [g2]
 refine yV 4 ?_
 refine DGo.gt (guard_none rfl) rfl (index_ones (s := _) (m := n / 256 % 256) rfl (by simp only [go_sem, seval, e3]; exact ⟨rfl, a3⟩) (by kernel_rfl) (by omega) (by decide)) rfl ?_
 rw [g3]
 refine yV 3 ?_
 refine DGo.gt (guard_none rfl) rfl (index_ones (s := _) (m := n % 256) rfl (by simp only [go_sem, seval]; exact ⟨rfl, a4⟩) (by kernel_rfl) (by omega) (by decide)) rfl ?_
 rw [g4]
 refine yV 3 ?_
 refine yd (zn (zq ?_))
 exact zT Tryz.results125
end Go.Proofs.YtjcdclpfeflfkaaGreatDoor
set_option linter.unusedVariables false
set_option linter.unusedSimpArgs false
namespace Go.Proofs.YtjcdclpfeflfkaaGreatDoor
open Go Go.Ab
set_option maxHeartbeats 4000000 in
theorem attrset_Size_con {D : Prop} (s1 : Int) (r2 : Int) (h : attrset_Size s1 = some r2) : Con D Tryz.prog 86 [(.int .u32 s1)] (.int .i64 r2) := by
 refine zP Tryz.call86 Tryz.func86 rfl Tryz.ntmps86 fun X w hT => ?_
 simp only [attrset_Size] at h
 refine zs (zr ?_)
 refine zU (zl (zn (zs (zr ?_))))
 refine zU ?_
 obtain ⟨r3, h4, h⟩ := zB h
 refine zc (bits_OnesCount32_con s1 _ h4) ?_
 refine zU (zl (zn (zq ?_)))
 cases h
 exact zT Tryz.results86
end Go.Proofs.YtjcdclpfeflfkaaGreatDoor
set_option linter.unusedVariables false
set_option linter.unusedSimpArgs false
namespace Go.Proofs.YtjcdclpfeflfkaaGreatDoor
open Go Go.Ab
set_option maxHeartbeats 4000000 in
theorem cmp_Or_int_con {D : Prop} (v1 : List Int) (r2 : Int) (h : cmp_Or_int v1 = some r2) : Con D Tryz.prog 154 [(.slc (List.map (PV.int .i64) v1))] (.int .i64 r2) := by
 refine zP Tryz.call154 Tryz.func154 rfl Tryz.ntmps154 fun X w hT => ?_
 simp only [cmp_Or_int] at h
 refine zs (zr ?_)
 refine zU (zl (zn (zs (zr ?_))))
 refine zU (zl (zn (zs (zs (zr ?_)))))
 refine zU (zl (zn (zb ?_)))
 obtain ⟨o3, h4, h⟩ := zB h
 refine zO (fun (s : Int) => ⟨[(3, .p (.int .i64 0)), (6, .p (.slc (List.map (PV.int .i64) v1))), (7, .p (.int .i64 (v1.length : Int))), (8, .p (.int .i64 s))], []⟩) (fun (o : (Unit) ⊕ (Int)) => match o with | .inl o5 => tE (cX Tryz.f154 X w D hT) (.exit 0) ⟨[(3, .p (.int .i64 0))], []⟩ | .inr o6 => tR Tryz.prog Tryz.f154 (.int .i64 o6)) h4 ?_ ?_
 clear h h4
 intro t7 x h
 simp only [cmp_Or_int_l1] at h
 refine zs (zr ?_)
 refine zU (zl (zn (zs ?_)))
 rcases zI h with ⟨h8, h⟩ | ⟨h8, h⟩
 refine zi (zk (zn (zs (zb (zs (zr ?_))))))
 obtain ⟨x9, h10, h10a, h10b, h⟩ := zX h
 refine zU (zl (zn (zs (zr ?_))))
 refine zU (zl (zn ?_))
 rcases zI h with ⟨h11, h⟩ | ⟨h11, h⟩
 refine zi (zs (zr ?_))
 refine zU (zl (zn (zq (yr (zt ?_)))))
 cases h
 exact ⟨rfl, zT Tryz.results154⟩
 refine zj (zk (yn (zn (zr ?_))))
 refine zU (zl ?_)
 cases h
 exact ⟨rfl, zE⟩
 refine zj (zx (ze ?_))
 cases h
 exact ⟨rfl, zE⟩
 rcases o3 with ⟨⟩ | r12
 try simp only at h
 refine zA (yh (zn (zs (zr ?_))))
 refine zU (zl (zn (zq ?_)))
 cases h
 exact zT Tryz.results154
 try simp only at h
 refine zZ fun s hq => ?_
 refine yr (zt ?_)
 cases h
 exact hq
end Go.Proofs.YtjcdclpfeflfkaaGreatDoor
set_option linter.unusedVariables false
set_option linter.unusedSimpArgs false
namespace Go.Proofs.YtjcdclpfeflfkaaGreatDoor
open Go Go.Ab
set_option maxHeartbeats 4000000 in
theorem cmp_isNaN_int_con {D : Prop} (x1 : Int) (r2 : Bool) (h : cmp_isNaN_int x1 = some r2) : Con D Tryz.prog 176 [(.int .i64 x1)] (.bool r2) := by
 refine zP Tryz.call176 Tryz.func176 rfl Tryz.ntmps176 fun X w hT => ?_
 simp only [cmp_isNaN_int] at h
 refine zs (zr ?_)
 refine zU (zl (zn (zs (zr ?_))))
 refine zU (zl (zn (zq ?_)))
 cases h
 exact zT Tryz.results176
end Go.Proofs.YtjcdclpfeflfkaaGreatDoor
set_option linter.unusedVariables false
set_option linter.unusedSimpArgs false
namespace Go.Proofs.YtjcdclpfeflfkaaGreatDoor
open Go Go.Ab
set_option maxHeartbeats 4000000 in
theorem cmp_Compare_int_con {D : Prop} (x1 : Int) (y2 : Int) (r3 : Int) (h : cmp_Compare_int x1 y2 = some r3) : Con D Tryz.prog 155 [(.int .i64 x1), (.int .i64 y2)] (.int .i64 r3) := by
 refine zP Tryz.call155 Tryz.func155 rfl Tryz.ntmps155 fun X w hT => ?_
 simp only [cmp_Compare_int] at h
 refine zs (zr ?_)
 refine zU (zl (zn (zs (zr ?_))))
 refine zU ?_
 obtain ⟨r4, h5, h⟩ := zB h
 refine zc (cmp_isNaN_int_con x1 _ h5) ?_
 refine zU (zl (zn (zs (zr ?_))))
 refine zU ?_
 obtain ⟨r6, h7, h⟩ := zB h
 refine zc (cmp_isNaN_int_con y2 _ h7) ?_
 refine zU (zl (zn (zs (zs (zr ?_)))))
 refine zU (zl (zn ?_))
 rcases zI h with ⟨h8, h⟩ | ⟨h8, h⟩
 refine zi (zs (zs (zr ?_)))
 refine zU (zl (zn ?_))
 rcases zI h with ⟨h9, h⟩ | ⟨h9, h⟩
 refine zi (zs (zr ?_))
 refine zU (zl (zn (zq (zt (zt ?_)))))
 cases h
 exact zT Tryz.results155
 refine zj (zk (zn (zs (zr ?_))))
 refine zU (zl (zn (zq (zt ?_))))
 cases h
 exact zT Tryz.results155
 refine zj (zk (zn (zs (zs (zr ?_)))))
 refine zU (zl (zn ?_))
 rcases zI h with ⟨h10, h⟩ | ⟨h10, h⟩
 refine zi (zs (zr ?_))
 refine zU (zl (zn (zq (zt ?_))))
 cases h
 exact zT Tryz.results155
 refine zj (zk (zn (zs (zs (zr ?_)))))
 refine zU (zl (zn ?_))
 rcases zI h with ⟨h11, h⟩ | ⟨h11, h⟩
 refine zi (zs (zr ?_))
 refine zU (zl (zn (zq (zt ?_))))
 cases h
 exact zT Tryz.results155
 refine zj (zk (zn (zs (zs (zr ?_)))))
 refine zU (zl (zn ?_))
 rcases zI h with ⟨h12, h⟩ | ⟨h12, h⟩
 refine zi (zs (zr ?_))
 refine zU (zl (zn (zq (zt ?_))))
 cases h
 exact zT Tryz.results155
 refine zj (zk (zn (zs (zr ?_))))
 refine zU (zl (zn (zq ?_)))
 cases h
 exact zT Tryz.results155
end Go.Proofs.YtjcdclpfeflfkaaGreatDoor
set_option linter.unusedVariables false
set_option linter.unusedSimpArgs false
namespace Go.Proofs.YtjcdclpfeflfkaaGreatDoor
open Go Go.Ab
set_option maxHeartbeats 4000000 in
theorem cmp_isNaN_Set_con {D : Prop} (x1 : Int) (r2 : Bool) (h : cmp_isNaN_Set x1 = some r2) : Con D Tryz.prog 177 [(.int .u32 x1)] (.bool r2) := by
 refine zP Tryz.call177 Tryz.func177 rfl Tryz.ntmps177 fun X w hT => ?_
 simp only [cmp_isNaN_Set] at h
 refine zs (zr ?_)
 refine zU (zl (zn (zs (zr ?_))))
 refine zU (zl (zn (zq ?_)))
 cases h
 exact zT Tryz.results177
end Go.Proofs.YtjcdclpfeflfkaaGreatDoor
set_option linter.unusedVariables false
set_option linter.unusedSimpArgs false
namespace Go.Proofs.YtjcdclpfeflfkaaGreatDoor
open Go Go.Ab
set_option maxHeartbeats 4000000 in
theorem cmp_Compare_Set_con {D : Prop} (x1 : Int) (y2 : Int) (r3 : Int) (h : cmp_Compare_Set x1 y2 = some r3) : Con D Tryz.prog 156 [(.int .u32 x1), (.int .u32 y2)] (.int .i64 r3) := by
 refine zP Tryz.call156 Tryz.func156 rfl Tryz.ntmps156 fun X w hT => ?_
 simp only [cmp_Compare_Set] at h
 refine zs (zr ?_)
 refine zU (zl (zn (zs (zr ?_))))
 refine zU ?_
 obtain ⟨r4, h5, h⟩ := zB h
 refine zc (cmp_isNaN_Set_con x1 _ h5) ?_
 refine zU (zl (zn (zs (zr ?_))))
 refine zU ?_
 obtain ⟨r6, h7, h⟩ := zB h
 refine zc (cmp_isNaN_Set_con y2 _ h7) ?_
 refine zU (zl (zn (zs (zs (zr ?_)))))
 refine zU (zl (zn ?_))
 rcases zI h with ⟨h8, h⟩ | ⟨h8, h⟩
 refine zi (zs (zs (zr ?_)))
 refine zU (zl (zn ?_))
 rcases zI h with ⟨h9, h⟩ | ⟨h9, h⟩
 refine zi (zs (zr ?_))
 refine zU (zl (zn (zq (zt (zt ?_)))))
 cases h
 exact zT Tryz.results156
 refine zj (zk (zn (zs (zr ?_))))
 refine zU (zl (zn (zq (zt ?_))))
 cases h
 exact zT Tryz.results156
 refine zj (zk (zn (zs (zs (zr ?_)))))
 refine zU (zl (zn ?_))
 rcases zI h with ⟨h10, h⟩ | ⟨h10, h⟩
 refine zi (zs (zr ?_))
 refine zU (zl (zn (zq (zt ?_))))
 cases h
 exact zT Tryz.results156
 refine zj (zk (zn (zs (zs (zr ?_)))))
 refine zU (zl (zn ?_))
 rcases zI h with ⟨h11, h⟩ | ⟨h11, h⟩
 refine zi (zs (zr ?_))
 refine zU (zl (zn (zq (zt ?_))))
 cases h
 exact zT Tryz.results156
 refine zj (zk (zn (zs (zs (zr ?_)))))
 refine zU (zl (zn ?_))
 rcases zI h with ⟨h12, h⟩ | ⟨h12, h⟩
 refine zi (zs (zr ?_))
 refine zU (zl (zn (zq (zt ?_))))
 cases h
 exact zT Tryz.results156
 refine zj (zk (zn (zs (zr ?_))))
 refine zU (zl (zn (zq ?_)))
 cases h
 exact zT Tryz.results156
end Go.Proofs.YtjcdclpfeflfkaaGreatDoor
set_option linter.unusedVariables false
set_option linter.unusedSimpArgs false
namespace Go.Proofs.YtjcdclpfeflfkaaGreatDoor
open Go Go.Ab
set_option maxHeartbeats 4000000 in
theorem attrset_compare_con {D : Prop} (a1 : Int) (b2 : Int) (r3 : Int) (h : attrset_compare a1 b2 = some r3) : Con D Tryz.prog 128 [(.int .u32 a1), (.int .u32 b2)] (.int .i64 r3) := by
 refine zP Tryz.call128 Tryz.func128 rfl Tryz.ntmps128 fun X w hT => ?_
 simp only [attrset_compare] at h
 refine zs (zr ?_)
 refine zU (zl (zn (zs (zr ?_))))
 refine zU ?_
 obtain ⟨r4, h5, h⟩ := zB h
 refine zc (attrset_Size_con a1 _ h5) ?_
 refine zU ?_
 obtain ⟨r6, h7, h⟩ := zB h
 refine zc (attrset_Size_con b2 _ h7) ?_
 obtain ⟨r8, h9, h⟩ := zB h
 refine zc (cmp_Compare_int_con r4 r6 _ h9) ?_
 refine zU ?_
 obtain ⟨r10, h11, h⟩ := zB h
 refine zc (cmp_Compare_Set_con a1 b2 _ h11) ?_
 refine zU ?_
 obtain ⟨r12, h13, h⟩ := zB h
 refine zc (cmp_Or_int_con [r8, r10] _ h13) ?_
 refine zU (zl (zn (zq ?_)))
 cases h
 exact zT Tryz.results128
end Go.Proofs.YtjcdclpfeflfkaaGreatDoor
set_option linter.unusedVariables false
set_option linter.unusedSimpArgs false
namespace Go.Proofs.YtjcdclpfeflfkaaGreatDoor
open Go Go.Ab
set_option maxHeartbeats 4000000 in
theorem attrset_Order_con {D : Prop} (l1 : List Int) (r2 : List Int) (h : attrset_Order l1 = some r2) : Con D Tryz.prog 87 [(.slc (List.map (PV.int .u32) l1))] (.slc (List.map (PV.int .u32) r2)) := by
 refine zP Tryz.call87 Tryz.func87 rfl Tryz.ntmps87 fun X w hT => ?_
 simp only [attrset_Order] at h
 refine zs (zr ?_)
 refine zU (zl (zn (zs (zr ?_))))
 refine zU ?_
 obtain ⟨h3, h⟩ := ite_some h
 refine zM ⟨[(4, .p (.slc (List.map (PV.int .u32) l1)))], []⟩ ?_
 refine AL_inline (avs := [.p (.slc (List.map (PV.int .u32) l1))]) 10 rfl (guard_none rfl) rfl Tryz.func126 rfl Tryz.call126 Tryz.ntmps126 (by simp) (by simp only [go_sem, seval, h3]; all_goals rfl) ?_
 intro i4 w5 h6
 refine awp_post (T := fun e s' => (e = .normal ∨ e = .ret) ∧ Le ⟨Tryz.prog, 8, 10, X, [], i4, w5, D, h6⟩ s' ⟨[(2, .own 15 1 0 l1.length)], [(15, .arr 27 1 1 (List.map AV.p (List.map (PV.int .u32) l1)))]⟩) ?_ ?_
 show AWp _ _ _ ⟨[(0, .p (.slc (List.map (PV.int .u32) l1)))], []⟩
 refine zs (zr ?_)
 refine zU (zl (zn (zs (zs (zr ?_)))))
 refine zW 1 ?_
 refine AL_nileq (by simp only [go_sem, seval, h3]; exact rfl) (by simp only [go_sem, seval, h3]) Tryz.underlying90 rfl ?_
 intro b hb
 refine zl (zn ?_)
 cases b
 refine zj (zk (zn (zs (zr ?_))))
 refine zU (zl (zn (zq ?_)))
 refine ⟨.inr rfl, ?_⟩
 exact zV
 refine zi ?_
 have h7 : l1 = [] := by
   rcases hz : l1 with _ | ⟨x, z⟩
   · rfl
   · rw [hz] at hb; exact absurd (hb (by simp)) (by simp)
 refine zs (zr ?_)
 refine zU (zl (zn (zq (zt ?_))))
 refine ⟨.inr rfl, ?_⟩
 exact zV
 intro e s' hT
 obtain ⟨he, hle⟩ := hT
 refine Wk.to hle ?_
 refine inlQ_any he (by simp only [Tryz.results126]; simp only [go_sem, seval, h3]; exact rfl) ?_
 clear hle he
 refine zU (zl (zn (zs (zr ?_))))
 refine zU ?_
 refine zM ⟨[(3, .own 15 1 0 l1.length), (6, .own 15 1 0 l1.length)], [(15, .arr 27 1 1 (List.map AV.p (List.map (PV.int .u32) l1)))]⟩ ?_
 obtain ⟨l8, h9, h⟩ := zB h
 refine zSF srt127 (PV.int .u32) (fun (y10 : Int) (y11 : Int) => attrset_compare y10 y11) h9 (fun y10 y11 r h => attrset_compare_con y10 y11 r h) ?_
 have h12 := srtF_len h9
 refine zM ⟨[(3, .own 15 1 0 l8.length), (7, .p (.tup []))], [(15, .arr 27 1 1 (List.map AV.p (List.map (PV.int .u32) l8)))]⟩ ?_
 clear h12
 refine zl (zn (zs (zr ?_)))
 refine zU ?_
 refine zM ⟨[(8, .own 15 1 0 l8.length)], [(15, .arr 27 1 1 (List.map AV.p (List.map (PV.int .u32) l8)))]⟩ ?_
 refine AL_inline (avs := [.own 15 1 0 l8.length]) 18 rfl (guard_none rfl) rfl Tryz.func129 rfl Tryz.call129 Tryz.ntmps129 (by simp) (by simp only [go_sem, seval, h3]; all_goals rfl) ?_
 intro i13 w14 h15
 show AWp _ _ _ ⟨[(0, .own 15 1 0 l8.length)], [(15, .arr 27 1 1 (List.map AV.p (List.map (PV.int .u32) l8)))]⟩
 refine zs (zr ?_)
 refine zU (zl (zn (zs (zs (zr ?_)))))
 refine zU (zl (zn ?_))
 rcases zI h with ⟨h16, h⟩ | ⟨h16, h⟩
 have h16T := eq_true h16
 refine zi (zs (zr ?_))
 refine zU (zl (zn (zq (zt ?_))))
 refine inlQ_ret (by simp only [Tryz.results129]; simp only [go_sem, seval, h3, h16T]; exact rfl) ?_
 refine zU (zl (zn (zq ?_)))
 cases h
 exact zT Tryz.results87
 have h16T := eq_false h16
 refine zj (zk (zn (zs (zs (zr ?_)))))
 refine zU (zl (zn (zb ?_)))
 obtain ⟨o17, h18, h⟩ := zB h
 refine zO (fun (s : Int) => ⟨[(0, .own 15 1 0 l8.length), (3, .p (.int .i64 s))], [(15, .arr 27 1 1 (List.map AV.p (List.map (PV.int .u32) l8)))]⟩) (fun (o : (Unit) ⊕ (List Int)) => match o with | .inl o19 => tE ⟨Tryz.prog, 61, 18, X, [(15, .arr 27 1 1 (List.map AV.p (List.map (PV.int .u32) l8)))], i13, w14, D, h15⟩ (.exit 0) ⟨[(0, .own 15 1 0 l8.length)], [(15, .arr 27 1 1 (List.map AV.p (List.map (PV.int .u32) l8)))]⟩ | .inr o20 => tE ⟨Tryz.prog, 61, 18, X, [(15, .arr 27 1 1 (List.map AV.p (List.map (PV.int .u32) l8)))], i13, w14, D, h15⟩ .ret ⟨[(2, .own 15 2 0 o20.length)], [(15, .arr 27 1 2 (List.map AV.p (List.map (PV.int .u32) o20)))]⟩) h18 ?_ ?_
 clear h h3 h9 h16 h16T h18
 intro k21 x h
 simp only [attrset_Order_l4] at h
 refine zs (zs (zr ?_))
 refine zU (zl (zn ?_))
 rcases zI h with ⟨h22, h⟩ | ⟨h22, h⟩
 refine zi (zk (zn (zs (zb (zs (zd ?_))))))
 obtain ⟨x23, h24, h24a, h24b, h⟩ := zX h
 obtain ⟨x25, h26, h26a, h26b, h⟩ := zX h
 refine yU ?_
 refine yd (zn ?_)
 rcases zI h with ⟨h27, h⟩ | ⟨h27, h⟩
 refine zi (zs (zr ?_))
 obtain ⟨h28, h⟩ := ite_some h
 obtain ⟨h29, h⟩ := ite_some h
 refine zU (zl (zn (zs (zs (zr ?_)))))
 refine zU (zl (zn (zb ?_)))
 obtain ⟨o30, h31, h⟩ := zB h
 refine zO (fun (s : List Int × Int × Int) => ⟨[(0, .own 15 1 0 s.1.length), (3, .p (.int .i64 s.2.1)), (4, .own 15 1 k21.toNat (l8.length - k21.toNat)), (5, .p (.int .i64 s.2.2))], [(15, .arr 27 1 1 (List.map AV.p (List.map (PV.int .u32) s.1)))]⟩) (fun (o32 : List Int × Int) => tE ⟨Tryz.prog, 61, 18, X, [(15, .arr 27 1 1 (List.map AV.p (List.map (PV.int .u32) l8)))], i13, w14, D, h15⟩ (.exit 2) ⟨[(0, .own 15 1 0 o32.1.length), (3, .p (.int .i64 o32.2))], [(15, .arr 27 1 1 (List.map AV.p (List.map (PV.int .u32) o32.1)))]⟩) h31 ?_ ?_
 clear h h22 h24 h24a h24b h26 h26a h26b h27 h28 h29 h31
 intro s x h
 obtain ⟨s33, k34, k35⟩ := s
 simp only [attrset_Order_l3] at h
 dsimp only
 refine zs (zs (zr ?_))
 refine zU (zl (zn ?_))
 rcases zI h with ⟨h36, h⟩ | ⟨h36, h⟩
 refine zi (zk (zn (zs (zb (zs (zd ?_))))))
 obtain ⟨x37, h38, h38a, h38b, h⟩ := zX h
 obtain ⟨h39, h39n⟩ := part_get h38
 have h39N := eq_true (part_lt h39n h38a)
 obtain ⟨x40, h41, h41a, h41b, h⟩ := zX h
 obtain ⟨h42, h42n⟩ := part_get h41
 have h42N := eq_true (part_lt h42n h41a)
 refine yU ?_
 refine yd (zn ?_)
 rcases zI h with ⟨h43, h⟩ | ⟨h43, h⟩
 refine zi (zs (zr ?_))
 obtain ⟨h44, h44n⟩ := part_get h38
 have h44N := eq_true (part_lt h44n h38a)
 obtain ⟨x45, h46, h46a, h46b, h⟩ := zX h
 refine zU (zl (zn (zr ?_)))
 refine zU (zl (yn (zn (zr ?_))))
 refine zU (zl ?_)
 cases h
 exact ⟨rfl, zE⟩
 refine zj (zk (yn (zn (zr ?_))))
 refine zU (zl ?_)
 cases h
 exact ⟨rfl, zE⟩
 refine zj (zx (ze ?_))
 cases h
 exact ⟨rfl, zE⟩
 obtain ⟨s47, k48⟩ := o30
 try simp only at h
 refine zA (yh (zn (zs (zr ?_))))
 obtain ⟨h49, h⟩ := ite_some h
 obtain ⟨h50, h⟩ := ite_some h
 refine zW 3 ?_
 refine zCl (PV.int .u32) s47 0 15 k48.toNat (s47.length - k48.toNat) (by simp only [List.length_set, List.length_append, List.length_replicate] at *; omega) ?_
 refine zl (zn (zs (zr ?_)))
 obtain ⟨h51, h⟩ := ite_some h
 obtain ⟨h52, h⟩ := ite_some h
 refine zU (zl (zn ?_))
 refine zL ⟨[(2, .own 15 1 0 k48.toNat)], [(15, .arr 27 1 1 (List.map AV.p (List.map (PV.int .u32) (((s47.take k48.toNat) ++ (List.replicate (s47.length - k48.toNat) 0)) ++ (s47.drop (k48.toNat + (s47.length - k48.toNat)))))))]⟩ ?_
 obtain ⟨l53, h54, h⟩ := zB h
 replace h54 := Option.some.inj h54
 rw [h54]
 obtain ⟨h55, h⟩ := ite_some h
 obtain ⟨l56, h57, h⟩ := zB h
 replace h57 := Option.some.inj h57
 have h57L : l56.length = k48.toNat := by rw [← h57]; exact List.length_take_of_le h55
 refine awp_shrink 2 15 1 k48.toNat 27 1 (es' := List.map AV.p (List.map (PV.int .u32) l56)) (by exact rfl) (by exact rfl) (by rw [← List.map_take, ← List.map_take, h57]) rfl ?_
 refine zL ⟨[(2, .own 15 2 0 l56.length)], [(15, .arr 27 1 2 (List.map AV.p (List.map (PV.int .u32) l56)))]⟩ ?_
 clear h57L h55
 refine zq (yr (zt ?_))
 cases h
 exact ⟨rfl, zE⟩
 refine zj (zk (yn (zn (zr ?_))))
 refine zU (zl ?_)
 cases h
 exact ⟨rfl, zE⟩
 refine zj (zx (ze ?_))
 cases h
 exact ⟨rfl, zE⟩
 rcases o17 with ⟨⟩ | t58
 try simp only at h
 refine zA (yh (zn (zs (zr ?_))))
 refine zU (zl (zn (zq ?_)))
 refine inlQ_ret (by simp only [Tryz.results129]; simp only [go_sem, seval, h3, h16T]; exact rfl) ?_
 refine zU (zl (zn (zq ?_)))
 cases h
 exact zT Tryz.results87
 try simp only at h
 refine zA (yr (zt ?_))
 refine inlQ_ret (by simp only [Tryz.results129]; simp only [go_sem, seval, h3, h16T]; exact rfl) ?_
 refine zU (zl (zn (zq ?_)))
 cases h
 exact zT Tryz.results87
end Go.Proofs.YtjcdclpfeflfkaaGreatDoor
set_option linter.unusedVariables false
set_option linter.unusedSimpArgs false
namespace Go.Proofs.YtjcdclpfeflfkaaGreatDoor
open Go Go.Ab
set_option maxHeartbeats 4000000 in
theorem attrset_Subsets_con {D : Prop} (s1 : Int) (r2 : List Int) (h : attrset_Subsets s1 = some r2) : Con D Tryz.prog 47 [(.int .u32 s1)] (.slc (List.map (PV.int .u32) r2)) := by
 refine zP Tryz.call47 Tryz.func47 rfl Tryz.ntmps47 fun X w hT => ?_
 simp only [attrset_Subsets] at h
 refine zs (zr ?_)
 refine zU (zl (zn (zs (zs (zr ?_)))))
 refine zU ?_
 obtain ⟨r3, h4, h⟩ := zB h
 refine zc (attrset_Size_con s1 _ h4) ?_
 refine zU (zl (zn ?_))
 rcases zI h with ⟨h5, h⟩ | ⟨h5, h⟩
 refine zi (zs (zr ?_))
 refine zU (zl (zn (zq (zt ?_))))
 cases h
 exact zT Tryz.results47
 refine zj (zk (zn (zs (zr ?_))))
 refine zU (zl (zn (zs (zs (zr ?_)))))
 refine zU (zl (zn (zb ?_)))
 obtain ⟨o6, h7, h⟩ := zB h
 refine zO (fun (s : List Int × Int) => ⟨[(0, .p (.int .u32 s1)), (3, .own 9 1 0 s.1.length), (4, .p (.int .u32 s.2))], [(9, .arr 27 1 1 (List.map AV.p (List.map (PV.int .u32) s.1)))]⟩) (fun (o8 : List Int) => tE (cX Tryz.f47 X w D hT) (.exit 0) ⟨[(3, .own 9 1 0 o8.length)], [(9, .arr 27 1 1 (List.map AV.p (List.map (PV.int .u32) o8)))]⟩) h7 ?_ ?_
 clear h h4 h5 h7
 intro s x h
 obtain ⟨o9, x10⟩ := s
 simp only [attrset_Subsets_l1] at h
 dsimp only
 refine zs (zs (zr ?_))
 refine zU (zl (zn ?_))
 rcases zI h with ⟨h11, h⟩ | ⟨h11, h⟩
 refine zi (zk (zn (zb (zs (zr ?_)))))
 refine zU (zl (zn (zr ?_)))
 obtain ⟨h12, h⟩ := ite_some h
 refine zU (zl (yn ?_))
 cases h
 exact ⟨rfl, zE⟩
 refine zj (zx (ze ?_))
 cases h
 exact ⟨rfl, zE⟩
 try simp only at h
 refine zA (yh (zn (zs (zr ?_))))
 refine zU ?_
 refine zM ⟨[(21, .p (.slc (List.map (PV.int .u32) o6)))], []⟩ ?_
 obtain ⟨r13, h14, h⟩ := zB h
 refine zc (attrset_Order_con o6 _ h14) ?_
 refine zU (zl (zn (zq ?_)))
 cases h
 exact zT Tryz.results47
end Go.Proofs.YtjcdclpfeflfkaaGreatDoor
set_option linter.unusedVariables false
set_option linter.unusedSimpArgs false
namespace Go.Proofs.YtjcdclpfeflfkaaGreatDoor
open Go Go.Ab
set_option maxHeartbeats 4000000 in
theorem slices_IndexFunc_Set_con {D : Prop} (s1 : List Int) (f2 : Int → Option (Bool)) (f2_k : FuncId) (f2_cs : List PV) (f2_h : ∀ (y3 : Int) (r4 : Bool), f2 y3 = some r4 → Con D Tryz.prog f2_k ((.int .u32 y3) :: f2_cs) (.bool r4)) (r5 : Int) (h : slices_IndexFunc_Set s1 f2 = some r5) : Con D Tryz.prog 88 [(.slc (List.map (PV.int .u32) s1)), .func (.func f2_k) f2_cs] (.int .i64 r5) := by
 refine zP Tryz.call88 Tryz.func88 rfl Tryz.ntmps88 fun X w hT => ?_
 simp only [slices_IndexFunc_Set] at h
 refine zs (zr ?_)
 refine zU (zl (zn (zs (zs (zr ?_)))))
 refine zU (zl (zn (zb ?_)))
 obtain ⟨o6, h7, h⟩ := zB h
 refine zO (fun (s : Int) => ⟨[(0, .p (.slc (List.map (PV.int .u32) s1))), (1, .p (.func (.func f2_k) f2_cs)), (7, .p (.int .i64 (s1.length : Int))), (8, .p (.int .i64 s))], []⟩) (fun (o : (Unit) ⊕ (Int)) => match o with | .inl o8 => tE (cX Tryz.f88 X w D hT) (.exit 0) ⟨[], []⟩ | .inr o9 => tR Tryz.prog Tryz.f88 (.int .i64 o9)) h7 ?_ ?_
 clear h h7
 intro t10 x h
 simp only [slices_IndexFunc_Set_l1] at h
 refine zs (zr ?_)
 refine zU (zl (zn (zs ?_)))
 rcases zI h with ⟨h11, h⟩ | ⟨h11, h⟩
 refine zi (zk (zn (zs (zb (zs (zr ?_))))))
 refine zU (zl (zn (zs (zr ?_))))
 obtain ⟨x12, h13, h13a, h13b, h⟩ := zX h
 refine zU ?_
 obtain ⟨r14, h15, h⟩ := zB h
 refine zc (f2_h x12 _ h15) ?_
 refine zl (zn ?_)
 rcases zI h with ⟨h16, h⟩ | ⟨h16, h⟩
 refine zi (zs (zr ?_))
 refine zU (zl (zn (zq (yr (zt ?_)))))
 cases h
 exact ⟨rfl, zT Tryz.results88⟩
 refine zj (zk (yn (zn (zr ?_))))
 refine zU (zl ?_)
 cases h
 exact ⟨rfl, zE⟩
 refine zj (zx (ze ?_))
 cases h
 exact ⟨rfl, zE⟩
 rcases o6 with ⟨⟩ | r17
 try simp only at h
 refine zA (yh (zn (zs (zr ?_))))
 refine zU (zl (zn (zq ?_)))
 cases h
 exact zT Tryz.results88
 try simp only at h
 refine zZ fun s hq => ?_
 refine yr (zt ?_)
 cases h
 exact hq
end Go.Proofs.YtjcdclpfeflfkaaGreatDoor
set_option linter.unusedVariables false
set_option linter.unusedSimpArgs false
namespace Go.Proofs.YtjcdclpfeflfkaaGreatDoor
open Go Go.Ab
set_option maxHeartbeats 4000000 in
theorem slices_ContainsFunc_Set_con {D : Prop} (s1 : List Int) (f2 : Int → Option (Bool)) (f2_k : FuncId) (f2_cs : List PV) (f2_h : ∀ (y3 : Int) (r4 : Bool), f2 y3 = some r4 → Con D Tryz.prog f2_k ((.int .u32 y3) :: f2_cs) (.bool r4)) (r5 : Bool) (h : slices_ContainsFunc_Set s1 f2 = some r5) : Con D Tryz.prog 48 [(.slc (List.map (PV.int .u32) s1)), .func (.func f2_k) f2_cs] (.bool r5) := by
 refine zP Tryz.call48 Tryz.func48 rfl Tryz.ntmps48 fun X w hT => ?_
 simp only [slices_ContainsFunc_Set] at h
 refine zs (zr ?_)
 refine zU (zl (zn (zs (zr ?_))))
 refine zU ?_
 obtain ⟨r6, h7, h⟩ := zB h
 refine zc (slices_IndexFunc_Set_con s1 f2 f2_k f2_cs f2_h _ h7) ?_
 refine zU (zl (zn (zq ?_)))
 cases h
 exact zT Tryz.results48
end Go.Proofs.YtjcdclpfeflfkaaGreatDoor
set_option linter.unusedVariables false
set_option linter.unusedSimpArgs false
namespace Go.Proofs.YtjcdclpfeflfkaaGreatDoor
open Go Go.Ab
set_option maxHeartbeats 4000000 in
theorem approx_Minimal_1_con {D : Prop} (m1 : Int) (c2 : Int) (r3 : Bool) (h : approx_Minimal_1 m1 c2 = some r3) : Con D Tryz.prog 49 [(.int .u32 m1), .imm [.int .u32 c2]] (.bool r3) := by
 refine zP Tryz.call49 Tryz.func49 rfl Tryz.ntmps49 fun X w hT => ?_
 simp only [approx_Minimal_1] at h
 refine zs (zr ?_)
 refine zU (zl (zn (zs (zr ?_))))
 refine zU (zl (zn (zq ?_)))
 cases h
 exact zT Tryz.results49
end Go.Proofs.YtjcdclpfeflfkaaGreatDoor
set_option linter.unusedVariables false
set_option linter.unusedSimpArgs false
namespace Go.Proofs.YtjcdclpfeflfkaaGreatDoor
open Go Go.Ab
set_option maxRecDepth 20000 in
set_option maxHeartbeats 4000000 in
theorem approx_Minimal_con (t1 : Table) (m2 : Int) (m3 : Ratio) (r4 : List FD × Int) (h : approx_Minimal t1 m2 m3 = some r4) : Con False Tryz.prog 18 [(encTable t1), (.int .i64 m2), (encRatio m3)] (.tup [(.slc (List.map encFD r4.1)), (.int .i64 r4.2)]) := by
 refine zP Tryz.call18 Tryz.func18 rfl Tryz.ntmps18 fun X w hT => ?_
 simp only [approx_Minimal] at h
 refine zs (zr ?_)
 refine zU (zl (zn (zs (zs (zr ?_)))))
 refine zU ?_
 obtain ⟨r5, h6, h⟩ := zB h
 refine zc (approx_known_con t1 [] _ h6) ?_
 refine zU (zl (zn (zs (zr ?_))))
 refine zU (zl (zn ?_))
 rcases zI h with ⟨h7, h⟩ | ⟨h7, h⟩
 refine zi (zs (zr ?_))
 refine zU (zl (zn (zq (zt ?_))))
 cases h
 exact zT Tryz.results18
 refine zj (zk (zn (zs (zr ?_))))
 refine zU (zl (zn (zs (zs (zr ?_)))))
 refine zU (zl (zn ?_))
 rcases zI h with ⟨h8, h⟩ | ⟨h8, h⟩
 refine zi (zs (zr ?_))
 refine zU (zl (zn (zq (zt ?_))))
 cases h
 exact zT Tryz.results18
 refine zj (zk (zn (zs (zs (zr ?_)))))
 refine zU ?_
 obtain ⟨r9, h10, h⟩ := zB h
 refine zc (approx_measures_con m2 _ h10) ?_
 refine zU ?_
 rcases zI h with ⟨h11, h⟩ | ⟨h11, h⟩
 refine zw 29 false ?_
 refine zg ?_
 obtain ⟨r12, h13, h⟩ := zB h
 refine zc (ratio_Valid_con m3 _ h13) ?_
 refine zg ?_
 refine zU (zl (zn ?_))
 rcases zI h with ⟨h14, h⟩ | ⟨h14, h⟩
 refine zj (zk (zn (zs (zr ?_))))
 obtain ⟨h15, h⟩ := ite_some h
 obtain ⟨h16, h⟩ := ite_some h
 refine zW 2 ?_
 refine zM ⟨[(1, .p (.int .i64 m2)), (3, .loc 3 1 0 0), (5, .loc 5 1 0 0), (9, .p (.int .i64 (t1.Attrs.length : Int))), (35, .own 35 1 0 ((List.replicate t1.Attrs.length ([] : List Int))).length)], ((3, .arr 25 3 1 [.p (encTable t1)]) :: (5, .arr 47 2 1 [.p (encRatio m3)]) :: (35, .arr 90 1 1 (famR 35 27 1 1 (PV.int .u32) (List.replicate t1.Attrs.length ([] : List Int)))) :: famL 35 27 1 1 (PV.int .u32) (List.replicate t1.Attrs.length ([] : List Int)) [])⟩ ?_
 refine zU (zl (zn (zs (zr ?_))))
 refine zU (zl (zn (zs (zs (zr ?_)))))
 obtain ⟨h17, h⟩ := ite_none h
 refine zU ?_
 obtain ⟨r18, h19, h⟩ := zB h
 refine zc (attrset_Subsets_con (IntKind.u32.wrap ((IntKind.u32.wrap (1 * 2 ^ (min ((t1.Attrs.length : Int)).toNat 32))) - 1)) _ h19) ?_
 refine zU (zl (zn (zb ?_)))
 obtain ⟨o20, h21, h⟩ := zB h
 refine zO (fun (s : List (List Int) × List FD × Int) => ⟨[(1, .p (.int .i64 m2)), (3, .loc 3 1 0 0), (5, .loc 5 1 0 0), (9, .p (.int .i64 (t1.Attrs.length : Int))), (10, .own 35 1 0 s.1.length), (11, .own 86 1 0 s.2.1.length), (39, .p (.slc (List.map (PV.int .u32) r18))), (40, .p (.int .i64 (r18.length : Int))), (41, .p (.int .i64 s.2.2))], ((3, .arr 25 3 1 [.p (encTable t1)]) :: (5, .arr 47 2 1 [.p (encRatio m3)]) :: (35, .arr 90 1 1 (famR 35 27 1 1 (PV.int .u32) s.1)) :: (86, .arr 29 2 1 (List.map AV.p (List.map encFD s.2.1))) :: famL 35 27 1 1 (PV.int .u32) s.1 [])⟩) (fun (o22 : List FD) => tE (cX Tryz.f18 X w False hT) (.exit 0) ⟨[(11, .own 86 1 0 o22.length)], [(86, .arr 29 2 1 (List.map AV.p (List.map encFD o22)))]⟩) h21 ?_ ?_
 clear h h6 h7 h8 h10 h11 h13 h14 h15 h16 h17 h19 h21
 intro s x h
 obtain ⟨f23, o24, t25⟩ := s
 simp only [approx_Minimal_l4] at h
 dsimp only
 refine zs (zr ?_)
 refine zU (zl (zn (zs ?_)))
 rcases zI h with ⟨h26, h⟩ | ⟨h26, h⟩
 refine zi (zk (zn (zs (zb (zs (zr ?_))))))
 obtain ⟨x27, h28, h28a, h28b, h⟩ := zX h
 refine zU (zl (zn (zs (zr ?_))))
 refine zU (zl (zn (zb ?_)))
 obtain ⟨o29, h30, h⟩ := zB h
 refine zO (fun (s : List (List Int) × List FD × Int) => ⟨[(1, .p (.int .i64 m2)), (3, .loc 3 1 0 0), (5, .loc 5 1 0 0), (9, .p (.int .i64 (t1.Attrs.length : Int))), (10, .own 35 1 0 s.1.length), (11, .own 86 1 0 s.2.1.length), (13, .loc 13 1 0 0), (39, .p (.slc (List.map (PV.int .u32) r18))), (40, .p (.int .i64 (r18.length : Int))), (41, .p (.int .i64 t25)), (45, .p (.int .i64 (t1.Attrs.length : Int))), (46, .p (.int .i64 s.2.2))], ((3, .arr 25 3 1 [.p (encTable t1)]) :: (5, .arr 47 2 1 [.p (encRatio m3)]) :: (13, .arr 27 1 1 [.p (.int .u32 x27)]) :: (35, .arr 90 1 1 (famR 35 27 1 1 (PV.int .u32) s.1)) :: (86, .arr 29 2 1 (List.map AV.p (List.map encFD s.2.1))) :: famL 35 27 1 1 (PV.int .u32) s.1 [])⟩) (fun (o31 : List (List Int) × List FD) => tE (cX Tryz.f18 X w False hT) (.exit 2) ⟨[(1, .p (.int .i64 m2)), (3, .loc 3 1 0 0), (5, .loc 5 1 0 0), (9, .p (.int .i64 (t1.Attrs.length : Int))), (10, .own 35 1 0 o31.1.length), (11, .own 86 1 0 o31.2.length), (39, .p (.slc (List.map (PV.int .u32) r18))), (40, .p (.int .i64 (r18.length : Int))), (41, .p (.int .i64 t25))], ((3, .arr 25 3 1 [.p (encTable t1)]) :: (5, .arr 47 2 1 [.p (encRatio m3)]) :: (35, .arr 90 1 1 (famR 35 27 1 1 (PV.int .u32) o31.1)) :: (86, .arr 29 2 1 (List.map AV.p (List.map encFD o31.2))) :: famL 35 27 1 1 (PV.int .u32) o31.1 [])⟩) h30 ?_ ?_
 clear h h26 h28 h28a h28b h30
 intro s x h
 obtain ⟨f32, o33, t34⟩ := s
 simp only [approx_Minimal_l3] at h
 dsimp only
 refine zs (zr ?_)
 refine zU (zl (zn (zs ?_)))
 rcases zI h with ⟨h35, h⟩ | ⟨h35, h⟩
 refine zi (zk (zn (zs (zb (zs (zr ?_))))))
 refine zU (zl (zn (zs (zs (zr ?_)))))
 obtain ⟨h36, h⟩ := ite_none h
 refine zU ?_
 rcases zI h with ⟨h37, h⟩ | ⟨h37, h⟩
 refine zw 54 true ?_
 refine zh ?_
 refine zU (zl (zn ?_))
 refine zi (zx (ze (yh (zn (zr ?_)))))
 refine zU (zl ?_)
 cases h
 exact ⟨rfl, zE⟩
 refine zw 54 false ?_
 refine zg ?_
 refine zg ?_
 obtain ⟨x38, h39, h39a, h39b, h⟩ := zX h
 refine zg ?_
 refine zg ?_
 refine zg ?_
 obtain ⟨r40, h41, h⟩ := zB h
 refine zc (slices_ContainsFunc_Set_con x38 (fun (y42 : Int) => approx_Minimal_1 y42 x27) 49 [.imm [.int .u32 x27]] (fun y42 r h => approx_Minimal_1_con y42 x27 r h) _ h41) ?_
 refine zU (zl (zn ?_))
 rcases zI h with ⟨h43, h⟩ | ⟨h43, h⟩
 refine zi (zx (ze (yh (zn (zr ?_)))))
 refine zU (zl ?_)
 cases h
 exact ⟨rfl, zE⟩
 refine zj (zk (zn (zs (zd ?_))))
 refine yU ?_
 refine ydS ?_
 refine zn (zs (zd ?_))
 refine yU ?_
 obtain ⟨r44, h45, h⟩ := zB h
 refine yc (approx_measured_con t1 (FD.mk x27 (IntKind.u32.wrap (1 * 2 ^ (min (t34).toNat 32)))) m2 _ h45) ?_
 refine yU ?_
 obtain ⟨r46, h47, h⟩ := zB h
 refine yc (ratio_Cmp_con r44 m3 _ h47) ?_
 refine yU ?_
 refine ydS ?_
 refine zn ?_
 rcases zI h with ⟨h48, h⟩ | ⟨h48, h⟩
 refine zi (zs ?_)
 refine zdl 9 ?_
 obtain ⟨h49, h⟩ := ite_some h
 refine yU ?_
 refine ydlS ?_
 refine zW 2 ?_
 refine zM ⟨[(1, .p (.int .i64 m2)), (3, .loc 3 1 0 0), (5, .loc 5 1 0 0), (9, .p (.int .i64 (t1.Attrs.length : Int))), (10, .own 35 1 0 ((f32.set t34.toNat (x38 ++ [x27]))).length), (11, .own 86 1 0 o33.length), (13, .loc 13 1 0 0), (15, .loc 15 1 0 0), (39, .p (.slc (List.map (PV.int .u32) r18))), (40, .p (.int .i64 (r18.length : Int))), (41, .p (.int .i64 t25)), (45, .p (.int .i64 (t1.Attrs.length : Int))), (46, .p (.int .i64 t34))], ((3, .arr 25 3 1 [.p (encTable t1)]) :: (5, .arr 47 2 1 [.p (encRatio m3)]) :: (13, .arr 27 1 1 [.p (.int .u32 x27)]) :: (15, .arr 29 2 1 [.p (.agg [.int .u32 x27, .int .u32 (IntKind.u32.wrap (1 * 2 ^ (min (t34).toNat 32)))])]) :: (35, .arr 90 1 1 (famR 35 27 1 1 (PV.int .u32) (f32.set t34.toNat (x38 ++ [x27])))) :: (86, .arr 29 2 1 (List.map AV.p (List.map encFD o33))) :: famL 35 27 1 1 (PV.int .u32) (f32.set t34.toNat (x38 ++ [x27])) [])⟩ ?_
 refine zl (zn (zr ?_))
 obtain ⟨h50, h⟩ := ite_some h
 refine zU (zl (yn (zn (zr ?_))))
 refine zU (zl ?_)
 cases h
 exact ⟨rfl, zE⟩
 refine zj (zk (yn (zn (zr ?_))))
 refine zU (zl ?_)
 cases h
 exact ⟨rfl, zE⟩
 refine zj (zx (ze ?_))
 cases h
 exact ⟨rfl, zE⟩
 obtain ⟨f51, o52⟩ := o29
 try simp only at h
 refine zA (yh (yn (zn (zr ?_))))
 refine zU (zl ?_)
 cases h
 exact ⟨rfl, zE⟩
 refine zj (zx (ze ?_))
 cases h
 exact ⟨rfl, zE⟩
 try simp only at h
 refine zA (yh (zn (zs (zr ?_))))
 refine zU (zl (zn (zq ?_)))
 cases h
 exact zT Tryz.results18
 refine zi (zs (zr ?_))
 refine zU (zl (zn (zq (zt ?_))))
 cases h
 exact zT Tryz.results18
 refine zw 29 true ?_
 refine zh ?_
 refine zU (zl (zn ?_))
 refine zi (zs (zr ?_))
 refine zU (zl (zn (zq (zt ?_))))
 cases h
 exact zT Tryz.results18
end Go.Proofs.YtjcdclpfeflfkaaGreatDoor
set_option linter.unusedVariables false
set_option linter.unusedSimpArgs false
namespace Go.Proofs.YtjcdclpfeflfkaaGreatDoor
open Go Go.Ab
set_option maxHeartbeats 4000000 in
theorem drossref09_Same_con {D : Prop} (a1 : List FD) (b2 : List FD) (r3 : Bool) (h : drossref09_Same a1 b2 = some r3) : Con D Tryz.prog 20 [(.slc (List.map encFD a1)), (.slc (List.map encFD b2))] (.bool r3) := by
 refine zP Tryz.call20 Tryz.func20 rfl Tryz.ntmps20 fun X w hT => ?_
 simp only [drossref09_Same] at h
 refine zs (zr ?_)
 refine zU (zl (zn (zs (zs (zr ?_)))))
 refine zU (zl (zn ?_))
 rcases zI h with ⟨h4, h⟩ | ⟨h4, h⟩
 refine zi (zs (zr ?_))
 refine zU (zl (zn (zq (zt ?_))))
 cases h
 exact zT Tryz.results20
 refine zj (zk (zn (zs (zs (zr ?_)))))
 refine zU (zl (zn (zb ?_)))
 obtain ⟨o5, h6, h⟩ := zB h
 refine zO (fun (s : Int) => ⟨[(0, .p (.slc (List.map encFD a1))), (1, .p (.slc (List.map encFD b2))), (5, .p (.int .i64 s))], []⟩) (fun (o : (Unit) ⊕ (Bool)) => match o with | .inl o7 => tE (cX Tryz.f20 X w D hT) (.exit 0) ⟨[], []⟩ | .inr o8 => tR Tryz.prog Tryz.f20 (.bool o8)) h6 ?_ ?_
 clear h h4 h6
 intro i9 x h
 simp only [drossref09_Same_l1] at h
 refine zs (zs (zr ?_))
 refine zU (zl (zn ?_))
 rcases zI h with ⟨h10, h⟩ | ⟨h10, h⟩
 refine zi (zk (zn (zs (zb (zs (zd ?_))))))
 obtain ⟨x11, h12, h12a, h12b, h⟩ := zX h
 obtain ⟨x13, h14, h14a, h14b, h⟩ := zX h
 refine yU ?_
 refine yd (zn ?_)
 rcases zI h with ⟨h15, h⟩ | ⟨h15, h⟩
 refine zj (zk (yn (zn (zr ?_))))
 refine zU (zl ?_)
 cases h
 exact ⟨rfl, zE⟩
 refine zi (zs (zr ?_))
 refine zU (zl (zn (zq (yr (zt ?_)))))
 cases h
 exact ⟨rfl, zT Tryz.results20⟩
 refine zj (zx (ze ?_))
 cases h
 exact ⟨rfl, zE⟩
 rcases o5 with ⟨⟩ | r16
 try simp only at h
 refine zA (yh (zn (zs (zr ?_))))
 refine zU (zl (zn (zq ?_)))
 cases h
 exact zT Tryz.results20
 try simp only at h
 refine zZ fun s hq => ?_
 refine yr (zt ?_)
 cases h
 exact hq
end Go.Proofs.YtjcdclpfeflfkaaGreatDoor
set_option linter.unusedVariables false
set_option linter.unusedSimpArgs false
namespace Go.Proofs.YtjcdclpfeflfkaaGreatDoor
open Go Go.Ab
set_option maxHeartbeats 4000000 in
theorem drossref03_Wide_con {D : Prop} (x1 : Drossref03_Recipe) (n2 : Int) (r3 : Table) (h : drossref03_Wide x1 n2 = some r3) : Con D Tryz.prog 55 [(encDrossref03_Recipe x1), (.int .i64 n2)] (encTable r3) := by
 refine zP Tryz.call55 Tryz.func55 rfl Tryz.ntmps55 fun X w hT => ?_
 simp only [drossref03_Wide] at h
 refine zs (zr ?_)
 refine zU (zl (zn (zs (zr ?_))))
 obtain ⟨h4, h⟩ := ite_some h
 obtain ⟨h5, h⟩ := ite_some h
 refine zW 4 ?_
 obtain ⟨l6, h7, h⟩ := zB h
 replace h7 := Option.some.inj h7
 refine AL_le (st' := ⟨[(1, .p (.int .i64 n2)), (2, .loc 2 1 0 0), (4, .loc 4 1 0 0), (10, .own 10 1 0 0), (13, .own 11 1 0 n2.toNat)], [(2, .arr 54 3 1 [.p (encDrossref03_Recipe x1)]), (4, .arr 25 3 1 [.agg [.p (.str []), .nils, .nils]]), (10, .arr 9 1 1 []), (11, .arr 9 1 1 (List.map AV.p (List.map PV.str l6)))]⟩) (by simp only [go_sem, seval, ← h7]; all_goals ((repeat' refine And.intro ?_ ?_) <;> first | rfl | (simp; done) | (simp; rfl) | (simp [*]; done) | (simp [*]; rfl))) ?_
 have h7n : l6.length = 8 := by rw [← h7]; rfl
 clear h7
 obtain ⟨h8, h⟩ := ite_some h
 refine zU (zl (zn (zs (zs (zr ?_)))))
 refine zU (zl (zn (zb ?_)))
 obtain ⟨t9, h10, h⟩ := zB h
 refine zO (fun (s : List Row × Int) => ⟨[(1, .p (.int .i64 n2)), (2, .loc 2 1 0 0), (4, .loc 4 1 0 0), (5, .loc 5 1 0 0), (6, .p (.int .i64 s.2))], [(2, .arr 54 3 1 [.p (encDrossref03_Recipe x1)]), (4, .arr 25 3 1 [.agg [.p (.str []), .nils, .nils]]), (5, .arr 25 3 1 [.agg [.p (.str [114]), .own 10 1 0 ((l6.take n2.toNat)).length, .own 64 1 0 s.1.length]]), (10, .arr 9 1 1 (List.map AV.p (List.map PV.str (l6.take n2.toNat)))), (64, .arr 71 2 1 (List.map AV.p (List.map encRow s.1)))]⟩) (fun (o11 : List Row) => tE (cX Tryz.f55 X w D hT) (.exit 0) ⟨[(4, .loc 4 1 0 0), (5, .loc 5 1 0 0)], [(4, .arr 25 3 1 [.agg [.p (.str []), .nils, .nils]]), (5, .arr 25 3 1 [.agg [.p (.str [114]), .own 10 1 0 ((l6.take n2.toNat)).length, .own 64 1 0 o11.length]]), (10, .arr 9 1 1 (List.map AV.p (List.map PV.str (l6.take n2.toNat)))), (64, .arr 71 2 1 (List.map AV.p (List.map encRow o11)))]⟩) h10 ?_ ?_
 clear h h4 h5 h7n h8 h10
 intro s x h
 obtain ⟨t12, i13⟩ := s
 simp only [drossref03_Wide_l4] at h
 dsimp only
 refine zs (zs (zr ?_))
 refine zU (zl (zn ?_))
 rcases zI h with ⟨h14, h⟩ | ⟨h14, h⟩
 refine zi (zk (zn (zs (zb (zs (zr ?_))))))
 refine zU (zl (zn (zs (zs (zr ?_)))))
 refine zU (zl (zn (zb ?_)))
 obtain ⟨r15, h16, h⟩ := zB h
 refine zO (fun (s : List Value × Int) => ⟨[(1, .p (.int .i64 n2)), (2, .loc 2 1 0 0), (4, .loc 4 1 0 0), (5, .loc 5 1 0 0), (6, .p (.int .i64 i13)), (7, .loc 7 1 0 0), (8, .p (.int .i64 s.2))], [(2, .arr 54 3 1 [.p (encDrossref03_Recipe x1)]), (4, .arr 25 3 1 [.agg [.p (.str []), .nils, .nils]]), (5, .arr 25 3 1 [.agg [.p (.str [114]), .own 10 1 0 ((l6.take n2.toNat)).length, .own 64 1 0 t12.length]]), (7, .arr 71 2 1 [.agg [.p (.int .i64 (IntKind.i64.wrap (1 + (IntKind.i64.wrap (i13 * (IntKind.i64.wrap (1 + (IntKind.i64.wrap (Int.tmod x1.Gap 3))))))))), .own 58 1 0 s.1.length]]), (10, .arr 9 1 1 (List.map AV.p (List.map PV.str (l6.take n2.toNat)))), (58, .arr 138 3 1 (List.map AV.p (List.map encValue s.1))), (64, .arr 71 2 1 (List.map AV.p (List.map encRow t12)))]⟩) (fun (o17 : List Value) => tE (cX Tryz.f55 X w D hT) (.exit 2) ⟨[(1, .p (.int .i64 n2)), (2, .loc 2 1 0 0), (4, .loc 4 1 0 0), (5, .loc 5 1 0 0), (6, .p (.int .i64 i13)), (7, .loc 7 1 0 0)], [(2, .arr 54 3 1 [.p (encDrossref03_Recipe x1)]), (4, .arr 25 3 1 [.agg [.p (.str []), .nils, .nils]]), (5, .arr 25 3 1 [.agg [.p (.str [114]), .own 10 1 0 ((l6.take n2.toNat)).length, .own 64 1 0 t12.length]]), (7, .arr 71 2 1 [.agg [.p (.int .i64 (IntKind.i64.wrap (1 + (IntKind.i64.wrap (i13 * (IntKind.i64.wrap (1 + (IntKind.i64.wrap (Int.tmod x1.Gap 3))))))))), .own 58 1 0 o17.length]]), (10, .arr 9 1 1 (List.map AV.p (List.map PV.str (l6.take n2.toNat)))), (58, .arr 138 3 1 (List.map AV.p (List.map encValue o17))), (64, .arr 71 2 1 (List.map AV.p (List.map encRow t12)))]⟩) h16 ?_ ?_
 clear h h14 h16
 intro s x h
 obtain ⟨r18, k19⟩ := s
 simp only [drossref03_Wide_l3] at h
 dsimp only
 refine zs (zs (zr ?_))
 refine zU (zl (zn ?_))
 rcases zI h with ⟨h20, h⟩ | ⟨h20, h⟩
 refine zi (zk (zn (zs (zb (zs (zr ?_))))))
 refine zU (zl (zn (zs (zs (zr ?_)))))
 obtain ⟨x21, h22, h22a, h22b, h⟩ := zX h
 refine zU (zl (zn ?_))
 rcases zI h with ⟨h23, h⟩ | ⟨h23, h⟩
 refine zi (zr ?_)
 obtain ⟨x24, h25, h25a, h25b, h⟩ := zX h
 refine zU (zl (zn (zd ?_)))
 refine yU ?_
 obtain ⟨r26, h27, h⟩ := zB h
 refine yc (drossref01_Of_con x24 _ h27) ?_
 obtain ⟨h28, h⟩ := ite_some h
 refine yU ?_
 refine yd (yn (zn (zr ?_)))
 refine zU (zl ?_)
 cases h
 exact ⟨rfl, zE⟩
 refine zj (zk (zn (zd ?_)))
 refine yU ?_
 obtain ⟨r29, h30, h⟩ := zB h
 refine yc (drossref01_Of_con 0 _ h30) ?_
 obtain ⟨h31, h⟩ := ite_some h
 refine yU ?_
 refine yd (yn (zn (zr ?_)))
 refine zU (zl ?_)
 cases h
 exact ⟨rfl, zE⟩
 refine zj (zx (ze ?_))
 cases h
 exact ⟨rfl, zE⟩
 try simp only at h
 refine zA (yh (zn (zr ?_)))
 refine zW 4 ?_
 refine zM ⟨[(1, .p (.int .i64 n2)), (2, .loc 2 1 0 0), (4, .loc 4 1 0 0), (5, .loc 5 1 0 0), (6, .p (.int .i64 i13)), (61, .own 64 1 0 t12.length), (63, .own 63 1 0 1)], [(2, .arr 54 3 1 [.p (encDrossref03_Recipe x1)]), (4, .arr 25 3 1 [.agg [.p (.str []), .nils, .nils]]), (5, .arr 25 3 1 [.agg [.p (.str [114]), .own 10 1 0 ((l6.take n2.toNat)).length, .own 64 1 0 t12.length]]), (10, .arr 9 1 1 (List.map AV.p (List.map PV.str (l6.take n2.toNat)))), (63, .arr 71 2 1 [.p (.agg [.int .i64 (IntKind.i64.wrap (1 + (IntKind.i64.wrap (i13 * (IntKind.i64.wrap (1 + (IntKind.i64.wrap (Int.tmod x1.Gap 3)))))))), .slc (List.map encValue r15)])]), (64, .arr 71 2 1 (List.map AV.p (List.map encRow t12)))]⟩ ?_
 obtain ⟨h32, h⟩ := ite_some h
 refine zU (zl (yn (zn (zr ?_))))
 refine zU (zl ?_)
 cases h
 exact ⟨rfl, zE⟩
 refine zj (zx (ze ?_))
 cases h
 exact ⟨rfl, zE⟩
 try simp only at h
 refine zA (yh (zn (zs (zr ?_))))
 refine zU (zl (zn (zq ?_)))
 cases h
 exact zT Tryz.results55
end Go.Proofs.YtjcdclpfeflfkaaGreatDoor
set_option linter.unusedVariables false
set_option linter.unusedSimpArgs false
namespace Go.Proofs.YtjcdclpfeflfkaaGreatDoor
open Go Go.Ab
set_option maxHeartbeats 4000000 in
theorem drossref03_Table_con {D : Prop} (x1 : Drossref03_Recipe) (m2 : Int) (r3 : Table × Bool) (h : drossref03_Table x1 m2 = some r3) : Con D Tryz.prog 21 [(encDrossref03_Recipe x1), (.int .i64 m2)] (.tup [(encTable r3.1), (.bool r3.2)]) := by
 refine zP Tryz.call21 Tryz.func21 rfl Tryz.ntmps21 fun X w hT => ?_
 simp only [drossref03_Table] at h
 refine zs (zr ?_)
 refine zU (zl (zn (zs (zs (zr ?_)))))
 refine zU (zl (zn ?_))
 rcases zI h with ⟨h4, h⟩ | ⟨h4, h⟩
 refine zi (zs (zr ?_))
 refine zU (zl (zn (zq (zt ?_))))
 cases h
 exact zT Tryz.results21
 refine zj (zk (zn (zs (zr ?_))))
 refine zU ?_
 obtain ⟨r5, h6, h⟩ := zB h
 refine zc (drossref03_Wide_con x1 (IntKind.i64.wrap (Int.tmod x1.Attrs 6)) _ h6) ?_
 refine zU (zl (zn (zq ?_)))
 cases h
 exact zT Tryz.results21
end Go.Proofs.YtjcdclpfeflfkaaGreatDoor
set_option linter.unusedVariables false
set_option linter.unusedSimpArgs false
namespace Go.Proofs.YtjcdclpfeflfkaaGreatDoor
open Go Go.Ab
set_option maxHeartbeats 4000000 in
theorem drossref02_Has_con {D : Prop} (s1 : Int) (i2 : Int) (r3 : Bool) (h : drossref02_Has s1 i2 = some r3) : Con D Tryz.prog 112 [(.int .u32 s1), (.int .i64 i2)] (.bool r3) := by
 refine zP Tryz.call112 Tryz.func112 rfl Tryz.ntmps112 fun X w hT => ?_
 simp only [drossref02_Has] at h
 refine zs (zr ?_)
 refine zU (zl (zn (zs (zr ?_))))
 refine zU ?_
 rcases zI h with ⟨h4, h⟩ | ⟨h4, h⟩
 refine zw 7 true ?_
 refine zg ?_
 refine zg ?_
 refine zU ?_
 rcases zI h with ⟨h5, h⟩ | ⟨h5, h⟩
 refine zw 11 true ?_
 refine zg ?_
 refine zg ?_
 obtain ⟨h6, h⟩ := ite_none h
 replace h := h.symm
 refine zg ?_
 refine zg ?_
 refine zg ?_
 refine zU (zl (zn (zq ?_)))
 cases h
 exact zT Tryz.results112
 refine zw 11 false ?_
 refine zh ?_
 refine zU (zl (zn (zq ?_)))
 cases h
 exact zT Tryz.results112
 refine zw 7 false ?_
 refine zh ?_
 refine zU ?_
 refine zh ?_
 refine zU (zl (zn (zq ?_)))
 cases h
 exact zT Tryz.results112
end Go.Proofs.YtjcdclpfeflfkaaGreatDoor
set_option linter.unusedVariables false
set_option linter.unusedSimpArgs false
namespace Go.Proofs.YtjcdclpfeflfkaaGreatDoor
open Go Go.Ab
set_option maxHeartbeats 4000000 in
theorem drossref02_Members_con {D : Prop} (s1 : Int) (r2 : List Int) (h : drossref02_Members s1 = some r2) : Con D Tryz.prog 130 [(.int .u32 s1)] (.slc (List.map (PV.int .i64) r2)) := by
 refine zP Tryz.call130 Tryz.func130 rfl Tryz.ntmps130 fun X w hT => ?_
 simp only [drossref02_Members] at h
 refine zs (zr ?_)
 refine zU (zl (zn (zs (zr ?_))))
 refine zU (zl (zn (zs (zs (zr ?_)))))
 refine zU (zl (zn (zb ?_)))
 obtain ⟨o3, h4, h⟩ := zB h
 refine zO (fun (s : List Int × Int) => ⟨[(0, .p (.int .u32 s1)), (3, .own 15 1 0 s.1.length), (4, .p (.int .i64 s.2))], [(15, .arr 3 1 1 (List.map AV.p (List.map (PV.int .i64) s.1)))]⟩) (fun (o5 : List Int) => tE (cX Tryz.f130 X w D hT) (.exit 0) ⟨[(3, .own 15 1 0 o5.length)], [(15, .arr 3 1 1 (List.map AV.p (List.map (PV.int .i64) o5)))]⟩) h4 ?_ ?_
 clear h h4
 intro s x h
 obtain ⟨o6, i7⟩ := s
 simp only [drossref02_Members_l1] at h
 dsimp only
 refine zs (zs (zr ?_))
 refine zU (zl (zn ?_))
 rcases zI h with ⟨h8, h⟩ | ⟨h8, h⟩
 refine zi (zk (zn (zs (zb (zs (zr ?_))))))
 refine zU ?_
 obtain ⟨r9, h10, h⟩ := zB h
 refine zc (drossref02_Has_con s1 i7 _ h10) ?_
 refine zl (zn ?_)
 rcases zI h with ⟨h11, h⟩ | ⟨h11, h⟩
 refine zi (zr ?_)
 obtain ⟨h12, h⟩ := ite_some h
 refine zU (zl (yn (zn (zr ?_))))
 refine zU (zl ?_)
 cases h
 exact ⟨rfl, zE⟩
 refine zj (zk (yn (zn (zr ?_))))
 refine zU (zl ?_)
 cases h
 exact ⟨rfl, zE⟩
 refine zj (zx (ze ?_))
 cases h
 exact ⟨rfl, zE⟩
 try simp only at h
 refine zA (yh (zn (zs (zr ?_))))
 refine zU (zl (zn (zq ?_)))
 cases h
 exact zT Tryz.results130
end Go.Proofs.YtjcdclpfeflfkaaGreatDoor
set_option linter.unusedVariables false
set_option linter.unusedSimpArgs false
namespace Go.Proofs.YtjcdclpfeflfkaaGreatDoor
open Go Go.Ab
set_option maxHeartbeats 4000000 in
theorem drossref02_Size_con {D : Prop} (s1 : Int) (r2 : Int) (h : drossref02_Size s1 = some r2) : Con D Tryz.prog 89 [(.int .u32 s1)] (.int .i64 r2) := by
 refine zP Tryz.call89 Tryz.func89 rfl Tryz.ntmps89 fun X w hT => ?_
 simp only [drossref02_Size] at h
 refine zs (zr ?_)
 refine zU (zl (zn (zs (zr ?_))))
 refine zU ?_
 obtain ⟨r3, h4, h⟩ := zB h
 refine zc (drossref02_Members_con s1 _ h4) ?_
 refine zU (zl (zn (zq ?_)))
 cases h
 exact zT Tryz.results89
end Go.Proofs.YtjcdclpfeflfkaaGreatDoor
set_option linter.unusedVariables false
set_option linter.unusedSimpArgs false
namespace Go.Proofs.YtjcdclpfeflfkaaGreatDoor
open Go Go.Ab
set_option maxHeartbeats 4000000 in
theorem drossref02_Before_con {D : Prop} (a1 : Int) (b2 : Int) (r3 : Bool) (h : drossref02_Before a1 b2 = some r3) : Con D Tryz.prog 132 [(.int .u32 a1), (.int .u32 b2)] (.bool r3) := by
 refine zP Tryz.call132 Tryz.func132 rfl Tryz.ntmps132 fun X w hT => ?_
 simp only [drossref02_Before] at h
 refine zs (zr ?_)
 refine zU (zl (zn (zs (zs (zr ?_)))))
 refine zU ?_
 obtain ⟨r4, h5, h⟩ := zB h
 refine zc (drossref02_Size_con a1 _ h5) ?_
 refine zU ?_
 obtain ⟨r6, h7, h⟩ := zB h
 refine zc (drossref02_Size_con b2 _ h7) ?_
 refine zU (zl (zn ?_))
 rcases zI h with ⟨h8, h⟩ | ⟨h8, h⟩
 refine zi (zs (zr ?_))
 refine zU ?_
 obtain ⟨r9, h10, h⟩ := zB h
 refine zc (drossref02_Size_con a1 _ h10) ?_
 refine zU ?_
 obtain ⟨r11, h12, h⟩ := zB h
 refine zc (drossref02_Size_con b2 _ h12) ?_
 refine zU (zl (zn (zq (zt ?_))))
 cases h
 exact zT Tryz.results132
 refine zj (zk (zn (zs (zr ?_))))
 refine zU (zl (zn (zq ?_)))
 cases h
 exact zT Tryz.results132
end Go.Proofs.YtjcdclpfeflfkaaGreatDoor
set_option linter.unusedVariables false
set_option linter.unusedSimpArgs false
namespace Go.Proofs.YtjcdclpfeflfkaaGreatDoor
open Go Go.Ab
set_option maxHeartbeats 4000000 in
theorem drossref28_before_con {D : Prop} (a1 : FD) (b2 : FD) (r3 : Bool) (h : drossref28_before a1 b2 = some r3) : Con D Tryz.prog 92 [(encFD a1), (encFD b2)] (.bool r3) := by
 refine zP Tryz.call92 Tryz.func92 rfl Tryz.ntmps92 fun X w hT => ?_
 simp only [drossref28_before] at h
 refine zs (zr ?_)
 refine zU (zl (zn (zs (zs (zr ?_)))))
 refine zU (zl (zn ?_))
 rcases zI h with ⟨h4, h⟩ | ⟨h4, h⟩
 refine zi (zs (zr ?_))
 refine zU ?_
 obtain ⟨r5, h6, h⟩ := zB h
 refine zc (drossref02_Before_con a1.Lhs b2.Lhs _ h6) ?_
 refine zU (zl (zn (zq (zt ?_))))
 cases h
 exact zT Tryz.results92
 refine zj (zk (zn (zs (zr ?_))))
 refine zU (zl (zn (zq ?_)))
 cases h
 exact zT Tryz.results92
end Go.Proofs.YtjcdclpfeflfkaaGreatDoor
set_option linter.unusedVariables false
set_option linter.unusedSimpArgs false
namespace Go.Proofs.YtjcdclpfeflfkaaGreatDoor
open Go Go.Ab
set_option maxRecDepth 20000 in
set_option maxHeartbeats 4000000 in
theorem drossref28_Sorted_con {D : Prop} (l1 : List FD) (r2 : List FD) (h : drossref28_Sorted l1 = some r2) : Con D Tryz.prog 54 [(.slc (List.map encFD l1))] (.slc (List.map encFD r2)) := by
 refine zP Tryz.call54 Tryz.func54 rfl Tryz.ntmps54 fun X w hT => ?_
 simp only [drossref28_Sorted] at h
 refine zs (zr ?_)
 refine zU (zl (zn (zs (zr ?_))))
 obtain ⟨h3, h⟩ := ite_some h
 refine zU (zl (zn (zs (zs (zr ?_)))))
 refine zU (zl (zn (zb ?_)))
 obtain ⟨o4, h5, h⟩ := zB h
 refine zO (fun (s : List FD × Int) => ⟨[(3, .own 6 1 0 s.1.length), (4, .p (.int .i64 s.2))], [(6, .arr 29 2 1 (List.map AV.p (List.map encFD s.1)))]⟩) (fun (o6 : List FD) => tE (cX Tryz.f54 X w D hT) (.exit 0) ⟨[(3, .own 6 1 0 o6.length)], [(6, .arr 29 2 1 (List.map AV.p (List.map encFD o6)))]⟩) h5 ?_ ?_
 clear h h3 h5
 intro s x h
 obtain ⟨o7, i8⟩ := s
 simp only [drossref28_Sorted_l4] at h
 dsimp only
 refine zs (zs (zr ?_))
 refine zU (zl (zn ?_))
 rcases zI h with ⟨h9, h⟩ | ⟨h9, h⟩
 refine zi (zk (zn (zs (zb (zs (zr ?_))))))
 refine zU (zl (zn (zb ?_)))
 obtain ⟨o10, h11, h⟩ := zB h
 refine zO (fun (s : List FD × Int) => ⟨[(3, .own 6 1 0 s.1.length), (4, .p (.int .i64 i8)), (5, .p (.int .i64 s.2))], [(6, .arr 29 2 1 (List.map AV.p (List.map encFD s.1)))]⟩) (fun (o12 : List FD) => tE (cX Tryz.f54 X w D hT) (.exit 2) ⟨[(3, .own 6 1 0 o12.length), (4, .p (.int .i64 i8))], [(6, .arr 29 2 1 (List.map AV.p (List.map encFD o12)))]⟩) h11 ?_ ?_
 clear h h9 h11
 intro s x h
 obtain ⟨o13, k14⟩ := s
 simp only [drossref28_Sorted_l3] at h
 dsimp only
 refine zs (zs (zd ?_))
 refine yU ?_
 rcases zI h with ⟨h15, h⟩ | ⟨h15, h⟩
 refine yw 18 true ?_
 refine yg ?_
 refine yg ?_
 obtain ⟨x16, h17, h17a, h17b, h⟩ := zX h
 refine yg ?_
 refine yg ?_
 refine yg ?_
 refine yg ?_
 refine yg ?_
 obtain ⟨x18, h19, h19a, h19b, h⟩ := zX h
 refine yg ?_
 refine yg ?_
 obtain ⟨r20, h21, h⟩ := zB h
 refine yc (drossref28_before_con x16 x18 _ h21) ?_
 refine yU ?_
 refine yd (zn ?_)
 rcases zI h with ⟨h22, h⟩ | ⟨h22, h⟩
 refine zi (zk (zn (zs (zb (zd ?_)))))
 obtain ⟨x23, h24, h24a, h24b, h⟩ := zX h
 have h24B := eq_true (by simpa only [List.length_set] using h24b)
 refine yU ?_
 refine yd (yn (zn (zr ?_)))
 refine zU (zl ?_)
 cases h
 exact ⟨rfl, zE⟩
 refine zj (zx (ze ?_))
 cases h
 exact ⟨rfl, zE⟩
 refine yw 18 false ?_
 refine yk ?_
 refine yU ?_
 refine yd (zn ?_)
 refine zj (zx (ze ?_))
 cases h
 exact ⟨rfl, zE⟩
 try simp only at h
 refine zA (yh (yn (zn (zr ?_))))
 refine zU (zl ?_)
 cases h
 exact ⟨rfl, zE⟩
 refine zj (zx (ze ?_))
 cases h
 exact ⟨rfl, zE⟩
 try simp only at h
 refine zA (yh (zn (zs (zr ?_))))
 refine zU (zl (zn (zq ?_)))
 cases h
 exact zT Tryz.results54
end Go.Proofs.YtjcdclpfeflfkaaGreatDoor
set_option linter.unusedVariables false
set_option linter.unusedSimpArgs false
namespace Go.Proofs.YtjcdclpfeflfkaaGreatDoor
open Go Go.Ab
set_option maxRecDepth 20000 in
set_option maxHeartbeats 4000000 in
theorem drossref03_letter_con {D : Prop} (c1 : Int) (r2 : Bool) (h : drossref03_letter c1 = some r2) : Con D Tryz.prog 122 [(.int .u8 c1)] (.bool r2) := by
 refine zP Tryz.call122 Tryz.func122 rfl Tryz.ntmps122 fun X w hT => ?_
 simp only [drossref03_letter] at h
 refine zs (zr ?_)
 refine zU (zl (zn (zs (zr ?_))))
 refine zU ?_
 rcases zI h with ⟨h3, h⟩ | ⟨h3, h⟩
 refine zw 5 true ?_
 refine zg ?_
 refine zg ?_
 refine zU ?_
 rcases zI h with ⟨h4, h⟩ | ⟨h4, h⟩
 refine zw 9 true ?_
 refine zh ?_
 refine zU ?_
 refine zh ?_
 refine zU (zl (zn (zq ?_)))
 cases h
 exact zT Tryz.results122
 refine zw 9 false ?_
 refine zg ?_
 refine zg ?_
 refine zg ?_
 rcases zI h with ⟨h5, h⟩ | ⟨h5, h⟩
 refine zw 12 true ?_
 refine zg ?_
 refine zg ?_
 refine zg ?_
 refine zU ?_
 rcases zI h with ⟨h6, h⟩ | ⟨h6, h⟩
 refine zw 17 true ?_
 refine zh ?_
 refine zU (zl (zn (zq ?_)))
 cases h
 exact zT Tryz.results122
 replace h := h.symm
 refine zw 17 false ?_
 refine zg ?_
 refine zg ?_
 refine zU (zl (zn (zq ?_)))
 cases h
 exact zT Tryz.results122
 replace h := h.symm
 refine zw 12 false ?_
 refine zh ?_
 refine zg ?_
 refine zU ?_
 refine zg ?_
 refine zg ?_
 refine zU (zl (zn (zq ?_)))
 cases h
 exact zT Tryz.results122
 refine zw 5 false ?_
 refine zh ?_
 refine zU ?_
 refine zg ?_
 refine zg ?_
 refine zg ?_
 rcases zI h with ⟨h7, h⟩ | ⟨h7, h⟩
 refine zw 12 true ?_
 refine zg ?_
 refine zg ?_
 refine zg ?_
 refine zU ?_
 rcases zI h with ⟨h8, h⟩ | ⟨h8, h⟩
 refine zw 17 true ?_
 refine zh ?_
 refine zU (zl (zn (zq ?_)))
 cases h
 exact zT Tryz.results122
 replace h := h.symm
 refine zw 17 false ?_
 refine zg ?_
 refine zg ?_
 refine zU (zl (zn (zq ?_)))
 cases h
 exact zT Tryz.results122
 replace h := h.symm
 refine zw 12 false ?_
 refine zh ?_
 refine zg ?_
 refine zU ?_
 refine zg ?_
 refine zg ?_
 refine zU (zl (zn (zq ?_)))
 cases h
 exact zT Tryz.results122
end Go.Proofs.YtjcdclpfeflfkaaGreatDoor
set_option linter.unusedVariables false
set_option linter.unusedSimpArgs false
namespace Go.Proofs.YtjcdclpfeflfkaaGreatDoor
open Go Go.Ab
set_option maxRecDepth 20000 in
set_option maxHeartbeats 4000000 in
theorem drossref03_Name_con {D : Prop} (s1 : List UInt8) (r2 : Bool) (h : drossref03_Name s1 = some r2) : Con D Tryz.prog 78 [(.str s1)] (.bool r2) := by
 refine zP Tryz.call78 Tryz.func78 rfl Tryz.ntmps78 fun X w hT => ?_
 simp only [drossref03_Name] at h
 refine zs (zr ?_)
 refine zU (zl (zn (zs (zs (zr ?_)))))
 refine zU ?_
 rcases zI h with ⟨h3, h⟩ | ⟨h3, h⟩
 refine zw 7 true ?_
 refine zh ?_
 refine zU ?_
 refine zh ?_
 refine zU ?_
 refine zh ?_
 refine zU (zl (zn ?_))
 refine zi (zs (zr ?_))
 refine zU (zl (zn (zq (zt ?_))))
 cases h
 exact zT Tryz.results78
 refine zw 7 false ?_
 refine zg ?_
 refine zg ?_
 refine zg ?_
 refine zU ?_
 rcases zI h with ⟨h4, h⟩ | ⟨h4, h⟩
 refine zw 12 true ?_
 refine zh ?_
 refine zU ?_
 refine zh ?_
 refine zU (zl (zn ?_))
 refine zi (zs (zr ?_))
 refine zU (zl (zn (zq (zt ?_))))
 cases h
 exact zT Tryz.results78
 refine zw 12 false ?_
 refine zg ?_
 obtain ⟨c5, h6, h6l, h6L, h⟩ := zY 0 h
 refine zg ?_
 obtain ⟨r7, h8, h⟩ := zB h
 refine zc (drossref03_letter_con ((c5.toNat : Nat) : Int) _ h8) ?_
 refine zg ?_
 refine zU ?_
 rcases zI h with ⟨h9, h⟩ | ⟨h9, h⟩
 refine zw 18 false ?_
 refine zg ?_
 refine zg ?_
 refine zU (zl (zn ?_))
 rcases zI h with ⟨h10, h⟩ | ⟨h10, h⟩
 refine zi (zs (zr ?_))
 refine zU (zl (zn (zq (zt ?_))))
 cases h
 exact zT Tryz.results78
 refine zj (zk (zn (zs (zs (zr ?_)))))
 refine zU (zl (zn (zb ?_)))
 obtain ⟨o11, h12, h⟩ := zB h
 refine zO (fun (s : Int) => ⟨[(0, .p (.str s1)), (3, .p (.int .i64 s))], []⟩) (fun (o : (Unit) ⊕ (Bool)) => match o with | .inl o13 => tE (cX Tryz.f78 X w D hT) (.exit 0) ⟨[], []⟩ | .inr o14 => tR Tryz.prog Tryz.f78 (.bool o14)) h12 ?_ ?_
 clear h h3 h4 h6 h6l h6L h8 h9 h10 h12
 intro i15 x h
 simp only [drossref03_Name_l1] at h
 refine zs (zs (zr ?_))
 refine zU (zl (zn ?_))
 rcases zI h with ⟨h16, h⟩ | ⟨h16, h⟩
 refine zi (zk (zn (zs (zb (zs (zr ?_))))))
 obtain ⟨c17, h18, h18a, h18b, h⟩ := zX h
 refine zU ?_
 obtain ⟨r19, h20, h⟩ := zB h
 refine zc (drossref03_letter_con ((c17.toNat : Nat) : Int) _ h20) ?_
 refine zU ?_
 rcases zI h with ⟨h21, h⟩ | ⟨h21, h⟩
 refine zw 33 false ?_
 refine zh ?_
 refine zU (zl (zn ?_))
 refine zj (zk (yn (zn (zr ?_))))
 refine zU (zl ?_)
 cases h
 exact ⟨rfl, zE⟩
 refine zw 33 true ?_
 refine zg ?_
 refine zg ?_
 refine zg ?_
 refine zg ?_
 refine zg ?_
 rcases zI h with ⟨h22, h⟩ | ⟨h22, h⟩
 replace h := h.symm
 refine zw 38 true ?_
 refine zh ?_
 refine zg ?_
 refine zU (zl (zn ?_))
 refine zi (zs (zr ?_))
 refine zU (zl (zn (zq (yr (zt ?_)))))
 cases h
 exact ⟨rfl, zT Tryz.results78⟩
 refine zw 38 false ?_
 refine zg ?_
 refine zg ?_
 refine zg ?_
 refine zg ?_
 refine zg ?_
 refine zU (zl (zn ?_))
 rcases zI h with ⟨h23, h⟩ | ⟨h23, h⟩
 refine zi (zs (zr ?_))
 refine zU (zl (zn (zq (yr (zt ?_)))))
 cases h
 exact ⟨rfl, zT Tryz.results78⟩
 refine zj (zk (yn (zn (zr ?_))))
 refine zU (zl ?_)
 cases h
 exact ⟨rfl, zE⟩
 refine zj (zx (ze ?_))
 cases h
 exact ⟨rfl, zE⟩
 rcases o11 with ⟨⟩ | r24
 try simp only at h
 refine zA (yh (zn (zs (zr ?_))))
 refine zU (zl (zn (zq ?_)))
 cases h
 exact zT Tryz.results78
 try simp only at h
 refine zZ fun s hq => ?_
 refine yr (zt ?_)
 cases h
 exact hq
 refine zw 18 true ?_
 refine zh ?_
 refine zU (zl (zn ?_))
 refine zi (zs (zr ?_))
 refine zU (zl (zn (zq (zt ?_))))
 cases h
 exact zT Tryz.results78
end Go.Proofs.YtjcdclpfeflfkaaGreatDoor
set_option linter.unusedVariables false
set_option linter.unusedSimpArgs false
namespace Go.Proofs.YtjcdclpfeflfkaaGreatDoor
open Go Go.Ab
set_option maxHeartbeats 4000000 in
theorem drossref03_Attr_con {D : Prop} (l1 : List (List UInt8)) (n2 : List UInt8) (r3 : Int) (h : drossref03_Attr l1 n2 = some r3) : Con D Tryz.prog 123 [(.slc (List.map PV.str l1)), (.str n2)] (.int .i64 r3) := by
 refine zP Tryz.call123 Tryz.func123 rfl Tryz.ntmps123 fun X w hT => ?_
 simp only [drossref03_Attr] at h
 refine zs (zr ?_)
 refine zU (zl (zn (zs (zs (zr ?_)))))
 refine zU (zl (zn (zb ?_)))
 obtain ⟨o4, h5, h⟩ := zB h
 refine zO (fun (s : Int) => ⟨[(0, .p (.slc (List.map PV.str l1))), (1, .p (.str n2)), (5, .p (.int .i64 s))], []⟩) (fun (o : (Unit) ⊕ (Int)) => match o with | .inl o6 => tE (cX Tryz.f123 X w D hT) (.exit 0) ⟨[], []⟩ | .inr o7 => tR Tryz.prog Tryz.f123 (.int .i64 o7)) h5 ?_ ?_
 clear h h5
 intro i8 x h
 simp only [drossref03_Attr_l1] at h
 refine zs (zs (zr ?_))
 refine zU (zl (zn ?_))
 rcases zI h with ⟨h9, h⟩ | ⟨h9, h⟩
 refine zi (zk (zn (zs (zb (zs (zr ?_))))))
 obtain ⟨x10, h11, h11a, h11b, h⟩ := zX h
 refine zU (zl (zn ?_))
 rcases zI h with ⟨h12, h⟩ | ⟨h12, h⟩
 refine zi (zs (zr ?_))
 refine zU (zl (zn (zq (yr (zt ?_)))))
 cases h
 exact ⟨rfl, zT Tryz.results123⟩
 refine zj (zk (yn (zn (zr ?_))))
 refine zU (zl ?_)
 cases h
 exact ⟨rfl, zE⟩
 refine zj (zx (ze ?_))
 cases h
 exact ⟨rfl, zE⟩
 rcases o4 with ⟨⟩ | r13
 try simp only at h
 refine zA (yh (zn (zs (zr ?_))))
 refine zU (zl (zn (zq ?_)))
 cases h
 exact zT Tryz.results123
 try simp only at h
 refine zZ fun s hq => ?_
 refine yr (zt ?_)
 cases h
 exact hq
end Go.Proofs.YtjcdclpfeflfkaaGreatDoor
set_option linter.unusedVariables false
set_option linter.unusedSimpArgs false
namespace Go.Proofs.YtjcdclpfeflfkaaGreatDoor
open Go Go.Ab
set_option maxRecDepth 20000 in
set_option maxHeartbeats 4000000 in
theorem drossref03_Names_con {D : Prop} (l1 : List (List UInt8)) (r2 : Bool) (h : drossref03_Names l1 = some r2) : Con D Tryz.prog 79 [(.slc (List.map PV.str l1))] (.bool r2) := by
 refine zP Tryz.call79 Tryz.func79 rfl Tryz.ntmps79 fun X w hT => ?_
 simp only [drossref03_Names] at h
 refine zs (zr ?_)
 refine zU (zl (zn (zs (zs (zr ?_)))))
 refine zU (zl (zn (zb ?_)))
 obtain ⟨o3, h4, h⟩ := zB h
 refine zO (fun (s : Int) => ⟨[(0, .p (.slc (List.map PV.str l1))), (3, .p (.int .i64 s))], []⟩) (fun (o : (Unit) ⊕ (Bool)) => match o with | .inl o5 => tE (cX Tryz.f79 X w D hT) (.exit 0) ⟨[], []⟩ | .inr o6 => tR Tryz.prog Tryz.f79 (.bool o6)) h4 ?_ ?_
 clear h h4
 intro i7 x h
 simp only [drossref03_Names_l1] at h
 refine zs (zs (zr ?_))
 refine zU (zl (zn ?_))
 rcases zI h with ⟨h8, h⟩ | ⟨h8, h⟩
 refine zi (zk (zn (zs (zb (zs (zd ?_))))))
 obtain ⟨x9, h10, h10a, h10b, h⟩ := zX h
 refine yU ?_
 obtain ⟨r11, h12, h⟩ := zB h
 refine yc (drossref03_Name_con x9 _ h12) ?_
 refine yU ?_
 rcases zI h with ⟨h13, h⟩ | ⟨h13, h⟩
 refine yw 16 false ?_
 refine yg ?_
 refine yg ?_
 obtain ⟨h14, h⟩ := ite_some h
 obtain ⟨h15, h⟩ := ite_some h
 refine yg ?_
 refine yg ?_
 refine yg ?_
 refine yg ?_
 refine yg ?_
 obtain ⟨r16, h17, h⟩ := zB h
 refine yc (drossref03_Attr_con (l1.take (i7.toNat)) x9 _ h17) ?_
 refine yg ?_
 refine yU ?_
 refine yd (zn ?_)
 rcases zI h with ⟨h18, h⟩ | ⟨h18, h⟩
 refine zi (zs (zr ?_))
 refine zU (zl (zn (zq (yr (zt ?_)))))
 cases h
 exact ⟨rfl, zT Tryz.results79⟩
 refine zj (zk (yn (zn (zr ?_))))
 refine zU (zl ?_)
 cases h
 exact ⟨rfl, zE⟩
 refine yw 16 true ?_
 refine yk ?_
 refine yU ?_
 refine yd (zn ?_)
 refine zi (zs (zr ?_))
 refine zU (zl (zn (zq (yr (zt ?_)))))
 cases h
 exact ⟨rfl, zT Tryz.results79⟩
 refine zj (zx (ze ?_))
 cases h
 exact ⟨rfl, zE⟩
 rcases o3 with ⟨⟩ | r19
 try simp only at h
 refine zA (yh (zn (zs (zr ?_))))
 refine zU (zl (zn (zq ?_)))
 cases h
 exact zT Tryz.results79
 try simp only at h
 refine zZ fun s hq => ?_
 refine yr (zt ?_)
 cases h
 exact hq
end Go.Proofs.YtjcdclpfeflfkaaGreatDoor
set_option linter.unusedVariables false
set_option linter.unusedSimpArgs false
namespace Go.Proofs.YtjcdclpfeflfkaaGreatDoor
open Go Go.Ab
set_option maxHeartbeats 4000000 in
theorem drossref01_Valid_con {D : Prop} (v1 : Value) (r2 : Bool) (h : drossref01_Valid v1 = some r2) : Con D Tryz.prog 124 [(encValue v1)] (.bool r2) := by
 refine zP Tryz.call124 Tryz.func124 rfl Tryz.ntmps124 fun X w hT => ?_
 simp only [drossref01_Valid] at h
 refine zs (zr ?_)
 refine zU (zl (zn (zs (zs (zr ?_)))))
 refine zU (zl (zn (zb (zs (zr ?_)))))
 refine zU (zl (zn ?_))
 rcases zI h with ⟨h3, h⟩ | ⟨h3, h⟩
 refine zi (zs (zr ?_))
 refine zU ?_
 rcases zI h with ⟨h4, h⟩ | ⟨h4, h⟩
 replace h := h.symm
 refine zw 10 true ?_
 refine zg ?_
 refine zg ?_
 refine zg ?_
 refine zU (zl (zn (zq (yr (zt ?_)))))
 cases h
 exact zT Tryz.results124
 refine zw 10 false ?_
 refine zh ?_
 refine zU (zl (zn (zq (yr (zt ?_)))))
 cases h
 exact zT Tryz.results124
 refine zj (zs (zr ?_))
 refine zU (zl (zn ?_))
 rcases zI h with ⟨h5, h⟩ | ⟨h5, h⟩
 refine zi (zs (zr ?_))
 refine zU (zl (zn (zq (yr (zt ?_)))))
 cases h
 exact zT Tryz.results124
 refine zj (zs (zr ?_))
 refine zU (zl (zn ?_))
 rcases zI h with ⟨h6, h⟩ | ⟨h6, h⟩
 refine zi (zs (zr ?_))
 refine zU ?_
 rcases zI h with ⟨h7, h⟩ | ⟨h7, h⟩
 replace h := h.symm
 refine zw 25 true ?_
 refine zg ?_
 refine zg ?_
 refine zg ?_
 refine zg ?_
 refine zU (zl (zn (zq (yr (zt ?_)))))
 cases h
 exact zT Tryz.results124
 refine zw 25 false ?_
 refine zh ?_
 refine zU (zl (zn (zq (yr (zt ?_)))))
 cases h
 exact zT Tryz.results124
 refine zj (zk (yn (zn (zs (zr ?_)))))
 refine zU ?_
 rcases zI h with ⟨h8, h⟩ | ⟨h8, h⟩
 refine zw 34 true ?_
 refine zg ?_
 refine zg ?_
 refine zg ?_
 refine zU ?_
 rcases zI h with ⟨h9, h⟩ | ⟨h9, h⟩
 replace h := h.symm
 refine zw 39 true ?_
 refine zg ?_
 refine zg ?_
 refine zg ?_
 refine zU (zl (zn (zq ?_)))
 cases h
 exact zT Tryz.results124
 refine zw 39 false ?_
 refine zh ?_
 refine zU (zl (zn (zq ?_)))
 cases h
 exact zT Tryz.results124
 refine zw 34 false ?_
 refine zh ?_
 refine zU ?_
 refine zh ?_
 refine zU (zl (zn (zq ?_)))
 cases h
 exact zT Tryz.results124
end Go.Proofs.YtjcdclpfeflfkaaGreatDoor
set_option linter.unusedVariables false
set_option linter.unusedSimpArgs false
namespace Go.Proofs.YtjcdclpfeflfkaaGreatDoor
open Go Go.Ab
set_option maxHeartbeats 4000000 in
theorem drossref01_Valids_con {D : Prop} (l1 : List Value) (r2 : Bool) (h : drossref01_Valids l1 = some r2) : Con D Tryz.prog 80 [(.slc (List.map encValue l1))] (.bool r2) := by
 refine zP Tryz.call80 Tryz.func80 rfl Tryz.ntmps80 fun X w hT => ?_
 simp only [drossref01_Valids] at h
 refine zs (zr ?_)
 refine zU (zl (zn (zs (zs (zr ?_)))))
 refine zU (zl (zn (zb ?_)))
 obtain ⟨o3, h4, h⟩ := zB h
 refine zO (fun (s : Int) => ⟨[(0, .p (.slc (List.map encValue l1))), (3, .p (.int .i64 s))], []⟩) (fun (o : (Unit) ⊕ (Bool)) => match o with | .inl o5 => tE (cX Tryz.f80 X w D hT) (.exit 0) ⟨[], []⟩ | .inr o6 => tR Tryz.prog Tryz.f80 (.bool o6)) h4 ?_ ?_
 clear h h4
 intro i7 x h
 simp only [drossref01_Valids_l1] at h
 refine zs (zs (zr ?_))
 refine zU (zl (zn ?_))
 rcases zI h with ⟨h8, h⟩ | ⟨h8, h⟩
 refine zi (zk (zn (zs (zb (zs (zr ?_))))))
 obtain ⟨x9, h10, h10a, h10b, h⟩ := zX h
 refine zU ?_
 obtain ⟨r11, h12, h⟩ := zB h
 refine zc (drossref01_Valid_con x9 _ h12) ?_
 refine zU (zl (zn ?_))
 rcases zI h with ⟨h13, h⟩ | ⟨h13, h⟩
 refine zj (zk (yn (zn (zr ?_))))
 refine zU (zl ?_)
 cases h
 exact ⟨rfl, zE⟩
 refine zi (zs (zr ?_))
 refine zU (zl (zn (zq (yr (zt ?_)))))
 cases h
 exact ⟨rfl, zT Tryz.results80⟩
 refine zj (zx (ze ?_))
 cases h
 exact ⟨rfl, zE⟩
 rcases o3 with ⟨⟩ | r14
 try simp only at h
 refine zA (yh (zn (zs (zr ?_))))
 refine zU (zl (zn (zq ?_)))
 cases h
 exact zT Tryz.results80
 try simp only at h
 refine zZ fun s hq => ?_
 refine yr (zt ?_)
 cases h
 exact hq
end Go.Proofs.YtjcdclpfeflfkaaGreatDoor
set_option linter.unusedVariables false
set_option linter.unusedSimpArgs false
namespace Go.Proofs.YtjcdclpfeflfkaaGreatDoor
open Go Go.Ab
set_option maxHeartbeats 4000000 in
theorem drossref03_Valid_con {D : Prop} (t1 : Table) (r2 : Int) (h : drossref03_Valid t1 = some r2) : Con D Tryz.prog 43 [(encTable t1)] (.int .i64 r2) := by
 refine zP Tryz.call43 Tryz.func43 rfl Tryz.ntmps43 fun X w hT => ?_
 simp only [drossref03_Valid] at h
 refine zs (zr ?_)
 refine zU (zl (zn (zs (zs (zr ?_)))))
 refine zU ?_
 obtain ⟨r3, h4, h⟩ := zB h
 refine zc (drossref03_Name_con t1.Name _ h4) ?_
 refine zU (zl (zn ?_))
 rcases zI h with ⟨h5, h⟩ | ⟨h5, h⟩
 refine zj (zk (zn (zs (zs (zr ?_)))))
 refine zU ?_
 rcases zI h with ⟨h6, h⟩ | ⟨h6, h⟩
 refine zw 14 true ?_
 refine zh ?_
 refine zU (zl (zn ?_))
 refine zi (zs (zr ?_))
 refine zU (zl (zn (zq (zt ?_))))
 cases h
 exact zT Tryz.results43
 refine zw 14 false ?_
 refine zg ?_
 refine zg ?_
 refine zg ?_
 refine zg ?_
 refine zU (zl (zn ?_))
 rcases zI h with ⟨h7, h⟩ | ⟨h7, h⟩
 refine zi (zs (zr ?_))
 refine zU (zl (zn (zq (zt ?_))))
 cases h
 exact zT Tryz.results43
 refine zj (zk (zn (zs (zs (zr ?_)))))
 refine zU ?_
 obtain ⟨r8, h9, h⟩ := zB h
 refine zc (drossref03_Names_con t1.Attrs _ h9) ?_
 refine zU (zl (zn ?_))
 rcases zI h with ⟨h10, h⟩ | ⟨h10, h⟩
 refine zj (zk (zn (zs (zr ?_))))
 refine zU (zl (zn (zs (zs (zr ?_)))))
 refine zU (zl (zn (zb ?_)))
 obtain ⟨o11, h12, h⟩ := zB h
 refine zO (fun (s : Int × Int) => ⟨[(1, .loc 1 1 0 0), (3, .p (.int .i64 s.1)), (4, .p (.int .i64 s.2))], [(1, .arr 25 3 1 [.p (encTable t1)])]⟩) (fun (o : (Unit) ⊕ (Int)) => match o with | .inl o13 => tE (cX Tryz.f43 X w D hT) (.exit 0) ⟨[], []⟩ | .inr o14 => tR Tryz.prog Tryz.f43 (.int .i64 o14)) h12 ?_ ?_
 clear h h4 h5 h6 h7 h9 h10 h12
 intro s x h
 obtain ⟨b15, i16⟩ := s
 simp only [drossref03_Valid_l1] at h
 dsimp only
 refine zs (zs (zr ?_))
 refine zU (zl (zn ?_))
 rcases zI h with ⟨h17, h⟩ | ⟨h17, h⟩
 refine zi (zk (zn (zs (zb (zs (zr ?_))))))
 obtain ⟨x18, h19, h19a, h19b, h⟩ := zX h
 refine zU (zl (zn (zs (zs (zr ?_)))))
 refine zU (zl (zn ?_))
 rcases zI h with ⟨h20, h⟩ | ⟨h20, h⟩
 refine zi (zs (zr ?_))
 refine zU (zl (zn (zq (zt (yr (zt ?_))))))
 cases h
 exact ⟨rfl, zT Tryz.results43⟩
 refine zj (zk (zn (zs (zr ?_))))
 refine zU (zl (zn (zs (zs (zr ?_)))))
 refine zU (zl (zn ?_))
 rcases zI h with ⟨h21, h⟩ | ⟨h21, h⟩
 refine zi (zs (zr ?_))
 refine zU (zl (zn (zq (zt (yr (zt ?_))))))
 cases h
 exact ⟨rfl, zT Tryz.results43⟩
 refine zj (zk (zn (zs (zr ?_))))
 refine zU ?_
 obtain ⟨r22, h23, h⟩ := zB h
 refine zc (drossref01_Valids_con x18.Values _ h23) ?_
 refine zU (zl (zn ?_))
 rcases zI h with ⟨h24, h⟩ | ⟨h24, h⟩
 refine zj (zk (yn (zn (zr ?_))))
 refine zU (zl ?_)
 cases h
 exact ⟨rfl, zE⟩
 refine zi (zs (zr ?_))
 refine zU (zl (zn (zq (yr (zt ?_)))))
 cases h
 exact ⟨rfl, zT Tryz.results43⟩
 refine zj (zx (ze ?_))
 cases h
 exact ⟨rfl, zE⟩
 rcases o11 with ⟨⟩ | r25
 try simp only at h
 refine zA (yh (zn (zs (zr ?_))))
 refine zU (zl (zn (zq ?_)))
 cases h
 exact zT Tryz.results43
 try simp only at h
 refine zZ fun s hq => ?_
 refine yr (zt ?_)
 cases h
 exact hq
 refine zi (zs (zr ?_))
 refine zU (zl (zn (zq (zt ?_))))
 cases h
 exact zT Tryz.results43
 refine zi (zs (zr ?_))
 refine zU (zl (zn (zq (zt ?_))))
 cases h
 exact zT Tryz.results43
end Go.Proofs.YtjcdclpfeflfkaaGreatDoor
set_option linter.unusedVariables false
set_option linter.unusedSimpArgs false
namespace Go.Proofs.YtjcdclpfeflfkaaGreatDoor
open Go Go.Ab
set_option maxHeartbeats 4000000 in
theorem drossref28_Error_con {D : Prop} (t1 : Table) (r2 : Int) (h : drossref28_Error t1 = some r2) : Con D Tryz.prog 57 [(encTable t1)] (.int .i64 r2) := by
 refine zP Tryz.call57 Tryz.func57 rfl Tryz.ntmps57 fun X w hT => ?_
 simp only [drossref28_Error] at h
 refine zs (zr ?_)
 refine zU (zl (zn (zs (zs (zr ?_)))))
 refine zU ?_
 obtain ⟨r3, h4, h⟩ := zB h
 refine zc (drossref03_Valid_con t1 _ h4) ?_
 refine zU (zl (zn (zs (zr ?_))))
 refine zU (zl (zn ?_))
 rcases zI h with ⟨h5, h⟩ | ⟨h5, h⟩
 refine zi (zs (zr ?_))
 refine zU (zl (zn (zq (zt ?_))))
 cases h
 exact zT Tryz.results57
 refine zj (zk (zn (zs (zs (zr ?_)))))
 refine zU ?_
 rcases zI h with ⟨h6, h⟩ | ⟨h6, h⟩
 refine zw 13 true ?_
 refine zh ?_
 refine zU (zl (zn ?_))
 refine zi (zs (zr ?_))
 refine zU (zl (zn (zq (zt ?_))))
 cases h
 exact zT Tryz.results57
 refine zw 13 false ?_
 refine zg ?_
 refine zg ?_
 refine zg ?_
 refine zg ?_
 refine zU (zl (zn ?_))
 rcases zI h with ⟨h7, h⟩ | ⟨h7, h⟩
 refine zi (zs (zr ?_))
 refine zU (zl (zn (zq (zt ?_))))
 cases h
 exact zT Tryz.results57
 refine zj (zk (zn (zs (zr ?_))))
 refine zU (zl (zn (zq ?_)))
 cases h
 exact zT Tryz.results57
end Go.Proofs.YtjcdclpfeflfkaaGreatDoor
set_option linter.unusedVariables false
set_option linter.unusedSimpArgs false
namespace Go.Proofs.YtjcdclpfeflfkaaGreatDoor
open Go Go.Ab
set_option maxHeartbeats 4000000 in
theorem drossref02_next_con {D : Prop} (x1 : Int) (s2 : Int) (r3 : Int) (h : drossref02_next x1 s2 = some r3) : Con D Tryz.prog 90 [(.int .u64 x1), (.int .u64 s2)] (.int .u64 r3) := by
 refine zP Tryz.call90 Tryz.func90 rfl Tryz.ntmps90 fun X w hT => ?_
 simp only [drossref02_next] at h
 refine zs (zr ?_)
 refine zU (zl (zn (zs (zs (zr ?_)))))
 refine zU (zl (zn ?_))
 rcases zI h with ⟨h4, h⟩ | ⟨h4, h⟩
 refine zi (zs (zr ?_))
 refine zU (zl (zn (zq (zt ?_))))
 cases h
 exact zT Tryz.results90
 refine zj (zk (zn (zs (zr ?_))))
 refine zU (zl (zn (zq ?_)))
 cases h
 exact zT Tryz.results90
end Go.Proofs.YtjcdclpfeflfkaaGreatDoor
set_option linter.unusedVariables false
set_option linter.unusedSimpArgs false
namespace Go.Proofs.YtjcdclpfeflfkaaGreatDoor
open Go Go.Ab
set_option maxHeartbeats 4000000 in
theorem drossref02_Subsets_con {D : Prop} (s1 : Int) (r2 : List Int) (h : drossref02_Subsets s1 = some r2) : Con D Tryz.prog 51 [(.int .u32 s1)] (.slc (List.map (PV.int .u32) r2)) := by
 refine zP Tryz.call51 Tryz.func51 rfl Tryz.ntmps51 fun X w hT => ?_
 simp only [drossref02_Subsets] at h
 refine zs (zr ?_)
 refine zU (zl (zn (zs (zs (zr ?_)))))
 refine zU ?_
 obtain ⟨r3, h4, h⟩ := zB h
 refine zc (drossref02_Size_con s1 _ h4) ?_
 refine zU (zl (zn ?_))
 rcases zI h with ⟨h5, h⟩ | ⟨h5, h⟩
 refine zi (zs (zr ?_))
 refine zU (zl (zn (zq (zt ?_))))
 cases h
 exact zT Tryz.results51
 refine zj (zk (zn (zs (zr ?_))))
 refine zU (zl (zn (zs (zs (zr ?_)))))
 refine zU (zl (zn (zb ?_)))
 obtain ⟨o6, h7, h⟩ := zB h
 refine zO (fun (s : List Int × Int) => ⟨[(0, .p (.int .u32 s1)), (3, .own 32 1 0 s.1.length), (4, .p (.int .i64 s.2))], [(32, .arr 27 1 1 (List.map AV.p (List.map (PV.int .u32) s.1)))]⟩) (fun (o8 : List Int) => tE (cX Tryz.f51 X w D hT) (.exit 0) ⟨[(3, .own 32 1 0 o8.length)], [(32, .arr 27 1 1 (List.map AV.p (List.map (PV.int .u32) o8)))]⟩) h7 ?_ ?_
 clear h h4 h5 h7
 intro s x h
 obtain ⟨o9, k10⟩ := s
 simp only [drossref02_Subsets_l4] at h
 dsimp only
 refine zs (zs (zr ?_))
 refine zU ?_
 obtain ⟨r11, h12, h⟩ := zB h
 refine zc (drossref02_Size_con s1 _ h12) ?_
 refine zU (zl (zn ?_))
 rcases zI h with ⟨h13, h⟩ | ⟨h13, h⟩
 refine zi (zk (zn (zs (zb (zs (zr ?_))))))
 refine zU (zl (zn (zb ?_)))
 obtain ⟨o14, h15, h⟩ := zB h
 refine zO (fun (s : List Int × Int) => ⟨[(0, .p (.int .u32 s1)), (3, .own 32 1 0 s.1.length), (4, .p (.int .i64 k10)), (5, .p (.int .u64 s.2))], [(32, .arr 27 1 1 (List.map AV.p (List.map (PV.int .u32) s.1)))]⟩) (fun (o16 : List Int) => tE (cX Tryz.f51 X w D hT) (.exit 2) ⟨[(0, .p (.int .u32 s1)), (3, .own 32 1 0 o16.length), (4, .p (.int .i64 k10))], [(32, .arr 27 1 1 (List.map AV.p (List.map (PV.int .u32) o16)))]⟩) h15 ?_ ?_
 clear h h12 h13 h15
 intro s x h
 obtain ⟨o17, x18⟩ := s
 simp only [drossref02_Subsets_l3] at h
 dsimp only
 refine zs (zs (zr ?_))
 refine zU (zl (zn ?_))
 rcases zI h with ⟨h19, h⟩ | ⟨h19, h⟩
 refine zi (zk (zn ?_))
 obtain ⟨o20, h21, h⟩ := zB h
 refine zJ (fun (o22 : List Int) => tE (cX Tryz.f51 X w D hT) .normal ⟨[(0, .p (.int .u32 s1)), (3, .own 32 1 0 o22.length), (4, .p (.int .i64 k10)), (5, .p (.int .u64 x18))], [(32, .arr 27 1 1 (List.map AV.p (List.map (PV.int .u32) o22)))]⟩) o20 ?_ ?_
 replace h := h21
 clear h21
 refine zb (zs (zr ?_))
 refine zU ?_
 obtain ⟨r23, h24, h⟩ := zB h
 refine zc (drossref02_Size_con (IntKind.u32.wrap x18) _ h24) ?_
 refine zU (zl (zn ?_))
 rcases zI h with ⟨h25, h⟩ | ⟨h25, h⟩
 refine zi (zr ?_)
 obtain ⟨h26, h⟩ := ite_some h
 refine zU (zl (yn ?_))
 cases h
 exact ⟨rfl, zE⟩
 refine zj (zk (yn ?_))
 cases h
 exact ⟨rfl, zE⟩
 try simp only at h
 refine zA (zn (zr ?_))
 refine zU ?_
 obtain ⟨r27, h28, h⟩ := zB h
 refine zc (drossref02_next_con x18 (IntKind.u64.wrap s1) _ h28) ?_
 refine zU (zl ?_)
 cases h
 exact ⟨rfl, zE⟩
 refine zj (zx (ze ?_))
 cases h
 exact ⟨rfl, zE⟩
 try simp only at h
 refine zA (yh (yn (zn (zr ?_))))
 refine zU (zl ?_)
 cases h
 exact ⟨rfl, zE⟩
 refine zj (zx (ze ?_))
 cases h
 exact ⟨rfl, zE⟩
 try simp only at h
 refine zA (yh (zn (zs (zr ?_))))
 refine zU (zl (zn (zq ?_)))
 cases h
 exact zT Tryz.results51
end Go.Proofs.YtjcdclpfeflfkaaGreatDoor
set_option linter.unusedVariables false
set_option linter.unusedSimpArgs false
namespace Go.Proofs.YtjcdclpfeflfkaaGreatDoor
open Go Go.Ab
set_option maxHeartbeats 4000000 in
theorem drossref02_Full_con {D : Prop} (n1 : Int) (r2 : Int) (h : drossref02_Full n1 = some r2) : Con D Tryz.prog 52 [(.int .i64 n1)] (.int .u32 r2) := by
 refine zP Tryz.call52 Tryz.func52 rfl Tryz.ntmps52 fun X w hT => ?_
 simp only [drossref02_Full] at h
 refine zs (zr ?_)
 refine zU (zl (zn (zs (zr ?_))))
 refine zU (zl (zn (zs (zs (zr ?_)))))
 refine zU (zl (zn (zb ?_)))
 obtain ⟨s3, h4, h⟩ := zB h
 refine zO (fun (s : Int × Int) => ⟨[(0, .p (.int .i64 n1)), (3, .p (.int .u32 s.1)), (4, .p (.int .i64 s.2))], []⟩) (fun (o5 : Int) => tE (cX Tryz.f52 X w D hT) (.exit 0) ⟨[(3, .p (.int .u32 o5))], []⟩) h4 ?_ ?_
 clear h h4
 intro s x h
 obtain ⟨s6, i7⟩ := s
 simp only [drossref02_Full_l1] at h
 dsimp only
 refine zs (zs (zr ?_))
 refine zU ?_
 rcases zI h with ⟨h8, h⟩ | ⟨h8, h⟩
 refine zw 8 true ?_
 refine zg ?_
 refine zg ?_
 refine zU (zl (zn ?_))
 rcases zI h with ⟨h9, h⟩ | ⟨h9, h⟩
 refine zi (zk (zn (zs (zb (zr ?_)))))
 obtain ⟨h10, h⟩ := ite_none h
 refine zU (zl (yn (zn (zr ?_))))
 refine zU (zl ?_)
 cases h
 exact ⟨rfl, zE⟩
 refine zj (zx (ze ?_))
 cases h
 exact ⟨rfl, zE⟩
 refine zw 8 false ?_
 refine zh ?_
 refine zU (zl (zn ?_))
 refine zj (zx (ze ?_))
 cases h
 exact ⟨rfl, zE⟩
 try simp only at h
 refine zA (yh (zn (zs (zr ?_))))
 refine zU (zl (zn (zq ?_)))
 cases h
 exact zT Tryz.results52
end Go.Proofs.YtjcdclpfeflfkaaGreatDoor
set_option linter.unusedVariables false
set_option linter.unusedSimpArgs false
namespace Go.Proofs.YtjcdclpfeflfkaaGreatDoor
open Go Go.Ab
set_option maxHeartbeats 4000000 in
theorem drossref02_Sub_con {D : Prop} (a1 : Int) (b2 : Int) (r3 : Bool) (h : drossref02_Sub a1 b2 = some r3) : Con D Tryz.prog 64 [(.int .u32 a1), (.int .u32 b2)] (.bool r3) := by
 refine zP Tryz.call64 Tryz.func64 rfl Tryz.ntmps64 fun X w hT => ?_
 simp only [drossref02_Sub] at h
 refine zs (zr ?_)
 refine zU (zl (zn (zs (zr ?_))))
 refine zU (zl (zn (zq ?_)))
 cases h
 exact zT Tryz.results64
end Go.Proofs.YtjcdclpfeflfkaaGreatDoor
set_option linter.unusedVariables false
set_option linter.unusedSimpArgs false
namespace Go.Proofs.YtjcdclpfeflfkaaGreatDoor
open Go Go.Ab
set_option maxHeartbeats 4000000 in
theorem drossref02_In_con {D : Prop} (l1 : List Int) (s2 : Int) (r3 : Bool) (h : drossref02_In l1 s2 = some r3) : Con D Tryz.prog 131 [(.slc (List.map (PV.int .u32) l1)), (.int .u32 s2)] (.bool r3) := by
 refine zP Tryz.call131 Tryz.func131 rfl Tryz.ntmps131 fun X w hT => ?_
 simp only [drossref02_In] at h
 refine zs (zr ?_)
 refine zU (zl (zn (zs (zs (zr ?_)))))
 refine zU (zl (zn (zb ?_)))
 obtain ⟨o4, h5, h⟩ := zB h
 refine zO (fun (s : Int) => ⟨[(0, .p (.slc (List.map (PV.int .u32) l1))), (1, .p (.int .u32 s2)), (5, .p (.int .i64 s))], []⟩) (fun (o : (Unit) ⊕ (Bool)) => match o with | .inl o6 => tE (cX Tryz.f131 X w D hT) (.exit 0) ⟨[], []⟩ | .inr o7 => tR Tryz.prog Tryz.f131 (.bool o7)) h5 ?_ ?_
 clear h h5
 intro i8 x h
 simp only [drossref02_In_l1] at h
 refine zs (zs (zr ?_))
 refine zU (zl (zn ?_))
 rcases zI h with ⟨h9, h⟩ | ⟨h9, h⟩
 refine zi (zk (zn (zs (zb (zs (zr ?_))))))
 obtain ⟨x10, h11, h11a, h11b, h⟩ := zX h
 refine zU (zl (zn ?_))
 rcases zI h with ⟨h12, h⟩ | ⟨h12, h⟩
 refine zi (zs (zr ?_))
 refine zU (zl (zn (zq (yr (zt ?_)))))
 cases h
 exact ⟨rfl, zT Tryz.results131⟩
 refine zj (zk (yn (zn (zr ?_))))
 refine zU (zl ?_)
 cases h
 exact ⟨rfl, zE⟩
 refine zj (zx (ze ?_))
 cases h
 exact ⟨rfl, zE⟩
 rcases o4 with ⟨⟩ | r13
 try simp only at h
 refine zA (yh (zn (zs (zr ?_))))
 refine zU (zl (zn (zq ?_)))
 cases h
 exact zT Tryz.results131
 try simp only at h
 refine zZ fun s hq => ?_
 refine yr (zt ?_)
 cases h
 exact hq
end Go.Proofs.YtjcdclpfeflfkaaGreatDoor
set_option linter.unusedVariables false
set_option linter.unusedSimpArgs false
namespace Go.Proofs.YtjcdclpfeflfkaaGreatDoor
open Go Go.Ab
set_option maxRecDepth 20000 in
set_option maxHeartbeats 4000000 in
theorem drossref02_Order_con {D : Prop} (l1 : List Int) (r2 : List Int) (h : drossref02_Order l1 = some r2) : Con D Tryz.prog 91 [(.slc (List.map (PV.int .u32) l1))] (.slc (List.map (PV.int .u32) r2)) := by
 refine zP Tryz.call91 Tryz.func91 rfl Tryz.ntmps91 fun X w hT => ?_
 simp only [drossref02_Order] at h
 refine zs (zr ?_)
 refine zU (zl (zn (zs (zr ?_))))
 refine zU (zl (zn (zs (zs (zr ?_)))))
 refine zU (zl (zn (zb ?_)))
 obtain ⟨o3, h4, h⟩ := zB h
 refine zO (fun (s : List Int × Int) => ⟨[(0, .p (.slc (List.map (PV.int .u32) l1))), (3, .own 24 1 0 s.1.length), (4, .p (.int .i64 s.2))], [(24, .arr 27 1 1 (List.map AV.p (List.map (PV.int .u32) s.1)))]⟩) (fun (o5 : List Int) => tE (cX Tryz.f91 X w D hT) (.exit 0) ⟨[(3, .own 24 1 0 o5.length)], [(24, .arr 27 1 1 (List.map AV.p (List.map (PV.int .u32) o5)))]⟩) h4 ?_ ?_
 clear h h4
 intro s x h
 obtain ⟨o6, i7⟩ := s
 simp only [drossref02_Order_l4] at h
 dsimp only
 refine zs (zs (zr ?_))
 refine zU (zl (zn ?_))
 rcases zI h with ⟨h8, h⟩ | ⟨h8, h⟩
 refine zi (zk (zn (zs (zb (zs (zs (zr ?_)))))))
 obtain ⟨x9, h10, h10a, h10b, h⟩ := zX h
 refine zU ?_
 obtain ⟨r11, h12, h⟩ := zB h
 refine zc (drossref02_In_con o6 x9 _ h12) ?_
 refine zl (zn ?_)
 rcases zI h with ⟨h13, h⟩ | ⟨h13, h⟩
 refine zi (zx (ze (yh (zn (zr ?_)))))
 refine zU (zl ?_)
 cases h
 exact ⟨rfl, zE⟩
 refine zj (zk (zn (zs (zr ?_))))
 obtain ⟨h14, h⟩ := ite_some h
 refine zU (zl (zn (zs (zr ?_))))
 refine zU (zl (zn (zb ?_)))
 obtain ⟨o15, h16, h⟩ := zB h
 refine zO (fun (s : List Int × Int) => ⟨[(0, .p (.slc (List.map (PV.int .u32) l1))), (3, .own 24 1 0 s.1.length), (4, .p (.int .i64 i7)), (5, .p (.int .i64 s.2))], [(24, .arr 27 1 1 (List.map AV.p (List.map (PV.int .u32) s.1)))]⟩) (fun (o17 : List Int) => tE (cX Tryz.f91 X w D hT) (.exit 2) ⟨[(0, .p (.slc (List.map (PV.int .u32) l1))), (3, .own 24 1 0 o17.length), (4, .p (.int .i64 i7))], [(24, .arr 27 1 1 (List.map AV.p (List.map (PV.int .u32) o17)))]⟩) h16 ?_ ?_
 clear h h8 h10 h10a h10b h12 h13 h14 h16
 intro s x h
 obtain ⟨o18, k19⟩ := s
 simp only [drossref02_Order_l3] at h
 dsimp only
 refine zs (zs (zd ?_))
 refine yU ?_
 rcases zI h with ⟨h20, h⟩ | ⟨h20, h⟩
 refine yw 30 true ?_
 refine yg ?_
 refine yg ?_
 obtain ⟨x21, h22, h22a, h22b, h⟩ := zX h
 refine yg ?_
 refine yg ?_
 refine yg ?_
 refine yg ?_
 refine yg ?_
 obtain ⟨x23, h24, h24a, h24b, h⟩ := zX h
 refine yg ?_
 refine yg ?_
 obtain ⟨r25, h26, h⟩ := zB h
 refine yc (drossref02_Before_con x21 x23 _ h26) ?_
 refine yU ?_
 refine yd (zn ?_)
 rcases zI h with ⟨h27, h⟩ | ⟨h27, h⟩
 refine zi (zk (zn (zs (zb (zd ?_)))))
 obtain ⟨x28, h29, h29a, h29b, h⟩ := zX h
 have h29B := eq_true (by simpa only [List.length_set] using h29b)
 refine yU ?_
 refine yd (yn (zn (zr ?_)))
 refine zU (zl ?_)
 cases h
 exact ⟨rfl, zE⟩
 refine zj (zx (ze ?_))
 cases h
 exact ⟨rfl, zE⟩
 refine yw 30 false ?_
 refine yk ?_
 refine yU ?_
 refine yd (zn ?_)
 refine zj (zx (ze ?_))
 cases h
 exact ⟨rfl, zE⟩
 try simp only at h
 refine zA (yh (yn (zn (zr ?_))))
 refine zU (zl ?_)
 cases h
 exact ⟨rfl, zE⟩
 refine zj (zx (ze ?_))
 cases h
 exact ⟨rfl, zE⟩
 try simp only at h
 refine zA (yh (zn (zs (zr ?_))))
 refine zU (zl (zn (zq ?_)))
 cases h
 exact zT Tryz.results91
end Go.Proofs.YtjcdclpfeflfkaaGreatDoor
set_option linter.unusedVariables false
set_option linter.unusedSimpArgs false
namespace Go.Proofs.YtjcdclpfeflfkaaGreatDoor
open Go Go.Ab
set_option maxRecDepth 20000 in
set_option maxHeartbeats 4000000 in
theorem drossref02_Minimal_con {D : Prop} (l1 : List Int) (r2 : List Int) (h : drossref02_Minimal l1 = some r2) : Con D Tryz.prog 53 [(.slc (List.map (PV.int .u32) l1))] (.slc (List.map (PV.int .u32) r2)) := by
 refine zP Tryz.call53 Tryz.func53 rfl Tryz.ntmps53 fun X w hT => ?_
 simp only [drossref02_Minimal] at h
 refine zs (zr ?_)
 refine zU (zl (zn (zs (zr ?_))))
 refine zU (zl (zn (zs (zr ?_))))
 refine zU ?_
 obtain ⟨r3, h4, h⟩ := zB h
 refine zc (drossref02_Order_con l1 _ h4) ?_
 refine zU (zl (zn (zs (zs (zr ?_)))))
 refine zU (zl (zn (zb ?_)))
 obtain ⟨o5, h6, h⟩ := zB h
 refine zO (fun (s : List Int × Int) => ⟨[(3, .own 47 1 0 s.1.length), (4, .p (.slc (List.map (PV.int .u32) r3))), (5, .p (.int .i64 s.2))], [(47, .arr 27 1 1 (List.map AV.p (List.map (PV.int .u32) s.1)))]⟩) (fun (o7 : List Int) => tE (cX Tryz.f53 X w D hT) (.exit 0) ⟨[(3, .own 47 1 0 o7.length)], [(47, .arr 27 1 1 (List.map AV.p (List.map (PV.int .u32) o7)))]⟩) h6 ?_ ?_
 clear h h4 h6
 intro s x h
 obtain ⟨o8, i9⟩ := s
 simp only [drossref02_Minimal_l4] at h
 dsimp only
 refine zs (zs (zr ?_))
 refine zU (zl (zn ?_))
 rcases zI h with ⟨h10, h⟩ | ⟨h10, h⟩
 refine zi (zk (zn (zs (zb (zs (zr ?_))))))
 refine zU (zl (zn (zs (zs (zr ?_)))))
 refine zU (zl (zn (zb ?_)))
 obtain ⟨o11, h12, h⟩ := zB h
 refine zO (fun (s : Bool × Int) => ⟨[(3, .own 47 1 0 o8.length), (4, .p (.slc (List.map (PV.int .u32) r3))), (5, .p (.int .i64 i9)), (6, .p (.bool s.1)), (7, .p (.int .i64 s.2))], [(47, .arr 27 1 1 (List.map AV.p (List.map (PV.int .u32) o8)))]⟩) (fun (o13 : Bool) => tE (cX Tryz.f53 X w D hT) (.exit 2) ⟨[(3, .own 47 1 0 o8.length), (4, .p (.slc (List.map (PV.int .u32) r3))), (5, .p (.int .i64 i9)), (6, .p (.bool o13))], [(47, .arr 27 1 1 (List.map AV.p (List.map (PV.int .u32) o8)))]⟩) h12 ?_ ?_
 clear h h10 h12
 intro s x h
 obtain ⟨o14, k15⟩ := s
 simp only [drossref02_Minimal_l3] at h
 dsimp only
 refine zs (zs (zr ?_))
 refine zU (zl (zn ?_))
 rcases zI h with ⟨h16, h⟩ | ⟨h16, h⟩
 refine zi (zk (zn (zs (zb (zd ?_)))))
 refine yU ?_
 rcases zI h with ⟨h17, h⟩ | ⟨h17, h⟩
 refine yw 23 true ?_
 refine yg ?_
 refine yg ?_
 refine yg ?_
 refine yg ?_
 rcases zI h with ⟨h18, h⟩ | ⟨h18, h⟩
 replace h := h.symm
 refine yw 27 true ?_
 refine yk ?_
 refine yg ?_
 refine yU ?_
 refine yd (yn (zn (zr ?_)))
 refine zU (zl ?_)
 cases h
 exact ⟨rfl, zE⟩
 refine yw 27 false ?_
 refine yg ?_
 refine yg ?_
 obtain ⟨x19, h20, h20a, h20b, h⟩ := zX h
 refine yg ?_
 refine yg ?_
 refine yg ?_
 refine yg ?_
 obtain ⟨x21, h22, h22a, h22b, h⟩ := zX h
 refine yg ?_
 refine yg ?_
 obtain ⟨r23, h24, h⟩ := zB h
 replace h := h.symm
 refine yc (drossref02_Sub_con x19 x21 _ h24) ?_
 refine yg ?_
 refine yg ?_
 refine yU ?_
 refine yd (yn (zn (zr ?_)))
 refine zU (zl ?_)
 cases h
 exact ⟨rfl, zE⟩
 refine yw 23 false ?_
 refine yk ?_
 refine yU ?_
 refine yd (yn (zn (zr ?_)))
 refine zU (zl ?_)
 cases h
 exact ⟨rfl, zE⟩
 refine zj (zx (ze ?_))
 cases h
 exact ⟨rfl, zE⟩
 try simp only at h
 refine zA (yh (zn (zs (zr ?_))))
 refine zU (zl (zn ?_))
 rcases zI h with ⟨h25, h⟩ | ⟨h25, h⟩
 refine zi (zr ?_)
 obtain ⟨x26, h27, h27a, h27b, h⟩ := zX h
 obtain ⟨h28, h⟩ := ite_some h
 refine zU (zl (yn (zn (zr ?_))))
 refine zU (zl ?_)
 cases h
 exact ⟨rfl, zE⟩
 refine zj (zk (yn (zn (zr ?_))))
 refine zU (zl ?_)
 cases h
 exact ⟨rfl, zE⟩
 refine zj (zx (ze ?_))
 cases h
 exact ⟨rfl, zE⟩
 try simp only at h
 refine zA (yh (zn (zs (zr ?_))))
 refine zU (zl (zn (zq ?_)))
 cases h
 exact zT Tryz.results53
end Go.Proofs.YtjcdclpfeflfkaaGreatDoor
set_option linter.unusedVariables false
set_option linter.unusedSimpArgs false
namespace Go.Proofs.YtjcdclpfeflfkaaGreatDoor
open Go Go.Ab
set_option maxHeartbeats 4000000 in
theorem drossref01_sign_con {D : Prop} (a1 : Int) (b2 : Int) (r3 : Int) (h : drossref01_sign a1 b2 = some r3) : Con D Tryz.prog 150 [(.int .i64 a1), (.int .i64 b2)] (.int .i64 r3) := by
 refine zP Tryz.call150 Tryz.func150 rfl Tryz.ntmps150 fun X w hT => ?_
 simp only [drossref01_sign] at h
 refine zs (zr ?_)
 refine zU (zl (zn (zs (zs (zr ?_)))))
 refine zU (zl (zn ?_))
 rcases zI h with ⟨h4, h⟩ | ⟨h4, h⟩
 refine zi (zs (zr ?_))
 refine zU (zl (zn (zq (zt ?_))))
 cases h
 exact zT Tryz.results150
 refine zj (zk (zn (zs (zs (zr ?_)))))
 refine zU (zl (zn ?_))
 rcases zI h with ⟨h5, h⟩ | ⟨h5, h⟩
 refine zi (zs (zr ?_))
 refine zU (zl (zn (zq (zt ?_))))
 cases h
 exact zT Tryz.results150
 refine zj (zk (zn (zs (zr ?_))))
 refine zU (zl (zn (zq ?_)))
 cases h
 exact zT Tryz.results150
end Go.Proofs.YtjcdclpfeflfkaaGreatDoor
set_option linter.unusedVariables false
set_option linter.unusedSimpArgs false
namespace Go.Proofs.YtjcdclpfeflfkaaGreatDoor
open Go Go.Ab
set_option maxRecDepth 20000 in
set_option maxHeartbeats 4000000 in
theorem drossref01_strings_con {D : Prop} (a1 : List UInt8) (b2 : List UInt8) (r3 : Int) (h : drossref01_strings a1 b2 = some r3) : Con D Tryz.prog 166 [(.str a1), (.str b2)] (.int .i64 r3) := by
 refine zP Tryz.call166 Tryz.func166 rfl Tryz.ntmps166 fun X w hT => ?_
 simp only [drossref01_strings] at h
 refine zs (zr ?_)
 refine zU (zl (zn (zs (zs (zr ?_)))))
 refine zU (zl (zn (zb ?_)))
 obtain ⟨o4, h5, h⟩ := zB h
 refine zO (fun (s : Int) => ⟨[(0, .p (.str a1)), (1, .p (.str b2)), (5, .p (.int .i64 s))], []⟩) (fun (o : (Unit) ⊕ (Int)) => match o with | .inl o6 => tE (cX Tryz.f166 X w D hT) (.exit 0) ⟨[(0, .p (.str a1)), (1, .p (.str b2))], []⟩ | .inr o7 => tR Tryz.prog Tryz.f166 (.int .i64 o7)) h5 ?_ ?_
 clear h h5
 intro i8 x h
 simp only [drossref01_strings_l1] at h
 refine zs (zs (zr ?_))
 refine zU ?_
 rcases zI h with ⟨h9, h⟩ | ⟨h9, h⟩
 refine zw 10 true ?_
 refine zg ?_
 refine zg ?_
 refine zg ?_
 refine zg ?_
 refine zU (zl (zn ?_))
 rcases zI h with ⟨h10, h⟩ | ⟨h10, h⟩
 refine zi (zk (zn (zs (zb (zs (zd ?_))))))
 obtain ⟨c11, h12, h12a, h12b, h⟩ := zX h
 obtain ⟨c13, h14, h14a, h14b, h⟩ := zX h
 refine yU ?_
 refine yd (zn ?_)
 rcases zI h with ⟨h15, h⟩ | ⟨h15, h⟩
 refine zi (zs (zd ?_))
 refine yU ?_
 obtain ⟨r16, h17, h⟩ := zB h
 refine yc (drossref01_sign_con (IntKind.i64.wrap ((c11.toNat : Nat) : Int)) (IntKind.i64.wrap ((c13.toNat : Nat) : Int)) _ h17) ?_
 refine yU ?_
 refine yd (zn (zq (yr (zt ?_))))
 cases h
 exact ⟨rfl, zT Tryz.results166⟩
 refine zj (zk (yn (zn (zr ?_))))
 refine zU (zl ?_)
 cases h
 exact ⟨rfl, zE⟩
 refine zj (zx (ze ?_))
 cases h
 exact ⟨rfl, zE⟩
 refine zw 10 false ?_
 refine zh ?_
 refine zU (zl (zn ?_))
 refine zj (zx (ze ?_))
 cases h
 exact ⟨rfl, zE⟩
 rcases o4 with ⟨⟩ | r18
 try simp only at h
 refine zA (yh (zn (zs (zr ?_))))
 refine zU ?_
 obtain ⟨r19, h20, h⟩ := zB h
 refine zc (drossref01_sign_con (a1.length : Int) (b2.length : Int) _ h20) ?_
 refine zU (zl (zn (zq ?_)))
 cases h
 exact zT Tryz.results166
 try simp only at h
 refine zZ fun s hq => ?_
 refine yr (zt ?_)
 cases h
 exact hq
end Go.Proofs.YtjcdclpfeflfkaaGreatDoor
set_option linter.unusedVariables false
set_option linter.unusedSimpArgs false
namespace Go.Proofs.YtjcdclpfeflfkaaGreatDoor
open Go Go.Ab
set_option maxHeartbeats 4000000 in
theorem drossref01_Compare_con {D : Prop} (a1 : Value) (b2 : Value) (r3 : Int) (h : drossref01_Compare a1 b2 = some r3) : Con D Tryz.prog 149 [(encValue a1), (encValue b2)] (.int .i64 r3) := by
 refine zP Tryz.call149 Tryz.func149 rfl Tryz.ntmps149 fun X w hT => ?_
 simp only [drossref01_Compare] at h
 refine zs (zr ?_)
 refine zU (zl (zn (zs (zs (zr ?_)))))
 refine zU ?_
 obtain ⟨r4, h5, h⟩ := zB h
 refine zc (drossref01_sign_con a1.Kind b2.Kind _ h5) ?_
 refine zU (zl (zn (zs (zr ?_))))
 refine zU (zl (zn ?_))
 rcases zI h with ⟨h6, h⟩ | ⟨h6, h⟩
 refine zi (zs (zr ?_))
 refine zU (zl (zn (zq (zt ?_))))
 cases h
 exact zT Tryz.results149
 refine zj (zk (zn (zs (zs (zr ?_)))))
 refine zU ?_
 obtain ⟨r7, h8, h⟩ := zB h
 refine zc (drossref01_sign_con a1.Num b2.Num _ h8) ?_
 refine zU (zl (zn (zs (zr ?_))))
 refine zU (zl (zn ?_))
 rcases zI h with ⟨h9, h⟩ | ⟨h9, h⟩
 refine zi (zs (zr ?_))
 refine zU (zl (zn (zq (zt ?_))))
 cases h
 exact zT Tryz.results149
 refine zj (zk (zn (zs (zr ?_))))
 refine zU ?_
 obtain ⟨r10, h11, h⟩ := zB h
 refine zc (drossref01_strings_con a1.Str b2.Str _ h11) ?_
 refine zU (zl (zn (zq ?_)))
 cases h
 exact zT Tryz.results149
end Go.Proofs.YtjcdclpfeflfkaaGreatDoor
set_option linter.unusedVariables false
set_option linter.unusedSimpArgs false
namespace Go.Proofs.YtjcdclpfeflfkaaGreatDoor
open Go Go.Ab
set_option maxRecDepth 20000 in
set_option maxHeartbeats 4000000 in
theorem drossref01_Lists_con {D : Prop} (a1 : List Value) (b2 : List Value) (r3 : Int) (h : drossref01_Lists a1 b2 = some r3) : Con D Tryz.prog 111 [(.slc (List.map encValue a1)), (.slc (List.map encValue b2))] (.int .i64 r3) := by
 refine zP Tryz.call111 Tryz.func111 rfl Tryz.ntmps111 fun X w hT => ?_
 simp only [drossref01_Lists] at h
 refine zs (zr ?_)
 refine zU (zl (zn (zs (zs (zr ?_)))))
 refine zU (zl (zn (zb ?_)))
 obtain ⟨o4, h5, h⟩ := zB h
 refine zO (fun (s : Int) => ⟨[(0, .p (.slc (List.map encValue a1))), (1, .p (.slc (List.map encValue b2))), (5, .p (.int .i64 s))], []⟩) (fun (o : (Unit) ⊕ (Int)) => match o with | .inl o6 => tE (cX Tryz.f111 X w D hT) (.exit 0) ⟨[(0, .p (.slc (List.map encValue a1))), (1, .p (.slc (List.map encValue b2)))], []⟩ | .inr o7 => tR Tryz.prog Tryz.f111 (.int .i64 o7)) h5 ?_ ?_
 clear h h5
 intro i8 x h
 simp only [drossref01_Lists_l1] at h
 refine zs (zs (zr ?_))
 refine zU ?_
 rcases zI h with ⟨h9, h⟩ | ⟨h9, h⟩
 refine zw 11 true ?_
 refine zg ?_
 refine zg ?_
 refine zg ?_
 refine zg ?_
 refine zU (zl (zn ?_))
 rcases zI h with ⟨h10, h⟩ | ⟨h10, h⟩
 refine zi (zk (zn (zs (zb (zs (zd ?_))))))
 obtain ⟨x11, h12, h12a, h12b, h⟩ := zX h
 obtain ⟨x13, h14, h14a, h14b, h⟩ := zX h
 refine yU ?_
 obtain ⟨r15, h16, h⟩ := zB h
 refine yc (drossref01_Compare_con x11 x13 _ h16) ?_
 refine yU ?_
 refine yd (zn (zs (zr ?_)))
 refine zU (zl (zn ?_))
 rcases zI h with ⟨h17, h⟩ | ⟨h17, h⟩
 refine zi (zs (zr ?_))
 refine zU (zl (zn (zq (yr (zt ?_)))))
 cases h
 exact ⟨rfl, zT Tryz.results111⟩
 refine zj (zk (yn (zn (zr ?_))))
 refine zU (zl ?_)
 cases h
 exact ⟨rfl, zE⟩
 refine zj (zx (ze ?_))
 cases h
 exact ⟨rfl, zE⟩
 refine zw 11 false ?_
 refine zh ?_
 refine zU (zl (zn ?_))
 refine zj (zx (ze ?_))
 cases h
 exact ⟨rfl, zE⟩
 rcases o4 with ⟨⟩ | r18
 try simp only at h
 refine zA (yh (zn (zs (zr ?_))))
 refine zU ?_
 obtain ⟨r19, h20, h⟩ := zB h
 refine zc (drossref01_sign_con (a1.length : Int) (b2.length : Int) _ h20) ?_
 refine zU (zl (zn (zq ?_)))
 cases h
 exact zT Tryz.results111
 try simp only at h
 refine zZ fun s hq => ?_
 refine yr (zt ?_)
 cases h
 exact hq
end Go.Proofs.YtjcdclpfeflfkaaGreatDoor
set_option linter.unusedVariables false
set_option linter.unusedSimpArgs false
namespace Go.Proofs.YtjcdclpfeflfkaaGreatDoor
open Go Go.Ab
set_option maxHeartbeats 4000000 in
theorem drossref01_Same_con {D : Prop} (a1 : List Value) (b2 : List Value) (r3 : Bool) (h : drossref01_Same a1 b2 = some r3) : Con D Tryz.prog 65 [(.slc (List.map encValue a1)), (.slc (List.map encValue b2))] (.bool r3) := by
 refine zP Tryz.call65 Tryz.func65 rfl Tryz.ntmps65 fun X w hT => ?_
 simp only [drossref01_Same] at h
 refine zs (zr ?_)
 refine zU (zl (zn (zs (zr ?_))))
 refine zU ?_
 obtain ⟨r4, h5, h⟩ := zB h
 refine zc (drossref01_Lists_con a1 b2 _ h5) ?_
 refine zU (zl (zn (zq ?_)))
 cases h
 exact zT Tryz.results65
end Go.Proofs.YtjcdclpfeflfkaaGreatDoor
set_option linter.unusedVariables false
set_option linter.unusedSimpArgs false
namespace Go.Proofs.YtjcdclpfeflfkaaGreatDoor
open Go Go.Ab
set_option maxHeartbeats 4000000 in
theorem drossref03_Values_con {D : Prop} (r1 : Row) (s2 : Int) (r3 : List Value) (h : drossref03_Values r1 s2 = some r3) : Con D Tryz.prog 66 [(encRow r1), (.int .u32 s2)] (.slc (List.map encValue r3)) := by
 refine zP Tryz.call66 Tryz.func66 rfl Tryz.ntmps66 fun X w hT => ?_
 simp only [drossref03_Values] at h
 refine zs (zr ?_)
 refine zU (zl (zn (zs (zr ?_))))
 refine zU (zl (zn (zs (zs (zr ?_)))))
 refine zU (zl (zn (zb ?_)))
 obtain ⟨o4, h5, h⟩ := zB h
 refine zO (fun (s : List Value × Int) => ⟨[(1, .p (.int .u32 s2)), (2, .loc 2 1 0 0), (5, .own 24 1 0 s.1.length), (6, .p (.int .i64 s.2))], [(2, .arr 71 2 1 [.p (encRow r1)]), (24, .arr 138 3 1 (List.map AV.p (List.map encValue s.1)))]⟩) (fun (o6 : List Value) => tE (cX Tryz.f66 X w D hT) (.exit 0) ⟨[(5, .own 24 1 0 o6.length)], [(24, .arr 138 3 1 (List.map AV.p (List.map encValue o6)))]⟩) h5 ?_ ?_
 clear h h5
 intro s x h
 obtain ⟨o7, i8⟩ := s
 simp only [drossref03_Values_l1] at h
 dsimp only
 refine zs (zs (zr ?_))
 refine zU (zl (zn ?_))
 rcases zI h with ⟨h9, h⟩ | ⟨h9, h⟩
 refine zi (zk (zn (zs (zb (zs (zr ?_))))))
 refine zU ?_
 obtain ⟨r10, h11, h⟩ := zB h
 refine zc (drossref02_Has_con s2 i8 _ h11) ?_
 refine zl (zn ?_)
 rcases zI h with ⟨h12, h⟩ | ⟨h12, h⟩
 refine zi (zr ?_)
 obtain ⟨x13, h14, h14a, h14b, h⟩ := zX h
 obtain ⟨h15, h⟩ := ite_some h
 refine zU (zl (yn (zn (zr ?_))))
 refine zU (zl ?_)
 cases h
 exact ⟨rfl, zE⟩
 refine zj (zk (yn (zn (zr ?_))))
 refine zU (zl ?_)
 cases h
 exact ⟨rfl, zE⟩
 refine zj (zx (ze ?_))
 cases h
 exact ⟨rfl, zE⟩
 try simp only at h
 refine zA (yh (zn (zs (zr ?_))))
 refine zU (zl (zn (zq ?_)))
 cases h
 exact zT Tryz.results66
end Go.Proofs.YtjcdclpfeflfkaaGreatDoor
set_option linter.unusedVariables false
set_option linter.unusedSimpArgs false
namespace Go.Proofs.YtjcdclpfeflfkaaGreatDoor
open Go Go.Ab
set_option maxHeartbeats 4000000 in
theorem drossref03_Agree_con {D : Prop} (a1 : Row) (b2 : Row) (s3 : Int) (r4 : Bool) (h : drossref03_Agree a1 b2 s3 = some r4) : Con D Tryz.prog 31 [(encRow a1), (encRow b2), (.int .u32 s3)] (.bool r4) := by
 refine zP Tryz.call31 Tryz.func31 rfl Tryz.ntmps31 fun X w hT => ?_
 simp only [drossref03_Agree] at h
 refine zs (zr ?_)
 refine zU (zl (zn (zs (zd ?_))))
 refine yU ?_
 obtain ⟨r5, h6, h⟩ := zB h
 refine yc (drossref03_Values_con a1 s3 _ h6) ?_
 refine yU ?_
 obtain ⟨r7, h8, h⟩ := zB h
 refine yc (drossref03_Values_con b2 s3 _ h8) ?_
 obtain ⟨r9, h10, h⟩ := zB h
 refine yc (drossref01_Same_con r5 r7 _ h10) ?_
 refine yU ?_
 refine yd (zn (zq ?_))
 cases h
 exact zT Tryz.results31
end Go.Proofs.YtjcdclpfeflfkaaGreatDoor
set_option linter.unusedVariables false
set_option linter.unusedSimpArgs false
namespace Go.Proofs.YtjcdclpfeflfkaaGreatDoor
open Go Go.Ab
set_option maxRecDepth 20000 in
set_option maxHeartbeats 4000000 in
theorem drossref08_Satisfies_con {D : Prop} (t1 : Table) (f2 : FD) (r3 : Bool) (h : drossref08_Satisfies t1 f2 = some r3) : Con D Tryz.prog 14 [(encTable t1), (encFD f2)] (.bool r3) := by
 refine zP Tryz.call14 Tryz.func14 rfl Tryz.ntmps14 fun X w hT => ?_
 simp only [drossref08_Satisfies] at h
 refine zs (zr ?_)
 refine zU (zl (zn (zs (zs (zr ?_)))))
 refine zU (zl (zn (zb ?_)))
 obtain ⟨o4, h5, h⟩ := zB h
 refine zO (fun (s : Int) => ⟨[(2, .loc 2 1 0 0), (3, .loc 3 1 0 0), (5, .p (.int .i64 s))], [(2, .arr 25 3 1 [.p (encTable t1)]), (3, .arr 29 2 1 [.p (encFD f2)])]⟩) (fun (o : (Unit) ⊕ (Bool)) => match o with | .inl o6 => tE (cX Tryz.f14 X w D hT) (.exit 0) ⟨[], []⟩ | .inr o7 => tR Tryz.prog Tryz.f14 (.bool o7)) h5 ?_ ?_
 clear h h5
 intro i8 x h
 simp only [drossref08_Satisfies_l4] at h
 refine zs (zs (zr ?_))
 refine zU (zl (zn ?_))
 rcases zI h with ⟨h9, h⟩ | ⟨h9, h⟩
 refine zi (zk (zn (zs (zb (zs (zr ?_))))))
 refine zU (zl (zn (zb ?_)))
 obtain ⟨o10, h11, h⟩ := zB h
 refine zO (fun (s : Int) => ⟨[(2, .loc 2 1 0 0), (3, .loc 3 1 0 0), (5, .p (.int .i64 i8)), (6, .p (.int .i64 s))], [(2, .arr 25 3 1 [.p (encTable t1)]), (3, .arr 29 2 1 [.p (encFD f2)])]⟩) (fun (o : (Unit) ⊕ (Bool)) => match o with | .inl o12 => tE (cX Tryz.f14 X w D hT) (.exit 2) ⟨[(2, .loc 2 1 0 0), (3, .loc 3 1 0 0), (5, .p (.int .i64 i8))], [(2, .arr 25 3 1 [.p (encTable t1)]), (3, .arr 29 2 1 [.p (encFD f2)])]⟩ | .inr o13 => tR Tryz.prog Tryz.f14 (.bool o13)) h11 ?_ ?_
 clear h h9 h11
 intro k14 x h
 simp only [drossref08_Satisfies_l3] at h
 refine zs (zs (zr ?_))
 refine zU (zl (zn ?_))
 rcases zI h with ⟨h15, h⟩ | ⟨h15, h⟩
 refine zi (zk (zn (zs (zb (zs (zd ?_))))))
 obtain ⟨x16, h17, h17a, h17b, h⟩ := zX h
 obtain ⟨x18, h19, h19a, h19b, h⟩ := zX h
 refine yU ?_
 obtain ⟨r20, h21, h⟩ := zB h
 refine yc (drossref03_Agree_con x16 x18 f2.Lhs _ h21) ?_
 refine yU ?_
 rcases zI h with ⟨h22, h⟩ | ⟨h22, h⟩
 refine yw 32 true ?_
 refine yg ?_
 refine yg ?_
 refine yg ?_
 refine yg ?_
 refine yg ?_
 refine yg ?_
 refine yg ?_
 refine yg ?_
 refine yg ?_
 refine yg ?_
 refine yg ?_
 refine yg ?_
 obtain ⟨r23, h24, h⟩ := zB h
 refine yc (drossref03_Agree_con x16 x18 f2.Rhs _ h24) ?_
 refine yg ?_
 refine yU ?_
 refine yd (zn ?_)
 rcases zI h with ⟨h25, h⟩ | ⟨h25, h⟩
 refine zj (zk (yn (zn (zr ?_))))
 refine zU (zl ?_)
 cases h
 exact ⟨rfl, zE⟩
 refine zi (zs (zr ?_))
 refine zU (zl (zn (zq (yr (zt ?_)))))
 cases h
 exact ⟨rfl, zT Tryz.results14⟩
 refine yw 32 false ?_
 refine yk ?_
 refine yU ?_
 refine yd (zn ?_)
 refine zj (zk (yn (zn (zr ?_))))
 refine zU (zl ?_)
 cases h
 exact ⟨rfl, zE⟩
 refine zj (zx (ze ?_))
 cases h
 exact ⟨rfl, zE⟩
 rcases o10 with ⟨⟩ | r26
 try simp only at h
 refine zA (yh (yn (zn (zr ?_))))
 refine zU (zl ?_)
 cases h
 exact ⟨rfl, zE⟩
 try simp only at h
 refine zZ fun s hq => ?_
 refine yr (yr (zt ?_))
 cases h
 refine ⟨rfl, ?_⟩
 exact hq
 refine zj (zx (ze ?_))
 cases h
 exact ⟨rfl, zE⟩
 rcases o4 with ⟨⟩ | r27
 try simp only at h
 refine zA (yh (zn (zs (zr ?_))))
 refine zU (zl (zn (zq ?_)))
 cases h
 exact zT Tryz.results14
 try simp only at h
 refine zZ fun s hq => ?_
 refine yr (zt ?_)
 cases h
 exact hq
end Go.Proofs.YtjcdclpfeflfkaaGreatDoor
set_option linter.unusedVariables false
set_option linter.unusedSimpArgs false
namespace Go.Proofs.YtjcdclpfeflfkaaGreatDoor
open Go Go.Ab
set_option maxHeartbeats 4000000 in
theorem drossref28_determines_con {D : Prop} (t1 : Table) (s2 : Int) (a3 : Int) (r4 : Bool) (h : drossref28_determines t1 s2 a3 = some r4) : Con D Tryz.prog 95 [(encTable t1), (.int .u32 s2), (.int .i64 a3)] (.bool r4) := by
 refine zP Tryz.call95 Tryz.func95 rfl Tryz.ntmps95 fun X w hT => ?_
 simp only [drossref28_determines] at h
 refine zs (zr ?_)
 refine zU (zl (zn (zs (zd ?_))))
 obtain ⟨h5, h⟩ := ite_none h
 refine yU ?_
 obtain ⟨r6, h7, h⟩ := zB h
 refine yc (drossref08_Satisfies_con t1 (FD.mk s2 (IntKind.u32.wrap (1 * 2 ^ (min (a3).toNat 32)))) _ h7) ?_
 refine yU ?_
 refine yd (zn (zq ?_))
 cases h
 exact zT Tryz.results95
end Go.Proofs.YtjcdclpfeflfkaaGreatDoor
set_option linter.unusedVariables false
set_option linter.unusedSimpArgs false
namespace Go.Proofs.YtjcdclpfeflfkaaGreatDoor
open Go Go.Ab
set_option maxHeartbeats 4000000 in
theorem drossref28_For_con {D : Prop} (t1 : Table) (a2 : Int) (r3 : List Int × Int) (h : drossref28_For t1 a2 = some r3) : Con D Tryz.prog 58 [(encTable t1), (.int .i64 a2)] (.tup [(.slc (List.map (PV.int .u32) r3.1)), (.int .i64 r3.2)]) := by
 refine zP Tryz.call58 Tryz.func58 rfl Tryz.ntmps58 fun X w hT => ?_
 simp only [drossref28_For] at h
 refine zs (zr ?_)
 refine zU (zl (zn (zs (zs (zr ?_)))))
 refine zU ?_
 obtain ⟨r4, h5, h⟩ := zB h
 refine zc (drossref28_Error_con t1 _ h5) ?_
 refine zU (zl (zn (zs (zr ?_))))
 refine zU (zl (zn ?_))
 rcases zI h with ⟨h6, h⟩ | ⟨h6, h⟩
 refine zi (zs (zr ?_))
 refine zU (zl (zn (zq (zt ?_))))
 cases h
 exact zT Tryz.results58
 refine zj (zk (zn (zs (zs (zr ?_)))))
 refine zU ?_
 rcases zI h with ⟨h7, h⟩ | ⟨h7, h⟩
 refine zw 17 true ?_
 refine zh ?_
 refine zU (zl (zn ?_))
 refine zi (zs (zr ?_))
 refine zU (zl (zn (zq (zt ?_))))
 cases h
 exact zT Tryz.results58
 refine zw 17 false ?_
 refine zg ?_
 refine zg ?_
 refine zg ?_
 refine zg ?_
 refine zg ?_
 refine zU (zl (zn ?_))
 rcases zI h with ⟨h8, h⟩ | ⟨h8, h⟩
 refine zi (zs (zr ?_))
 refine zU (zl (zn (zq (zt ?_))))
 cases h
 exact zT Tryz.results58
 refine zj (zk (zn (zs (zd ?_))))
 refine yU ?_
 obtain ⟨r9, h10, h⟩ := zB h
 refine yc (drossref02_Full_con (t1.Attrs.length : Int) _ h10) ?_
 obtain ⟨h11, h⟩ := ite_none h
 refine yU ?_
 obtain ⟨r12, h13, h⟩ := zB h
 refine yc (drossref02_Subsets_con (IntKind.u32.wrap ((BitVec.ofInt 32 r9 &&& ~~~ (BitVec.ofInt 32 (IntKind.u32.wrap (1 * 2 ^ (min (a2).toNat 32))))).toNat : Int)) _ h13) ?_
 refine yU ?_
 refine yd (zn (zs (zr ?_)))
 refine zU (zl (zn (zs (zs (zr ?_)))))
 refine zU (zl (zn (zb ?_)))
 obtain ⟨o14, h15, h⟩ := zB h
 refine zO (fun (s : List Int × Int) => ⟨[(1, .p (.int .i64 a2)), (2, .loc 2 1 0 0), (7, .p (.slc (List.map (PV.int .u32) r12))), (8, .own 51 1 0 s.1.length), (9, .p (.int .i64 s.2))], [(2, .arr 25 3 1 [.p (encTable t1)]), (51, .arr 27 1 1 (List.map AV.p (List.map (PV.int .u32) s.1)))]⟩) (fun (o16 : List Int) => tE (cX Tryz.f58 X w D hT) (.exit 0) ⟨[(8, .own 51 1 0 o16.length)], [(51, .arr 27 1 1 (List.map AV.p (List.map (PV.int .u32) o16)))]⟩) h15 ?_ ?_
 clear h h5 h6 h7 h8 h10 h11 h13 h15
 intro s x h
 obtain ⟨o17, i18⟩ := s
 simp only [drossref28_For_l1] at h
 dsimp only
 refine zs (zs (zr ?_))
 refine zU (zl (zn ?_))
 rcases zI h with ⟨h19, h⟩ | ⟨h19, h⟩
 refine zi (zk (zn (zs (zb (zs (zd ?_))))))
 obtain ⟨x20, h21, h21a, h21b, h⟩ := zX h
 refine yU ?_
 obtain ⟨r22, h23, h⟩ := zB h
 refine yc (drossref28_determines_con t1 x20 a2 _ h23) ?_
 refine yd (zn ?_)
 rcases zI h with ⟨h24, h⟩ | ⟨h24, h⟩
 refine zi (zr ?_)
 obtain ⟨h25, h⟩ := ite_some h
 refine zU (zl (yn (zn (zr ?_))))
 refine zU (zl ?_)
 cases h
 exact ⟨rfl, zE⟩
 refine zj (zk (yn (zn (zr ?_))))
 refine zU (zl ?_)
 cases h
 exact ⟨rfl, zE⟩
 refine zj (zx (ze ?_))
 cases h
 exact ⟨rfl, zE⟩
 try simp only at h
 refine zA (yh (zn (zs (zr ?_))))
 refine zU ?_
 refine zM ⟨[(52, .p (.slc (List.map (PV.int .u32) o14)))], []⟩ ?_
 obtain ⟨r26, h27, h⟩ := zB h
 refine zc (drossref02_Minimal_con o14 _ h27) ?_
 refine zU (zl (zn (zq ?_)))
 cases h
 exact zT Tryz.results58
end Go.Proofs.YtjcdclpfeflfkaaGreatDoor
set_option linter.unusedVariables false
set_option linter.unusedSimpArgs false
namespace Go.Proofs.YtjcdclpfeflfkaaGreatDoor
open Go Go.Ab
set_option maxRecDepth 20000 in
set_option maxHeartbeats 4000000 in
theorem drossref28_All_con {D : Prop} (t1 : Table) (r2 : List FD × Int) (h : drossref28_All t1 = some r2) : Con D Tryz.prog 23 [(encTable t1)] (.tup [(.slc (List.map encFD r2.1)), (.int .i64 r2.2)]) := by
 refine zP Tryz.call23 Tryz.func23 rfl Tryz.ntmps23 fun X w hT => ?_
 simp only [drossref28_All] at h
 refine zs (zr ?_)
 refine zU (zl (zn (zs (zs (zr ?_)))))
 refine zU ?_
 obtain ⟨r3, h4, h⟩ := zB h
 refine zc (drossref28_Error_con t1 _ h4) ?_
 refine zU (zl (zn (zs (zr ?_))))
 refine zU (zl (zn ?_))
 rcases zI h with ⟨h5, h⟩ | ⟨h5, h⟩
 refine zi (zs (zr ?_))
 refine zU (zl (zn (zq (zt ?_))))
 cases h
 exact zT Tryz.results23
 refine zj (zk (zn (zs (zr ?_))))
 refine zU (zl (zn (zs (zs (zr ?_)))))
 refine zU (zl (zn (zb ?_)))
 obtain ⟨o6, h7, h⟩ := zB h
 refine zO (fun (s : List FD × Int) => ⟨[(1, .loc 1 1 0 0), (5, .own 43 1 0 s.1.length), (6, .p (.int .i64 s.2))], [(1, .arr 25 3 1 [.p (encTable t1)]), (43, .arr 29 2 1 (List.map AV.p (List.map encFD s.1)))]⟩) (fun (o8 : List FD) => tE (cX Tryz.f23 X w D hT) (.exit 0) ⟨[(5, .own 43 1 0 o8.length)], [(43, .arr 29 2 1 (List.map AV.p (List.map encFD o8)))]⟩) h7 ?_ ?_
 clear h h4 h5 h7
 intro s x h
 obtain ⟨o9, a10⟩ := s
 simp only [drossref28_All_l4] at h
 dsimp only
 refine zs (zs (zr ?_))
 refine zU (zl (zn ?_))
 rcases zI h with ⟨h11, h⟩ | ⟨h11, h⟩
 refine zi (zk (zn (zs (zb (zs (zr ?_))))))
 refine zU ?_
 obtain ⟨r12, h13, h⟩ := zB h
 refine zc (drossref28_For_con t1 a10 _ h13) ?_
 refine zU (zl (zn (zs (zr ?_))))
 refine zU (zl (zn (zb ?_)))
 obtain ⟨o14, h15, h⟩ := zB h
 refine zO (fun (s : List FD × Int) => ⟨[(1, .loc 1 1 0 0), (5, .own 43 1 0 s.1.length), (6, .p (.int .i64 a10)), (7, .p (.slc (List.map (PV.int .u32) r12.1))), (9, .p (.int .i64 s.2))], [(1, .arr 25 3 1 [.p (encTable t1)]), (43, .arr 29 2 1 (List.map AV.p (List.map encFD s.1)))]⟩) (fun (o16 : List FD) => tE (cX Tryz.f23 X w D hT) (.exit 2) ⟨[(1, .loc 1 1 0 0), (5, .own 43 1 0 o16.length), (6, .p (.int .i64 a10))], [(1, .arr 25 3 1 [.p (encTable t1)]), (43, .arr 29 2 1 (List.map AV.p (List.map encFD o16)))]⟩) h15 ?_ ?_
 clear h h11 h13 h15
 intro s x h
 obtain ⟨o17, i18⟩ := s
 simp only [drossref28_All_l3] at h
 dsimp only
 refine zs (zs (zr ?_))
 refine zU (zl (zn ?_))
 rcases zI h with ⟨h19, h⟩ | ⟨h19, h⟩
 refine zi (zk (zn (zs (zb (zd ?_)))))
 obtain ⟨x20, h21, h21a, h21b, h⟩ := zX h
 obtain ⟨h22, h⟩ := ite_none h
 obtain ⟨h23, h⟩ := ite_some h
 refine yU ?_
 refine yd (yn (zn (zr ?_)))
 refine zU (zl ?_)
 cases h
 exact ⟨rfl, zE⟩
 refine zj (zx (ze ?_))
 cases h
 exact ⟨rfl, zE⟩
 try simp only at h
 refine zA (yh (yn (zn (zr ?_))))
 refine zU (zl ?_)
 cases h
 exact ⟨rfl, zE⟩
 refine zj (zx (ze ?_))
 cases h
 exact ⟨rfl, zE⟩
 try simp only at h
 refine zA (yh (zn (zs (zr ?_))))
 refine zU ?_
 refine zM ⟨[(44, .p (.slc (List.map encFD o6)))], []⟩ ?_
 obtain ⟨r24, h25, h⟩ := zB h
 refine zc (drossref28_Sorted_con o6 _ h25) ?_
 refine zU (zl (zn (zq ?_)))
 cases h
 exact zT Tryz.results23
end Go.Proofs.YtjcdclpfeflfkaaGreatDoor
set_option linter.unusedVariables false
set_option linter.unusedSimpArgs false
namespace Go.Proofs.YtjcdclpfeflfkaaGreatDoor
open Go Go.Ab
set_option maxRecDepth 20000 in
set_option maxHeartbeats 4000000 in
theorem drosslaw32_ApproxExact_con (x1 : Drossref03_Recipe) (m2 : Int) (r3 : Bool) (h : drosslaw32_ApproxExact x1 m2 = some r3) : Con False Tryz.prog 6 [(encDrossref03_Recipe x1), (.int .u8 m2)] (.bool r3) := by
 refine zP Tryz.call6 Tryz.func6 rfl Tryz.ntmps6 fun X w hT => ?_
 simp only [drosslaw32_ApproxExact] at h
 refine zs (zr ?_)
 refine zU (zl (zn (zs (zr ?_))))
 refine zU ?_
 obtain ⟨r4, h5, h⟩ := zB h
 refine zc (drossref03_Table_con x1 7 _ h5) ?_
 refine zU (zl (zn (zs ?_)))
 obtain ⟨t6, h7, h⟩ := zB h
 refine zJ (fun (o8 : Bool) => tE (cX Tryz.f6 X w False hT) .normal ⟨[(1, .p (.int .u8 m2)), (5, .loc 5 1 0 0), (27, .p (.bool o8))], [(5, .arr 25 3 1 [.p (encTable r4.1)])]⟩) t6 ?_ ?_
 replace h := h7
 clear h7
 refine zr ?_
 obtain ⟨r9, h10, h⟩ := zB h
 refine zc (drosslaw32_awake_con  _ h10) ?_
 refine zU ?_
 rcases zI h with ⟨h11, h⟩ | ⟨h11, h⟩
 refine zw 18 false ?_
 refine zg ?_
 refine zg ?_
 refine zU ?_
 rcases zI h with ⟨h12, h⟩ | ⟨h12, h⟩
 replace h := h.symm
 refine zw 22 false ?_
 refine zg ?_
 refine zg ?_
 refine zg ?_
 refine zg ?_
 refine zU (zl ?_)
 cases h
 exact ⟨rfl, zE⟩
 refine zw 22 true ?_
 refine zh ?_
 refine zU (zl ?_)
 cases h
 exact ⟨rfl, zE⟩
 refine zw 18 true ?_
 refine zh ?_
 refine zU ?_
 refine zh ?_
 refine zU (zl ?_)
 cases h
 exact ⟨rfl, zE⟩
 try simp only at h
 refine zA (zn ?_)
 rcases zI h with ⟨h13, h⟩ | ⟨h13, h⟩
 refine zi (zs (zr ?_))
 obtain ⟨r14, h15, h⟩ := zB h
 refine zc (drosslaw32_awake_con  _ h15) ?_
 refine zU (zl (zn (zq (zt ?_))))
 cases h
 exact zT Tryz.results6
 refine zj (zk (zn (zs (zd ?_))))
 refine yU ?_
 obtain ⟨r16, h17, h⟩ := zB h
 refine yc (drossref04_Of_con 0 1 _ h17) ?_
 obtain ⟨r18, h19, h⟩ := zB h
 refine yc (approx_Minimal_con r4.1 (IntKind.i64.wrap (1 + (IntKind.i64.wrap (Int.tmod m2 3)))) r16 _ h19) ?_
 refine yU ?_
 refine yd (zn (zs (zr ?_)))
 refine zU ?_
 obtain ⟨r20, h21, h⟩ := zB h
 refine zc (drossref28_All_con r4.1 _ h21) ?_
 refine zU (zl (zn (zs (zr ?_))))
 refine zU ?_
 rcases zI h with ⟨h22, h⟩ | ⟨h22, h⟩
 refine zw 46 true ?_
 refine zg ?_
 refine zg ?_
 refine zU ?_
 rcases zI h with ⟨h23, h⟩ | ⟨h23, h⟩
 refine zw 50 true ?_
 refine zg ?_
 refine zg ?_
 obtain ⟨r24, h25, h⟩ := zB h
 refine zc (drossref09_Same_con r18.1 r20.1 _ h25) ?_
 refine zU (zl (zn (zq ?_)))
 cases h
 exact zT Tryz.results6
 refine zw 50 false ?_
 refine zh ?_
 refine zU (zl (zn (zq ?_)))
 cases h
 exact zT Tryz.results6
 refine zw 46 false ?_
 refine zh ?_
 refine zU ?_
 refine zh ?_
 refine zU (zl (zn (zq ?_)))
 cases h
 exact zT Tryz.results6
end Go.Proofs.YtjcdclpfeflfkaaGreatDoor
