/- Each function of the program computes what its Lean function says, where that has a value. -/
import Derived.Shelf.Small.Strs
import Derived.Shelf.Spec.BitsCarry
import Derived.Shelf.SlSortCmp.NoneTotal
import Derived.Ground.SlsfProg
import Derived.Shelf.SortM.Plain
import Derived.Shelf.SortM.SortNone
import Derived.Ground.SlgmProg
import Derived.Shelf.Strings.Repeat
import Derived.Ground.NamesProg
import Derived.Shelf.Spec.SlicesGrow
import Derived.Ground.Names8Prog
import Derived.Test.YtbiklagfjeileaaGreatT1
import Derived.Test.YtbiklagfjeileaaGreatL1
import Derived.Test.YtbiklagfjeileaaGreatA2
set_option linter.unusedVariables false
set_option linter.unusedSimpArgs false
namespace Go.Proofs.YtbiklagfjeileaaGreat
open Go Go.Ab
theorem mixed : Tryz.prog.follows .mixedOrders = true := by kernel_rfl
@[reducible] noncomputable def cX (f : Func) (X : Nat → Prop) (w : World) (D : Prop) : Cx := ⟨Tryz.prog, f.ntmps, 0, X, [], fun _ => none, w, D⟩
theorem zd {N B : Nat} {X : Nat → Prop} {H0 : List (Nat × AO)} {inj0 : Inj} {w0 : World} {D : Prop} {Q : Exit → St → Prop} {st : St} {id : Nat} {l : List Oper} (h : DGo ⟨Tryz.prog, N, B, X, H0, inj0, w0, D⟩ l.toArray l st [] (DK ⟨Tryz.prog, N, B, X, H0, inj0, w0, D⟩ l.toArray Q)) (hs : slotsOk l.toArray = true := by kernel_rfl) : AWp ⟨Tryz.prog, N, B, X, H0, inj0, w0, D⟩ (.region id l.toArray true) Q st := awp_drawn_walk mixed hs h
theorem zdl (n : Nat) {N B : Nat} {X : Nat → Prop} {H0 : List (Nat × AO)} {inj0 : Inj} {w0 : World} {D : Prop} {Q : Exit → St → Prop} {st : St} {id : Nat} {l : List Oper} (h : DGo ⟨Tryz.prog, N, B, X, H0, inj0, w0, D⟩ l.toArray (l.take n) st [] (DKL ⟨Tryz.prog, N, B, X, H0, inj0, w0, D⟩ l.toArray (l.drop n) Q)) (hs : slotsOk l.toArray = true := by kernel_rfl) (hl : lastOk l.toArray n = true := by kernel_rfl) : AWp ⟨Tryz.prog, N, B, X, H0, inj0, w0, D⟩ (.region id l.toArray true) Q st := awp_drawn_last n mixed hs hl h
def encValue (x : Value) : PV := .agg [.int .i64 x.Kind, .int .i64 x.Num, .str x.Str]
@[go_sem] theorem encValue_fold (x : Value) : PV.agg [.int .i64 x.Kind, .int .i64 x.Num, .str x.Str] = encValue x := rfl
@[go_sem] theorem encValue_cells (x : Value) : (encValue x).cells = [.int .i64 x.Kind, .int .i64 x.Num, .str x.Str] := rfl
@[go_sem] theorem encValue_isAgg (x : Value) : (encValue x).isAgg = true := rfl
@[go_sem] theorem encValue_isTup (x : Value) : (encValue x).isTup = false := rfl
@[go_sem] theorem encValue_sl (l : List Value) : ((l.map encValue).all fun y => y.cells.length == 3) = true := by simp [encValue, PV.cells]
@[go_sem] theorem encValue_ok (l : List Value) : ((l.map encValue).map AV.p).all (elemOk 3) = true := elemOkAll_map _ _ _ fun _ => ⟨rfl, rfl⟩
@[go_sem] theorem encValue_flat (x : Value) : (encValue x).flat = true := rfl
def encRow (x : Row) : PV := .agg [.int .i64 x.ID, .slc (List.map encValue x.Values)]
@[go_sem] theorem encRow_fold (x : Row) : PV.agg [.int .i64 x.ID, .slc (List.map encValue x.Values)] = encRow x := rfl
@[go_sem] theorem encRow_cells (x : Row) : (encRow x).cells = [.int .i64 x.ID, .slc (List.map encValue x.Values)] := rfl
@[go_sem] theorem encRow_isAgg (x : Row) : (encRow x).isAgg = true := rfl
@[go_sem] theorem encRow_isTup (x : Row) : (encRow x).isTup = false := rfl
@[go_sem] theorem encRow_sl (l : List Row) : ((l.map encRow).all fun y => y.cells.length == 2) = true := by simp [encRow, PV.cells]
@[go_sem] theorem encRow_ok (l : List Row) : ((l.map encRow).map AV.p).all (elemOk 2) = true := elemOkAll_map _ _ _ fun _ => ⟨rfl, rfl⟩
def encTable (x : Table) : PV := .agg [.str x.Name, .slc (List.map PV.str x.Attrs), .slc (List.map encRow x.Rows)]
@[go_sem] theorem encTable_fold (x : Table) : PV.agg [.str x.Name, .slc (List.map PV.str x.Attrs), .slc (List.map encRow x.Rows)] = encTable x := rfl
@[go_sem] theorem encTable_cells (x : Table) : (encTable x).cells = [.str x.Name, .slc (List.map PV.str x.Attrs), .slc (List.map encRow x.Rows)] := rfl
@[go_sem] theorem encTable_isAgg (x : Table) : (encTable x).isAgg = true := rfl
@[go_sem] theorem encTable_isTup (x : Table) : (encTable x).isTup = false := rfl
@[go_sem] theorem encTable_sl (l : List Table) : ((l.map encTable).all fun y => y.cells.length == 3) = true := by simp [encTable, PV.cells]
@[go_sem] theorem encTable_ok (l : List Table) : ((l.map encTable).map AV.p).all (elemOk 3) = true := elemOkAll_map _ _ _ fun _ => ⟨rfl, rfl⟩
def encArr2_int64 (x : Arr2_int64) : PV := .agg [.int .i64 x.x0, .int .i64 x.x1]
@[go_sem] theorem encArr2_int64_fold (x : Arr2_int64) : PV.agg [.int .i64 x.x0, .int .i64 x.x1] = encArr2_int64 x := rfl
@[go_sem] theorem encArr2_int64_cells (x : Arr2_int64) : (encArr2_int64 x).cells = [.int .i64 x.x0, .int .i64 x.x1] := rfl
@[go_sem] theorem encArr2_int64_isAgg (x : Arr2_int64) : (encArr2_int64 x).isAgg = true := rfl
@[go_sem] theorem encArr2_int64_isTup (x : Arr2_int64) : (encArr2_int64 x).isTup = false := rfl
@[go_sem] theorem encArr2_int64_sl (l : List Arr2_int64) : ((l.map encArr2_int64).all fun y => y.cells.length == 2) = true := by simp [encArr2_int64, PV.cells]
@[go_sem] theorem encArr2_int64_ok (l : List Arr2_int64) : ((l.map encArr2_int64).map AV.p).all (elemOk 2) = true := elemOkAll_map _ _ _ fun _ => ⟨rfl, rfl⟩
@[go_sem] theorem encArr2_int64_flat (x : Arr2_int64) : (encArr2_int64 x).flat = true := rfl
def encArr3_int (x : Arr3_int) : PV := .agg [.int .i64 x.x0, .int .i64 x.x1, .int .i64 x.x2]
@[go_sem] theorem encArr3_int_fold (x : Arr3_int) : PV.agg [.int .i64 x.x0, .int .i64 x.x1, .int .i64 x.x2] = encArr3_int x := rfl
@[go_sem] theorem encArr3_int_cells (x : Arr3_int) : (encArr3_int x).cells = [.int .i64 x.x0, .int .i64 x.x1, .int .i64 x.x2] := rfl
@[go_sem] theorem encArr3_int_isAgg (x : Arr3_int) : (encArr3_int x).isAgg = true := rfl
@[go_sem] theorem encArr3_int_isTup (x : Arr3_int) : (encArr3_int x).isTup = false := rfl
@[go_sem] theorem encArr3_int_sl (l : List Arr3_int) : ((l.map encArr3_int).all fun y => y.cells.length == 3) = true := by simp [encArr3_int, PV.cells]
@[go_sem] theorem encArr3_int_ok (l : List Arr3_int) : ((l.map encArr3_int).map AV.p).all (elemOk 3) = true := elemOkAll_map _ _ _ fun _ => ⟨rfl, rfl⟩
@[go_sem] theorem encArr3_int_flat (x : Arr3_int) : (encArr3_int x).flat = true := rfl
def encRatio (x : Ratio) : PV := .agg [.int .i64 x.Num, .int .i64 x.Den]
@[go_sem] theorem encRatio_fold (x : Ratio) : PV.agg [.int .i64 x.Num, .int .i64 x.Den] = encRatio x := rfl
@[go_sem] theorem encRatio_cells (x : Ratio) : (encRatio x).cells = [.int .i64 x.Num, .int .i64 x.Den] := rfl
@[go_sem] theorem encRatio_isAgg (x : Ratio) : (encRatio x).isAgg = true := rfl
@[go_sem] theorem encRatio_isTup (x : Ratio) : (encRatio x).isTup = false := rfl
@[go_sem] theorem encRatio_sl (l : List Ratio) : ((l.map encRatio).all fun y => y.cells.length == 2) = true := by simp [encRatio, PV.cells]
@[go_sem] theorem encRatio_ok (l : List Ratio) : ((l.map encRatio).map AV.p).all (elemOk 2) = true := elemOkAll_map _ _ _ fun _ => ⟨rfl, rfl⟩
@[go_sem] theorem encRatio_flat (x : Ratio) : (encRatio x).flat = true := rfl
def encDrossref04_Wide (x : Drossref04_Wide) : PV := .agg [.int .u64 x.Hi, .int .u64 x.Lo]
@[go_sem] theorem encDrossref04_Wide_fold (x : Drossref04_Wide) : PV.agg [.int .u64 x.Hi, .int .u64 x.Lo] = encDrossref04_Wide x := rfl
@[go_sem] theorem encDrossref04_Wide_cells (x : Drossref04_Wide) : (encDrossref04_Wide x).cells = [.int .u64 x.Hi, .int .u64 x.Lo] := rfl
@[go_sem] theorem encDrossref04_Wide_isAgg (x : Drossref04_Wide) : (encDrossref04_Wide x).isAgg = true := rfl
@[go_sem] theorem encDrossref04_Wide_isTup (x : Drossref04_Wide) : (encDrossref04_Wide x).isTup = false := rfl
@[go_sem] theorem encDrossref04_Wide_sl (l : List Drossref04_Wide) : ((l.map encDrossref04_Wide).all fun y => y.cells.length == 2) = true := by simp [encDrossref04_Wide, PV.cells]
@[go_sem] theorem encDrossref04_Wide_ok (l : List Drossref04_Wide) : ((l.map encDrossref04_Wide).map AV.p).all (elemOk 2) = true := elemOkAll_map _ _ _ fun _ => ⟨rfl, rfl⟩
@[go_sem] theorem encDrossref04_Wide_flat (x : Drossref04_Wide) : (encDrossref04_Wide x).flat = true := rfl
end Go.Proofs.YtbiklagfjeileaaGreat
set_option linter.unusedVariables false
set_option linter.unusedSimpArgs false
namespace Go.Proofs.YtbiklagfjeileaaGreat
open Go Go.Ab
set_option maxRecDepth 20000 in
set_option maxHeartbeats 4000000 in
theorem drossref53_Table_con {D : Prop} (l1 : List (List UInt8)) (r2 : Table × Bool) (h : drossref53_Table l1 = some r2) : Con D Tryz.prog 8 [(.slc (List.map PV.str l1))] (.tup [(encTable r2.1), (.bool r2.2)]) := by
 refine zP Tryz.call8 Tryz.func8 rfl Tryz.ntmps8 fun X w => ?_
 simp only [drossref53_Table] at h
 refine zs (zr ?_)
 refine zU (zl (zn (zs (zr ?_))))
 refine zU (zl (zn (zs (zs (zr ?_)))))
 refine zU (zl (zn (zb ?_)))
 obtain ⟨o3, h4, h⟩ := zB h
 refine zO (fun (s : List Row × Int) => ⟨[(0, .p (.slc (List.map PV.str l1))), (2, .loc 2 1 0 0), (4, .loc 4 1 0 0), (5, .p (.int .i64 s.2))], [(2, .arr 26 3 1 [.agg [.p (.str []), .nils, .nils]]), (4, .arr 26 3 1 [.agg [.p (.str [114]), .own 7 1 0 ([[97]]).length, .own 72 1 0 s.1.length]]), (7, .arr 9 1 1 (List.map AV.p (List.map PV.str [[97]]))), (72, .arr 57 2 1 (List.map AV.p (List.map encRow s.1)))]⟩) (fun (o : (List Row) ⊕ (Table × Bool)) => match o with | .inl o5 => tE (cX Tryz.f8 X w D) (.exit 0) ⟨[(0, .p (.slc (List.map PV.str l1))), (2, .loc 2 1 0 0), (4, .loc 4 1 0 0)], [(2, .arr 26 3 1 [.agg [.p (.str []), .nils, .nils]]), (4, .arr 26 3 1 [.agg [.p (.str [114]), .own 7 1 0 ([[97]]).length, .own 72 1 0 o5.length]]), (7, .arr 9 1 1 (List.map AV.p (List.map PV.str [[97]]))), (72, .arr 57 2 1 (List.map AV.p (List.map encRow o5)))]⟩ | .inr o6 => tR Tryz.prog Tryz.f8 (.tup [(encTable o6.1), (.bool o6.2)])) h4 ?_ ?_
 clear h h4
 intro s x h
 obtain ⟨t7, i8⟩ := s
 simp only [drossref53_Table_l1] at h
 dsimp only
 refine zs (zs (zr ?_))
 refine zU (zl (zn ?_))
 rcases zI h with ⟨h9, h⟩ | ⟨h9, h⟩
 refine zi (zk (zn (zs (zb (zs (zs (zr ?_)))))))
 obtain ⟨x10, h11, h11a, h11b, h⟩ := zX h
 refine zU (zl (zn ?_))
 rcases zI h with ⟨h12, h⟩ | ⟨h12, h⟩
 refine zi (zs (zr ?_))
 refine zU (zl (zn (zq (zt (yr (zt ?_))))))
 cases h
 exact ⟨rfl, zT Tryz.results8⟩
 refine zj (zk (zn (zs (zr ?_))))
 refine zU (zl (zn (zs (zs (zr ?_)))))
 refine zU (zl (zn ?_))
 rcases zI h with ⟨h13, h⟩ | ⟨h13, h⟩
 refine zi (zr ?_)
 refine zU (zl (zn (zr ?_)))
 refine zW 9 ?_
 refine zM ⟨[(0, .p (.slc (List.map PV.str l1))), (2, .loc 2 1 0 0), (4, .loc 4 1 0 0), (5, .p (.int .i64 i8)), (64, .own 72 1 0 t7.length), (71, .own 71 1 0 1)], [(2, .arr 26 3 1 [.agg [.p (.str []), .nils, .nils]]), (4, .arr 26 3 1 [.agg [.p (.str [114]), .own 7 1 0 ([[97]]).length, .own 72 1 0 t7.length]]), (7, .arr 9 1 1 (List.map AV.p (List.map PV.str [[97]]))), (71, .arr 57 2 1 [.p (.agg [.int .i64 (IntKind.i64.wrap (1 + (IntKind.i64.wrap (2 * i8)))), .slc (List.map encValue [(Value.mk 0 0 [])])])]), (72, .arr 57 2 1 (List.map AV.p (List.map encRow t7)))]⟩ ?_
 obtain ⟨h14, h⟩ := ite_some h
 refine zU (zl (yn (zn (zr ?_))))
 refine zU (zl ?_)
 cases h
 exact ⟨rfl, zE⟩
 refine zj ?_
 obtain ⟨t15, h16, h⟩ := zB h
 refine zJ (fun (o17 : Bool) => tE (cX Tryz.f8 X w D) .normal ⟨[(0, .p (.slc (List.map PV.str l1))), (2, .loc 2 1 0 0), (4, .loc 4 1 0 0), (5, .p (.int .i64 i8)), (6, .loc 6 1 0 0), (54, .p (.bool o17))], [(2, .arr 26 3 1 [.agg [.p (.str []), .nils, .nils]]), (4, .arr 26 3 1 [.agg [.p (.str [114]), .own 7 1 0 ([[97]]).length, .own 72 1 0 t7.length]]), (6, .arr 54 3 1 [.p (.agg [.int .i64 2, .int .i64 0, .str x10])]), (7, .arr 9 1 1 (List.map AV.p (List.map PV.str [[97]]))), (72, .arr 57 2 1 (List.map AV.p (List.map encRow t7)))]⟩) t15 ?_ ?_
 replace h := h16
 clear h16
 refine zr ?_
 refine zU ?_
 rcases zI h with ⟨h18, h⟩ | ⟨h18, h⟩
 refine zw 39 true ?_
 refine zg ?_
 refine zg ?_
 refine zg ?_
 refine zg ?_
 obtain ⟨c19, h20, h20l, h20L, h⟩ := zY 0 h
 refine zg ?_
 refine zg ?_
 refine zU ?_
 rcases zI h with ⟨h21, h⟩ | ⟨h21, h⟩
 replace h := h.symm
 refine zw 47 true ?_
 refine zg ?_
 refine zg ?_
 refine zg ?_
 refine zg ?_
 refine zg ?_
 refine zg ?_
 refine zU (zl ?_)
 cases h
 exact ⟨rfl, zE⟩
 refine zw 47 false ?_
 refine zh ?_
 refine zU (zl ?_)
 cases h
 exact ⟨rfl, zE⟩
 refine zw 39 false ?_
 refine zh ?_
 refine zU ?_
 refine zh ?_
 refine zU (zl ?_)
 cases h
 exact ⟨rfl, zE⟩
 try simp only at h
 refine zA (zn ?_)
 rcases zI h with ⟨h22, h⟩ | ⟨h22, h⟩
 refine zi (zr ?_)
 obtain ⟨c23, h24, h24l, h24L, h⟩ := zY 0 h
 refine zU (zl (zn (zr ?_)))
 refine zW 9 ?_
 refine zM ⟨[(0, .p (.slc (List.map PV.str l1))), (2, .loc 2 1 0 0), (4, .loc 4 1 0 0), (5, .p (.int .i64 i8)), (64, .own 72 1 0 t7.length), (71, .own 71 1 0 1)], [(2, .arr 26 3 1 [.agg [.p (.str []), .nils, .nils]]), (4, .arr 26 3 1 [.agg [.p (.str [114]), .own 7 1 0 ([[97]]).length, .own 72 1 0 t7.length]]), (7, .arr 9 1 1 (List.map AV.p (List.map PV.str [[97]]))), (71, .arr 57 2 1 [.p (.agg [.int .i64 (IntKind.i64.wrap (1 + (IntKind.i64.wrap (2 * i8)))), .slc (List.map encValue [(Value.mk 1 (IntKind.i64.wrap (IntKind.u8.wrap (((c23.toNat : Nat) : Int) - 48))) [])])])]), (72, .arr 57 2 1 (List.map AV.p (List.map encRow t7)))]⟩ ?_
 obtain ⟨h25, h⟩ := ite_some h
 refine zU (zl (yn (zn (zr ?_))))
 refine zU (zl ?_)
 cases h
 exact ⟨rfl, zE⟩
 refine zj (zk (zn (zr ?_)))
 refine zW 9 ?_
 refine zM ⟨[(0, .p (.slc (List.map PV.str l1))), (2, .loc 2 1 0 0), (4, .loc 4 1 0 0), (5, .p (.int .i64 i8)), (64, .own 72 1 0 t7.length), (71, .own 71 1 0 1)], [(2, .arr 26 3 1 [.agg [.p (.str []), .nils, .nils]]), (4, .arr 26 3 1 [.agg [.p (.str [114]), .own 7 1 0 ([[97]]).length, .own 72 1 0 t7.length]]), (7, .arr 9 1 1 (List.map AV.p (List.map PV.str [[97]]))), (71, .arr 57 2 1 [.p (.agg [.int .i64 (IntKind.i64.wrap (1 + (IntKind.i64.wrap (2 * i8)))), .slc (List.map encValue [(Value.mk 2 0 x10)])])]), (72, .arr 57 2 1 (List.map AV.p (List.map encRow t7)))]⟩ ?_
 obtain ⟨h26, h⟩ := ite_some h
 refine zU (zl (yn (zn (zr ?_))))
 refine zU (zl ?_)
 cases h
 exact ⟨rfl, zE⟩
 refine zj (zx (ze ?_))
 cases h
 exact ⟨rfl, zE⟩
 rcases o3 with t27 | r28
 try simp only at h
 refine zA (yh (zn (zs (zr ?_))))
 refine zU (zl (zn (zq ?_)))
 cases h
 exact zT Tryz.results8
 try simp only at h
 refine zZ fun s hq => ?_
 refine yr (zt ?_)
 cases h
 exact hq
end Go.Proofs.YtbiklagfjeileaaGreat
set_option linter.unusedVariables false
set_option linter.unusedSimpArgs false
namespace Go.Proofs.YtbiklagfjeileaaGreat
open Go Go.Ab
set_option maxRecDepth 20000 in
set_option maxHeartbeats 4000000 in
theorem table_isName_con {D : Prop} (s1 : List UInt8) (r2 : Bool) (h : table_isName s1 = some r2) : Con D Tryz.prog 79 [(.str s1)] (.bool r2) := by
 refine zP Tryz.call79 Tryz.func79 rfl Tryz.ntmps79 fun X w => ?_
 simp only [table_isName] at h
 refine zs (zr ?_)
 refine zU (zl (zn (zs (zs (zr ?_)))))
 refine zU ?_
 rcases zI h with ⟨h3, h⟩ | ⟨h3, h⟩
 refine zw 8 true ?_
 refine zh ?_
 refine zU ?_
 refine zh ?_
 refine zU (zl (zn ?_))
 refine zi (zs (zr ?_))
 refine zU (zl (zn (zq (zt ?_))))
 cases h
 exact zT Tryz.results79
 refine zw 8 false ?_
 refine zg ?_
 refine zg ?_
 refine zg ?_
 refine zU ?_
 rcases zI h with ⟨h4, h⟩ | ⟨h4, h⟩
 refine zw 13 true ?_
 refine zh ?_
 refine zU (zl (zn ?_))
 refine zi (zs (zr ?_))
 refine zU (zl (zn (zq (zt ?_))))
 cases h
 exact zT Tryz.results79
 refine zw 13 false ?_
 refine zg ?_
 refine zg ?_
 refine zU (zl (zn ?_))
 rcases zI h with ⟨h5, h⟩ | ⟨h5, h⟩
 refine zi (zs (zr ?_))
 refine zU (zl (zn (zq (zt ?_))))
 cases h
 exact zT Tryz.results79
 refine zj (zk (zn (zs (zs (zr ?_)))))
 refine zU (zl (zn (zb ?_)))
 obtain ⟨o6, h7, h⟩ := zB h
 refine zO (fun (s : Int) => ⟨[(0, .p (.str s1)), (18, .p (.int .i64 (s1.length : Int))), (19, .p (.int .i64 s))], []⟩) (fun (o : (Unit) ⊕ (Bool)) => match o with | .inl o8 => tE (cX Tryz.f79 X w D) (.exit 0) ⟨[], []⟩ | .inr o9 => tR Tryz.prog Tryz.f79 (.bool o9)) h7 ?_ ?_
 clear h h3 h4 h5 h7
 intro t10 x h
 simp only [table_isName_l1] at h
 refine zs (zr ?_)
 refine zU (zl (zn (zs ?_)))
 rcases zI h with ⟨h11, h⟩ | ⟨h11, h⟩
 refine zi (zk (zn (zs (zb (zs (zr ?_))))))
 refine zU (zl (zn (zs (zr ?_))))
 obtain ⟨c12, h13, h13a, h13b, h⟩ := zX h
 refine zU (zl (zn ?_))
 obtain ⟨l14, h15, h⟩ := zB h
 refine zJ (fun (o16 : Bool) => tE (cX Tryz.f79 X w D) .normal ⟨[(0, .p (.str s1)), (3, .p (.int .i64 t10)), (4, .p (.int .u8 ((c12.toNat : Nat) : Int))), (5, .p (.bool o16)), (18, .p (.int .i64 (s1.length : Int))), (19, .p (.int .i64 t10))], []⟩) l14 ?_ ?_
 replace h := h15
 clear h15
 refine zr ?_
 refine zU ?_
 rcases zI h with ⟨h17, h⟩ | ⟨h17, h⟩
 refine zw 27 true ?_
 refine zg ?_
 refine zg ?_
 refine zU ?_
 rcases zI h with ⟨h18, h⟩ | ⟨h18, h⟩
 refine zw 31 true ?_
 refine zh ?_
 refine zU ?_
 refine zh ?_
 refine zU (zl ?_)
 cases h
 exact ⟨rfl, zE⟩
 refine zw 31 false ?_
 refine zg ?_
 refine zg ?_
 refine zg ?_
 rcases zI h with ⟨h19, h⟩ | ⟨h19, h⟩
 refine zw 34 true ?_
 refine zg ?_
 refine zg ?_
 refine zg ?_
 refine zU ?_
 rcases zI h with ⟨h20, h⟩ | ⟨h20, h⟩
 refine zw 39 true ?_
 refine zh ?_
 refine zU (zl ?_)
 cases h
 exact ⟨rfl, zE⟩
 replace h := h.symm
 refine zw 39 false ?_
 refine zg ?_
 refine zg ?_
 refine zU (zl ?_)
 cases h
 exact ⟨rfl, zE⟩
 replace h := h.symm
 refine zw 34 false ?_
 refine zh ?_
 refine zg ?_
 refine zU ?_
 refine zg ?_
 refine zg ?_
 refine zU (zl ?_)
 cases h
 exact ⟨rfl, zE⟩
 refine zw 27 false ?_
 refine zh ?_
 refine zU ?_
 refine zg ?_
 refine zg ?_
 refine zg ?_
 rcases zI h with ⟨h21, h⟩ | ⟨h21, h⟩
 refine zw 34 true ?_
 refine zg ?_
 refine zg ?_
 refine zg ?_
 refine zU ?_
 rcases zI h with ⟨h22, h⟩ | ⟨h22, h⟩
 refine zw 39 true ?_
 refine zh ?_
 refine zU (zl ?_)
 cases h
 exact ⟨rfl, zE⟩
 replace h := h.symm
 refine zw 39 false ?_
 refine zg ?_
 refine zg ?_
 refine zU (zl ?_)
 cases h
 exact ⟨rfl, zE⟩
 replace h := h.symm
 refine zw 34 false ?_
 refine zh ?_
 refine zg ?_
 refine zU ?_
 refine zg ?_
 refine zg ?_
 refine zU (zl ?_)
 cases h
 exact ⟨rfl, zE⟩
 try simp only at h
 refine zA (zn (zs (zr ?_)))
 refine zU ?_
 rcases zI h with ⟨h23, h⟩ | ⟨h23, h⟩
 refine zw 45 false ?_
 refine zh ?_
 refine zU (zl (zn ?_))
 refine zj (zk (yn (zn (zr ?_))))
 refine zU (zl ?_)
 cases h
 exact ⟨rfl, zE⟩
 refine zw 45 true ?_
 refine zg ?_
 refine zg ?_
 refine zg ?_
 rcases zI h with ⟨h24, h⟩ | ⟨h24, h⟩
 replace h := h.symm
 refine zw 48 true ?_
 refine zh ?_
 refine zg ?_
 refine zg ?_
 refine zh ?_
 refine zg ?_
 refine zU (zl (zn ?_))
 refine zi (zs (zr ?_))
 refine zU (zl (zn (zq (yr (zt ?_)))))
 cases h
 exact ⟨rfl, zT Tryz.results79⟩
 refine zw 48 false ?_
 refine zg ?_
 refine zg ?_
 refine zg ?_
 refine zg ?_
 rcases zI h with ⟨h25, h⟩ | ⟨h25, h⟩
 replace h := h.symm
 refine zw 52 true ?_
 refine zh ?_
 refine zg ?_
 refine zU (zl (zn ?_))
 refine zi (zs (zr ?_))
 refine zU (zl (zn (zq (yr (zt ?_)))))
 cases h
 exact ⟨rfl, zT Tryz.results79⟩
 refine zw 52 false ?_
 refine zg ?_
 refine zg ?_
 refine zg ?_
 refine zU (zl (zn ?_))
 rcases zI h with ⟨h26, h⟩ | ⟨h26, h⟩
 refine zi (zs (zr ?_))
 refine zU (zl (zn (zq (yr (zt ?_)))))
 cases h
 exact ⟨rfl, zT Tryz.results79⟩
 refine zj (zk (yn (zn (zr ?_))))
 refine zU (zl ?_)
 cases h
 exact ⟨rfl, zE⟩
 refine zj (zx (ze ?_))
 cases h
 exact ⟨rfl, zE⟩
 rcases o6 with ⟨⟩ | r27
 try simp only at h
 refine zA (yh (zn (zs (zr ?_))))
 refine zU (zl (zn (zq ?_)))
 cases h
 exact zT Tryz.results79
 try simp only at h
 refine zZ fun s hq => ?_
 refine yr (zt ?_)
 cases h
 exact hq
end Go.Proofs.YtbiklagfjeileaaGreat
set_option linter.unusedVariables false
set_option linter.unusedSimpArgs false
namespace Go.Proofs.YtbiklagfjeileaaGreat
open Go Go.Ab
set_option maxHeartbeats 4000000 in
theorem slices_Index_string_con {D : Prop} (s1 : List (List UInt8)) (v2 : List UInt8) (r3 : Int) (h : slices_Index_string s1 v2 = some r3) : Con D Tryz.prog 124 [(.slc (List.map PV.str s1)), (.str v2)] (.int .i64 r3) := by
 refine zP Tryz.call124 Tryz.func124 rfl Tryz.ntmps124 fun X w => ?_
 simp only [slices_Index_string] at h
 refine zs (zr ?_)
 refine zU (zl (zn (zs (zs (zr ?_)))))
 refine zU (zl (zn (zb ?_)))
 obtain ⟨o4, h5, h⟩ := zB h
 refine zO (fun (s : Int) => ⟨[(0, .p (.slc (List.map PV.str s1))), (1, .p (.str v2)), (7, .p (.int .i64 (s1.length : Int))), (8, .p (.int .i64 s))], []⟩) (fun (o : (Unit) ⊕ (Int)) => match o with | .inl o6 => tE (cX Tryz.f124 X w D) (.exit 0) ⟨[], []⟩ | .inr o7 => tR Tryz.prog Tryz.f124 (.int .i64 o7)) h5 ?_ ?_
 clear h h5
 intro t8 x h
 simp only [slices_Index_string_l1] at h
 refine zs (zr ?_)
 refine zU (zl (zn (zs ?_)))
 rcases zI h with ⟨h9, h⟩ | ⟨h9, h⟩
 refine zi (zk (zn (zs (zb (zs (zr ?_))))))
 refine zU (zl (zn (zs (zr ?_))))
 obtain ⟨x10, h11, h11a, h11b, h⟩ := zX h
 refine zU (zl (zn ?_))
 rcases zI h with ⟨h12, h⟩ | ⟨h12, h⟩
 refine zi (zs (zr ?_))
 refine zU (zl (zn (zq (yr (zt ?_)))))
 cases h
 exact ⟨rfl, zT Tryz.results124⟩
 refine zj (zk (yn (zn (zr ?_))))
 refine zU (zl ?_)
 cases h
 exact ⟨rfl, zE⟩
 refine zj (zx (ze ?_))
 cases h
 exact ⟨rfl, zE⟩
 rcases o4 with ⟨⟩ | r13
 try simp only at h
 refine zA (yh (zn (zs (zr ?_))))
 refine zU (zl (zn (zq ?_)))
 cases h
 exact zT Tryz.results124
 try simp only at h
 refine zZ fun s hq => ?_
 refine yr (zt ?_)
 cases h
 exact hq
end Go.Proofs.YtbiklagfjeileaaGreat
set_option linter.unusedVariables false
set_option linter.unusedSimpArgs false
namespace Go.Proofs.YtbiklagfjeileaaGreat
open Go Go.Ab
set_option maxHeartbeats 4000000 in
theorem slices_Contains_string_con {D : Prop} (s1 : List (List UInt8)) (v2 : List UInt8) (r3 : Bool) (h : slices_Contains_string s1 v2 = some r3) : Con D Tryz.prog 80 [(.slc (List.map PV.str s1)), (.str v2)] (.bool r3) := by
 refine zP Tryz.call80 Tryz.func80 rfl Tryz.ntmps80 fun X w => ?_
 simp only [slices_Contains_string] at h
 refine zs (zr ?_)
 refine zU (zl (zn (zs (zr ?_))))
 refine zU ?_
 obtain ⟨r4, h5, h⟩ := zB h
 refine zc (slices_Index_string_con s1 v2 _ h5) ?_
 refine zU (zl (zn (zq ?_)))
 cases h
 exact zT Tryz.results80
end Go.Proofs.YtbiklagfjeileaaGreat
set_option linter.unusedVariables false
set_option linter.unusedSimpArgs false
namespace Go.Proofs.YtbiklagfjeileaaGreat
open Go Go.Ab
set_option maxHeartbeats 4000000 in
theorem slices_IndexFunc_Value_con {D : Prop} (s1 : List Value) (f2 : Value → Option (Bool)) (f2_k : FuncId) (f2_cs : List PV) (f2_h : ∀ (y3 : Value) (r4 : Bool), f2 y3 = some r4 → Con D Tryz.prog f2_k ((encValue y3) :: f2_cs) (.bool r4)) (r5 : Int) (h : slices_IndexFunc_Value s1 f2 = some r5) : Con D Tryz.prog 157 [(.slc (List.map encValue s1)), .func (.func f2_k) f2_cs] (.int .i64 r5) := by
 refine zP Tryz.call157 Tryz.func157 rfl Tryz.ntmps157 fun X w => ?_
 simp only [slices_IndexFunc_Value] at h
 refine zs (zr ?_)
 refine zU (zl (zn (zs (zs (zr ?_)))))
 refine zU (zl (zn (zb ?_)))
 obtain ⟨o6, h7, h⟩ := zB h
 refine zO (fun (s : Int) => ⟨[(0, .p (.slc (List.map encValue s1))), (1, .p (.func (.func f2_k) f2_cs)), (7, .p (.int .i64 (s1.length : Int))), (8, .p (.int .i64 s))], []⟩) (fun (o : (Unit) ⊕ (Int)) => match o with | .inl o8 => tE (cX Tryz.f157 X w D) (.exit 0) ⟨[], []⟩ | .inr o9 => tR Tryz.prog Tryz.f157 (.int .i64 o9)) h7 ?_ ?_
 clear h h7
 intro t10 x h
 simp only [slices_IndexFunc_Value_l1] at h
 refine zs (zr ?_)
 refine zU (zl (zn (zs ?_)))
 rcases zI h with ⟨h11, h⟩ | ⟨h11, h⟩
 refine zi (zk (zn (zs (zb (zs (zr ?_))))))
 refine zU (zl (zn (zs (zr ?_))))
 obtain ⟨x12, h13, h13a, h13b, h⟩ := zX h
 refine zU ?_
 obtain ⟨r14, h15, h⟩ := zB h
 refine zc (f2_h x12 _ h15) ?_
 refine zl (zn ?_)
 rcases zI h with ⟨h16, h⟩ | ⟨h16, h⟩
 refine zi (zs (zr ?_))
 refine zU (zl (zn (zq (yr (zt ?_)))))
 cases h
 exact ⟨rfl, zT Tryz.results157⟩
 refine zj (zk (yn (zn (zr ?_))))
 refine zU (zl ?_)
 cases h
 exact ⟨rfl, zE⟩
 refine zj (zx (ze ?_))
 cases h
 exact ⟨rfl, zE⟩
 rcases o6 with ⟨⟩ | r17
 try simp only at h
 refine zA (yh (zn (zs (zr ?_))))
 refine zU (zl (zn (zq ?_)))
 cases h
 exact zT Tryz.results157
 try simp only at h
 refine zZ fun s hq => ?_
 refine yr (zt ?_)
 cases h
 exact hq
end Go.Proofs.YtbiklagfjeileaaGreat
set_option linter.unusedVariables false
set_option linter.unusedSimpArgs false
namespace Go.Proofs.YtbiklagfjeileaaGreat
open Go Go.Ab
set_option maxHeartbeats 4000000 in
theorem slices_ContainsFunc_Value_con {D : Prop} (s1 : List Value) (f2 : Value → Option (Bool)) (f2_k : FuncId) (f2_cs : List PV) (f2_h : ∀ (y3 : Value) (r4 : Bool), f2 y3 = some r4 → Con D Tryz.prog f2_k ((encValue y3) :: f2_cs) (.bool r4)) (r5 : Bool) (h : slices_ContainsFunc_Value s1 f2 = some r5) : Con D Tryz.prog 125 [(.slc (List.map encValue s1)), .func (.func f2_k) f2_cs] (.bool r5) := by
 refine zP Tryz.call125 Tryz.func125 rfl Tryz.ntmps125 fun X w => ?_
 simp only [slices_ContainsFunc_Value] at h
 refine zs (zr ?_)
 refine zU (zl (zn (zs (zr ?_))))
 refine zU ?_
 obtain ⟨r6, h7, h⟩ := zB h
 refine zc (slices_IndexFunc_Value_con s1 f2 f2_k f2_cs f2_h _ h7) ?_
 refine zU (zl (zn (zq ?_)))
 cases h
 exact zT Tryz.results125
end Go.Proofs.YtbiklagfjeileaaGreat
set_option linter.unusedVariables false
set_option linter.unusedSimpArgs false
namespace Go.Proofs.YtbiklagfjeileaaGreat
open Go Go.Ab
set_option maxHeartbeats 4000000 in
theorem value_Valid_con {D : Prop} (v1 : Value) (r2 : Bool) (h : value_Valid v1 = some r2) : Con D Tryz.prog 127 [(encValue v1)] (.bool r2) := by
 refine zP Tryz.call127 Tryz.func127 rfl Tryz.ntmps127 fun X w => ?_
 simp only [value_Valid] at h
 refine zs (zr ?_)
 refine zU (zl (zn (zs (zs (zr ?_)))))
 refine zU (zl (zn (zb (zs (zr ?_)))))
 refine zU (zl (zn ?_))
 rcases zI h with ⟨h3, h⟩ | ⟨h3, h⟩
 refine zi (zs (zr ?_))
 refine zU ?_
 rcases zI h with ⟨h4, h⟩ | ⟨h4, h⟩
 replace h := h.symm
 refine zw 10 true ?_
 refine zg ?_
 refine zg ?_
 refine zg ?_
 refine zU (zl (zn (zq (yr (zt ?_)))))
 cases h
 exact zT Tryz.results127
 refine zw 10 false ?_
 refine zh ?_
 refine zU (zl (zn (zq (yr (zt ?_)))))
 cases h
 exact zT Tryz.results127
 refine zj (zs (zr ?_))
 refine zU (zl (zn ?_))
 rcases zI h with ⟨h5, h⟩ | ⟨h5, h⟩
 refine zi (zs (zr ?_))
 refine zU (zl (zn (zq (yr (zt ?_)))))
 cases h
 exact zT Tryz.results127
 refine zj (zs (zr ?_))
 refine zU (zl (zn ?_))
 rcases zI h with ⟨h6, h⟩ | ⟨h6, h⟩
 refine zi (zs (zr ?_))
 refine zU ?_
 rcases zI h with ⟨h7, h⟩ | ⟨h7, h⟩
 replace h := h.symm
 refine zw 25 true ?_
 refine zg ?_
 refine zg ?_
 refine zg ?_
 refine zg ?_
 refine zU (zl (zn (zq (yr (zt ?_)))))
 cases h
 exact zT Tryz.results127
 refine zw 25 false ?_
 refine zh ?_
 refine zU (zl (zn (zq (yr (zt ?_)))))
 cases h
 exact zT Tryz.results127
 refine zj (zs (zr ?_))
 refine zU (zl (zn ?_))
 rcases zI h with ⟨h8, h⟩ | ⟨h8, h⟩
 refine zi (zs (zr ?_))
 refine zU ?_
 rcases zI h with ⟨h9, h⟩ | ⟨h9, h⟩
 replace h := h.symm
 refine zw 36 true ?_
 refine zg ?_
 refine zg ?_
 refine zg ?_
 refine zU (zl (zn (zq (yr (zt ?_)))))
 cases h
 exact zT Tryz.results127
 refine zw 36 false ?_
 refine zh ?_
 refine zU (zl (zn (zq (yr (zt ?_)))))
 cases h
 exact zT Tryz.results127
 refine zj (zk (yn (zn (zs (zr ?_)))))
 refine zU (zl (zn (zq ?_)))
 cases h
 exact zT Tryz.results127
end Go.Proofs.YtbiklagfjeileaaGreat
set_option linter.unusedVariables false
set_option linter.unusedSimpArgs false
namespace Go.Proofs.YtbiklagfjeileaaGreat
open Go Go.Ab
set_option maxHeartbeats 4000000 in
theorem table_validValues_1_con {D : Prop} (v1 : Value) (r2 : Bool) (h : table_validValues_1 v1 = some r2) : Con D Tryz.prog 126 [(encValue v1)] (.bool r2) := by
 refine zP Tryz.call126 Tryz.func126 rfl Tryz.ntmps126 fun X w => ?_
 simp only [table_validValues_1] at h
 refine zs (zr ?_)
 refine zU (zl (zn (zs (zr ?_))))
 refine zU ?_
 obtain ⟨r3, h4, h⟩ := zB h
 refine zc (value_Valid_con v1 _ h4) ?_
 refine zU (zl (zn (zq ?_)))
 cases h
 exact zT Tryz.results126
end Go.Proofs.YtbiklagfjeileaaGreat
set_option linter.unusedVariables false
set_option linter.unusedSimpArgs false
namespace Go.Proofs.YtbiklagfjeileaaGreat
open Go Go.Ab
set_option maxHeartbeats 4000000 in
theorem table_validValues_con {D : Prop} (l1 : List Value) (r2 : Bool) (h : table_validValues l1 = some r2) : Con D Tryz.prog 81 [(.slc (List.map encValue l1))] (.bool r2) := by
 refine zP Tryz.call81 Tryz.func81 rfl Tryz.ntmps81 fun X w => ?_
 simp only [table_validValues] at h
 refine zs (zr ?_)
 refine zU (zl (zn (zs (zr ?_))))
 refine zU ?_
 obtain ⟨r3, h4, h⟩ := zB h
 refine zc (slices_ContainsFunc_Value_con l1 (fun (y5 : Value) => table_validValues_1 y5) 126 [] (fun y5 r h => table_validValues_1_con y5 r h) _ h4) ?_
 refine zU (zl (zn (zq ?_)))
 cases h
 exact zT Tryz.results81
end Go.Proofs.YtbiklagfjeileaaGreat
set_option linter.unusedVariables false
set_option linter.unusedSimpArgs false
namespace Go.Proofs.YtbiklagfjeileaaGreat
open Go Go.Ab
set_option maxHeartbeats 4000000 in
theorem table_Valid_con {D : Prop} (t1 : Table) (r2 : Int) (h : table_Valid t1 = some r2) : Con D Tryz.prog 57 [(encTable t1)] (.int .i64 r2) := by
 refine zP Tryz.call57 Tryz.func57 rfl Tryz.ntmps57 fun X w => ?_
 simp only [table_Valid] at h
 refine zs (zr ?_)
 refine zU (zl (zn (zs (zs (zr ?_)))))
 refine zU ?_
 obtain ⟨r3, h4, h⟩ := zB h
 refine zc (table_isName_con t1.Name _ h4) ?_
 refine zU (zl (zn ?_))
 rcases zI h with ⟨h5, h⟩ | ⟨h5, h⟩
 refine zj (zk (zn (zs (zs (zr ?_)))))
 refine zU ?_
 rcases zI h with ⟨h6, h⟩ | ⟨h6, h⟩
 refine zw 16 true ?_
 refine zh ?_
 refine zU (zl (zn ?_))
 refine zi (zs (zr ?_))
 refine zU (zl (zn (zq (zt ?_))))
 cases h
 exact zT Tryz.results57
 refine zw 16 false ?_
 refine zg ?_
 refine zg ?_
 refine zg ?_
 refine zg ?_
 refine zU (zl (zn ?_))
 rcases zI h with ⟨h7, h⟩ | ⟨h7, h⟩
 refine zi (zs (zr ?_))
 refine zU (zl (zn (zq (zt ?_))))
 cases h
 exact zT Tryz.results57
 refine zj (zk (zn (zs (zs (zr ?_)))))
 refine zU (zl (zn (zb ?_)))
 obtain ⟨o8, h9, h⟩ := zB h
 refine zO (fun (s : Int) => ⟨[(1, .loc 1 1 0 0), (23, .p (.slc (List.map PV.str t1.Attrs))), (24, .p (.int .i64 (t1.Attrs.length : Int))), (25, .p (.int .i64 s))], [(1, .arr 26 3 1 [.p (encTable t1)])]⟩) (fun (o : (Unit) ⊕ (Int)) => match o with | .inl o10 => tE (cX Tryz.f57 X w D) (.exit 0) ⟨[(1, .loc 1 1 0 0)], [(1, .arr 26 3 1 [.p (encTable t1)])]⟩ | .inr o11 => tR Tryz.prog Tryz.f57 (.int .i64 o11)) h9 ?_ ?_
 clear h h4 h5 h6 h7 h9
 intro t12 x h
 simp only [table_Valid_l1] at h
 refine zs (zr ?_)
 refine zU (zl (zn (zs ?_)))
 rcases zI h with ⟨h13, h⟩ | ⟨h13, h⟩
 refine zi (zk (zn (zs (zb (zs (zr ?_))))))
 obtain ⟨x14, h15, h15a, h15b, h⟩ := zX h
 refine zU (zl (zn (zs (zr ?_))))
 refine zU ?_
 obtain ⟨r16, h17, h⟩ := zB h
 refine zc (table_isName_con x14 _ h17) ?_
 refine zU ?_
 rcases zI h with ⟨h18, h⟩ | ⟨h18, h⟩
 refine zw 33 false ?_
 refine zg ?_
 refine zg ?_
 refine zg ?_
 obtain ⟨h19, h⟩ := ite_some h
 obtain ⟨h20, h⟩ := ite_some h
 refine zg ?_
 refine zg ?_
 obtain ⟨r21, h22, h⟩ := zB h
 refine zc (slices_Contains_string_con (t1.Attrs.take (t12.toNat)) x14 _ h22) ?_
 refine zU (zl (zn ?_))
 rcases zI h with ⟨h23, h⟩ | ⟨h23, h⟩
 refine zi (zs (zr ?_))
 refine zU (zl (zn (zq (yr (zt ?_)))))
 cases h
 exact ⟨rfl, zT Tryz.results57⟩
 refine zj (zk (yn (zn (zr ?_))))
 refine zU (zl ?_)
 cases h
 exact ⟨rfl, zE⟩
 refine zw 33 true ?_
 refine zh ?_
 refine zU (zl (zn ?_))
 refine zi (zs (zr ?_))
 refine zU (zl (zn (zq (yr (zt ?_)))))
 cases h
 exact ⟨rfl, zT Tryz.results57⟩
 refine zj (zx (ze ?_))
 cases h
 exact ⟨rfl, zE⟩
 rcases o8 with ⟨⟩ | r24
 try simp only at h
 refine zA (yh (zn (zs (zr ?_))))
 refine zU (zl (zn (zs (zs (zr ?_)))))
 refine zU (zl (zn (zb ?_)))
 obtain ⟨o25, h26, h⟩ := zB h
 refine zO (fun (s : Int × Int) => ⟨[(1, .loc 1 1 0 0), (5, .p (.int .i64 s.1)), (43, .p (.slc (List.map encRow t1.Rows))), (44, .p (.int .i64 (t1.Rows.length : Int))), (45, .p (.int .i64 s.2))], [(1, .arr 26 3 1 [.p (encTable t1)])]⟩) (fun (o : (Unit) ⊕ (Int)) => match o with | .inl o27 => tE (cX Tryz.f57 X w D) (.exit 2) ⟨[], []⟩ | .inr o28 => tR Tryz.prog Tryz.f57 (.int .i64 o28)) h26 ?_ ?_
 clear h h4 h5 h6 h7 h9 h26
 intro s x h
 obtain ⟨l29, t30⟩ := s
 simp only [table_Valid_l2] at h
 dsimp only
 refine zs (zr ?_)
 refine zU (zl (zn (zs ?_)))
 rcases zI h with ⟨h31, h⟩ | ⟨h31, h⟩
 refine zi (zk (zn (zs (zb (zs (zr ?_))))))
 obtain ⟨x32, h33, h33a, h33b, h⟩ := zX h
 refine zU (zl (zn (zs (zb (zs (zr ?_))))))
 refine zU (zl (zn ?_))
 rcases zI h with ⟨h34, h⟩ | ⟨h34, h⟩
 refine zi (zs (zr ?_))
 refine zU (zl (zn (zq (yr (zt (yr (zt ?_)))))))
 cases h
 exact ⟨rfl, zT Tryz.results57⟩
 refine zj (zs (zr ?_))
 refine zU (zl (zn ?_))
 rcases zI h with ⟨h35, h⟩ | ⟨h35, h⟩
 refine zi (zs (zr ?_))
 refine zU (zl (zn (zq (yr (zt (yr (zt ?_)))))))
 cases h
 exact ⟨rfl, zT Tryz.results57⟩
 refine zj (zs (zr ?_))
 refine zU ?_
 obtain ⟨r36, h37, h⟩ := zB h
 refine zc (table_validValues_con x32.Values _ h37) ?_
 refine zU (zl (zn ?_))
 rcases zI h with ⟨h38, h⟩ | ⟨h38, h⟩
 refine zj (zk (yn (zn (zr ?_))))
 refine zU (zl (yn (zn (zr ?_))))
 refine zU (zl ?_)
 cases h
 exact ⟨rfl, zE⟩
 refine zi (zs (zr ?_))
 refine zU (zl (zn (zq (yr (zt (yr (zt ?_)))))))
 cases h
 exact ⟨rfl, zT Tryz.results57⟩
 refine zj (zx (ze ?_))
 cases h
 exact ⟨rfl, zE⟩
 rcases o25 with ⟨⟩ | r39
 try simp only at h
 refine zA (yh (zn (zs (zr ?_))))
 refine zU (zl (zn (zq ?_)))
 cases h
 exact zT Tryz.results57
 try simp only at h
 refine zZ fun s hq => ?_
 refine yr (zt ?_)
 cases h
 exact hq
 try simp only at h
 refine zZ fun s hq => ?_
 refine yr (zt ?_)
 cases h
 exact hq
 refine zi (zs (zr ?_))
 refine zU (zl (zn (zq (zt ?_))))
 cases h
 exact zT Tryz.results57
end Go.Proofs.YtbiklagfjeileaaGreat
set_option linter.unusedVariables false
set_option linter.unusedSimpArgs false
namespace Go.Proofs.YtbiklagfjeileaaGreat
open Go Go.Ab
set_option maxHeartbeats 4000000 in
theorem blocking_check_con {D : Prop} (t1 : Table) (a2 : Int) (r3 : Bool) (r4 : Int) (h : blocking_check t1 a2 r3 = some r4) : Con D Tryz.prog 28 [(encTable t1), (.int .i64 a2), (.bool r3)] (.int .i64 r4) := by
 refine zP Tryz.call28 Tryz.func28 rfl Tryz.ntmps28 fun X w => ?_
 simp only [blocking_check] at h
 refine zs (zr ?_)
 refine zU (zl (zn (zs (zs (zr ?_)))))
 refine zU ?_
 obtain ⟨r5, h6, h⟩ := zB h
 refine zc (table_Valid_con t1 _ h6) ?_
 refine zU (zl (zn (zs (zr ?_))))
 refine zU (zl (zn ?_))
 rcases zI h with ⟨h7, h⟩ | ⟨h7, h⟩
 refine zi (zs (zr ?_))
 refine zU (zl (zn (zq (zt ?_))))
 cases h
 exact zT Tryz.results28
 refine zj (zk (zn (zs (zb (zs (zr ?_))))))
 refine zU (zl (zn ?_))
 rcases zI h with ⟨h8, h⟩ | ⟨h8, h⟩
 refine zi (zs (zr ?_))
 refine zU (zl (zn (zq (yr (zt ?_)))))
 cases h
 exact zT Tryz.results28
 refine zj ?_
 obtain ⟨t9, h10, h⟩ := zB h
 refine zJ (fun (o11 : Bool) => tE (cX Tryz.f28 X w D) .normal ⟨[(2, .p (.bool r3)), (18, .p (.bool o11))], []⟩) t9 ?_ ?_
 replace h := h10
 clear h10
 refine zr ?_
 refine zU ?_
 rcases zI h with ⟨h12, h⟩ | ⟨h12, h⟩
 refine zw 21 true ?_
 refine zh ?_
 refine zU (zl ?_)
 cases h
 exact ⟨rfl, zE⟩
 replace h := h.symm
 refine zw 21 false ?_
 refine zg ?_
 refine zg ?_
 refine zg ?_
 refine zg ?_
 refine zg ?_
 refine zU (zl ?_)
 cases h
 exact ⟨rfl, zE⟩
 try simp only at h
 refine zA (zn ?_)
 rcases zI h with ⟨h13, h⟩ | ⟨h13, h⟩
 refine zi (zs (zr ?_))
 refine zU (zl (zn (zq (yr (zt ?_)))))
 cases h
 exact zT Tryz.results28
 refine zj (zs (zr ?_))
 refine zU (zl (zn ?_))
 rcases zI h with ⟨h14, h⟩ | ⟨h14, h⟩
 refine zj (zk (yn (zn (zs (zr ?_)))))
 refine zU (zl (zn (zq ?_)))
 cases h
 exact zT Tryz.results28
 refine zi (zs (zr ?_))
 refine zU (zl (zn (zq (yr (zt ?_)))))
 cases h
 exact zT Tryz.results28
end Go.Proofs.YtbiklagfjeileaaGreat
set_option linter.unusedVariables false
set_option linter.unusedSimpArgs false
namespace Go.Proofs.YtbiklagfjeileaaGreat
open Go Go.Ab
set_option maxRecDepth 20000 in
set_option maxHeartbeats 4000000 in
theorem blocking_pairs_con {D : Prop} (t1 : Table) (o2 : Int → Int → Option (Bool)) (o2_k : FuncId) (o2_cs : List PV) (o2_h : ∀ (y3 : Int) (y4 : Int) (r5 : Bool), o2 y3 y4 = some r5 → Con D Tryz.prog o2_k ((.int .i64 y3) :: (.int .i64 y4) :: o2_cs) (.bool r5)) (r6 : List Arr2_int64) (h : blocking_pairs t1 o2 = some r6) : Con D Tryz.prog 29 [(encTable t1), .func (.func o2_k) o2_cs] (.slc (List.map encArr2_int64 r6)) := by
 refine zP Tryz.call29 Tryz.func29 rfl Tryz.ntmps29 fun X w => ?_
 simp only [blocking_pairs] at h
 refine zs (zr ?_)
 refine zU (zl (zn (zs (zr ?_))))
 refine zU (zl (zn (zs (zs (zr ?_)))))
 refine zU (zl (zn (zb ?_)))
 obtain ⟨o7, h8, h⟩ := zB h
 refine zO (fun (s : List Arr2_int64 × Int) => ⟨[(1, .p (.func (.func o2_k) o2_cs)), (2, .loc 2 1 0 0), (5, .own 42 1 0 s.1.length), (10, .p (.int .i64 (t1.Rows.length : Int))), (11, .p (.int .i64 s.2))], [(2, .arr 26 3 1 [.p (encTable t1)]), (42, .arr 43 2 1 (List.map AV.p (List.map encArr2_int64 s.1)))]⟩) (fun (o9 : List Arr2_int64) => tE (cX Tryz.f29 X w D) (.exit 0) ⟨[(5, .own 42 1 0 o9.length)], [(42, .arr 43 2 1 (List.map AV.p (List.map encArr2_int64 o9)))]⟩) h8 ?_ ?_
 clear h h8
 intro s x h
 obtain ⟨o10, t11⟩ := s
 simp only [blocking_pairs_l4] at h
 dsimp only
 refine zs (zr ?_)
 refine zU (zl (zn (zs ?_)))
 rcases zI h with ⟨h12, h⟩ | ⟨h12, h⟩
 refine zi (zk (zn (zs (zb (zs (zr ?_))))))
 refine zU (zl (zn (zs (zr ?_))))
 refine zU (zl (zn (zb ?_)))
 obtain ⟨o13, h14, h⟩ := zB h
 refine zO (fun (s : List Arr2_int64 × Int) => ⟨[(1, .p (.func (.func o2_k) o2_cs)), (2, .loc 2 1 0 0), (5, .own 42 1 0 s.1.length), (6, .p (.int .i64 t11)), (7, .p (.int .i64 s.2)), (10, .p (.int .i64 (t1.Rows.length : Int))), (11, .p (.int .i64 t11))], [(2, .arr 26 3 1 [.p (encTable t1)]), (42, .arr 43 2 1 (List.map AV.p (List.map encArr2_int64 s.1)))]⟩) (fun (o15 : List Arr2_int64) => tE (cX Tryz.f29 X w D) (.exit 2) ⟨[(1, .p (.func (.func o2_k) o2_cs)), (2, .loc 2 1 0 0), (5, .own 42 1 0 o15.length), (10, .p (.int .i64 (t1.Rows.length : Int))), (11, .p (.int .i64 t11))], [(2, .arr 26 3 1 [.p (encTable t1)]), (42, .arr 43 2 1 (List.map AV.p (List.map encArr2_int64 o15)))]⟩) h14 ?_ ?_
 clear h h12 h14
 intro s x h
 obtain ⟨o16, k17⟩ := s
 simp only [blocking_pairs_l3] at h
 dsimp only
 refine zs (zs (zr ?_))
 refine zU (zl (zn ?_))
 rcases zI h with ⟨h18, h⟩ | ⟨h18, h⟩
 refine zi (zk (zn (zs (zb (zs (zr ?_))))))
 refine zU ?_
 obtain ⟨r19, h20, h⟩ := zB h
 refine zc (o2_h t11 k17 _ h20) ?_
 refine zl (zn ?_)
 rcases zI h with ⟨h21, h⟩ | ⟨h21, h⟩
 refine zi (zd ?_)
 obtain ⟨x22, h23, h23a, h23b, h⟩ := zX h
 obtain ⟨x24, h25, h25a, h25b, h⟩ := zX h
 obtain ⟨h26, h⟩ := ite_some h
 refine yU ?_
 refine yd (yn (zn (zr ?_)))
 refine zU (zl ?_)
 cases h
 exact ⟨rfl, zE⟩
 refine zj (zk (yn (zn (zr ?_))))
 refine zU (zl ?_)
 cases h
 exact ⟨rfl, zE⟩
 refine zj (zx (ze ?_))
 cases h
 exact ⟨rfl, zE⟩
 try simp only at h
 refine zA (yh (yn (zn (zr ?_))))
 refine zU (zl ?_)
 cases h
 exact ⟨rfl, zE⟩
 refine zj (zx (ze ?_))
 cases h
 exact ⟨rfl, zE⟩
 try simp only at h
 refine zA (yh (zn (zs (zr ?_))))
 refine zU (zl (zn (zq ?_)))
 cases h
 exact zT Tryz.results29
end Go.Proofs.YtbiklagfjeileaaGreat
set_option linter.unusedVariables false
set_option linter.unusedSimpArgs false
namespace Go.Proofs.YtbiklagfjeileaaGreat
open Go Go.Ab
set_option maxRecDepth 20000 in
set_option maxHeartbeats 4000000 in
theorem blocking_Prefix_1_con {D : Prop} (i1 : Int) (c2 : Table) (c3 : Int) (c4 : Int) (r5 : List UInt8) (h : blocking_Prefix_1 i1 c2 c3 c4 = some r5) : Con D Tryz.prog 32 [(.int .i64 i1), .imm [.str c2.Name, .slc (List.map PV.str c2.Attrs), .slc (List.map encRow c2.Rows)], .imm [.int .i64 c3], .imm [.int .i64 c4]] (.str r5) := by
 refine zP Tryz.call32 Tryz.func32 rfl Tryz.ntmps32 fun X w => ?_
 simp only [blocking_Prefix_1] at h
 refine zs (zr ?_)
 refine zU (zl (zn (zs (zd ?_))))
 obtain ⟨x6, h7, h7a, h7b, h⟩ := zX h
 obtain ⟨x8, h9, h9a, h9b, h⟩ := zX h
 refine yU ?_
 refine yd (zn (zs (zr ?_)))
 obtain ⟨h10, h⟩ := ite_some h
 obtain ⟨h11, h⟩ := ite_some h
 refine zU (zl (zn (zq ?_)))
 cases h
 exact zT Tryz.results32
end Go.Proofs.YtbiklagfjeileaaGreat
set_option linter.unusedVariables false
set_option linter.unusedSimpArgs false
namespace Go.Proofs.YtbiklagfjeileaaGreat
open Go Go.Ab
set_option maxHeartbeats 4000000 in
theorem blocking_alike_con {D : Prop} (t1 : Table) (a2 : Int) (o3 : Int → Int → Option (Bool)) (o3_k : FuncId) (o3_cs : List PV) (o3_h : ∀ (y4 : Int) (y5 : Int) (r6 : Bool), o3 y4 y5 = some r6 → Con D Tryz.prog o3_k ((.int .i64 y4) :: (.int .i64 y5) :: o3_cs) (.bool r6)) (r7 : Unit) (h : blocking_alike t1 a2 o3 = some r7) : Con D Tryz.prog 33 [(encTable t1), (.int .i64 a2), .func (.func o3_k) o3_cs] (.func (.func 65) [.imm [.str t1.Name, .slc (List.map PV.str t1.Attrs), .slc (List.map encRow t1.Rows)], .imm [.int .i64 a2], .imm [.func (.func o3_k) o3_cs]]) := by
 refine zP Tryz.call33 Tryz.func33 rfl Tryz.ntmps33 fun X w => ?_
 simp only [blocking_alike] at h
 refine zs (zr ?_)
 refine zU (zl (zn (zs (zr ?_))))
 refine zU (zl (zn (zq ?_)))
 cases h
 exact zT Tryz.results33
end Go.Proofs.YtbiklagfjeileaaGreat
set_option linter.unusedVariables false
set_option linter.unusedSimpArgs false
namespace Go.Proofs.YtbiklagfjeileaaGreat
open Go Go.Ab
set_option maxHeartbeats 4000000 in
theorem blocking_Prefix_2_con {D : Prop} (i1 : Int) (k2 : Int) (c3 : Int → Option (List UInt8)) (c3_k : FuncId) (c3_cs : List PV) (c3_h : ∀ (y4 : Int) (r5 : List UInt8), c3 y4 = some r5 → Con D Tryz.prog c3_k ((.int .i64 y4) :: c3_cs) (.str r5)) (r6 : Bool) (h : blocking_Prefix_2 i1 k2 c3 = some r6) : Con D Tryz.prog 34 [(.int .i64 i1), (.int .i64 k2), .imm [.func (.func c3_k) c3_cs]] (.bool r6) := by
 refine zP Tryz.call34 Tryz.func34 rfl Tryz.ntmps34 fun X w => ?_
 simp only [blocking_Prefix_2] at h
 refine zs (zr ?_)
 refine zU (zl (zn (zs (zd ?_))))
 refine yU ?_
 obtain ⟨r7, h8, h⟩ := zB h
 refine yc (c3_h i1 _ h8) ?_
 refine yU ?_
 obtain ⟨r9, h10, h⟩ := zB h
 refine yc (c3_h k2 _ h10) ?_
 refine yU ?_
 refine yd (zn (zq ?_))
 cases h
 exact zT Tryz.results34
end Go.Proofs.YtbiklagfjeileaaGreat
set_option linter.unusedVariables false
set_option linter.unusedSimpArgs false
namespace Go.Proofs.YtbiklagfjeileaaGreat
open Go Go.Ab
set_option maxHeartbeats 4000000 in
theorem cmp_Or_int_con {D : Prop} (v1 : List Int) (r2 : Int) (h : cmp_Or_int v1 = some r2) : Con D Tryz.prog 37 [(.slc (List.map (PV.int .i64) v1))] (.int .i64 r2) := by
 refine zP Tryz.call37 Tryz.func37 rfl Tryz.ntmps37 fun X w => ?_
 simp only [cmp_Or_int] at h
 refine zs (zr ?_)
 refine zU (zl (zn (zs (zr ?_))))
 refine zU (zl (zn (zs (zs (zr ?_)))))
 refine zU (zl (zn (zb ?_)))
 obtain ⟨o3, h4, h⟩ := zB h
 refine zO (fun (s : Int) => ⟨[(3, .p (.int .i64 0)), (6, .p (.slc (List.map (PV.int .i64) v1))), (7, .p (.int .i64 (v1.length : Int))), (8, .p (.int .i64 s))], []⟩) (fun (o : (Unit) ⊕ (Int)) => match o with | .inl o5 => tE (cX Tryz.f37 X w D) (.exit 0) ⟨[(3, .p (.int .i64 0))], []⟩ | .inr o6 => tR Tryz.prog Tryz.f37 (.int .i64 o6)) h4 ?_ ?_
 clear h h4
 intro t7 x h
 simp only [cmp_Or_int_l1] at h
 refine zs (zr ?_)
 refine zU (zl (zn (zs ?_)))
 rcases zI h with ⟨h8, h⟩ | ⟨h8, h⟩
 refine zi (zk (zn (zs (zb (zs (zr ?_))))))
 obtain ⟨x9, h10, h10a, h10b, h⟩ := zX h
 refine zU (zl (zn (zs (zr ?_))))
 refine zU (zl (zn ?_))
 rcases zI h with ⟨h11, h⟩ | ⟨h11, h⟩
 refine zi (zs (zr ?_))
 refine zU (zl (zn (zq (yr (zt ?_)))))
 cases h
 exact ⟨rfl, zT Tryz.results37⟩
 refine zj (zk (yn (zn (zr ?_))))
 refine zU (zl ?_)
 cases h
 exact ⟨rfl, zE⟩
 refine zj (zx (ze ?_))
 cases h
 exact ⟨rfl, zE⟩
 rcases o3 with ⟨⟩ | r12
 try simp only at h
 refine zA (yh (zn (zs (zr ?_))))
 refine zU (zl (zn (zq ?_)))
 cases h
 exact zT Tryz.results37
 try simp only at h
 refine zZ fun s hq => ?_
 refine yr (zt ?_)
 cases h
 exact hq
end Go.Proofs.YtbiklagfjeileaaGreat
set_option linter.unusedVariables false
set_option linter.unusedSimpArgs false
namespace Go.Proofs.YtbiklagfjeileaaGreat
open Go Go.Ab
set_option maxHeartbeats 4000000 in
theorem cmp_isNaN_int_con {D : Prop} (x1 : Int) (r2 : Bool) (h : cmp_isNaN_int x1 = some r2) : Con D Tryz.prog 68 [(.int .i64 x1)] (.bool r2) := by
 refine zP Tryz.call68 Tryz.func68 rfl Tryz.ntmps68 fun X w => ?_
 simp only [cmp_isNaN_int] at h
 refine zs (zr ?_)
 refine zU (zl (zn (zs (zr ?_))))
 refine zU (zl (zn (zq ?_)))
 cases h
 exact zT Tryz.results68
end Go.Proofs.YtbiklagfjeileaaGreat
set_option linter.unusedVariables false
set_option linter.unusedSimpArgs false
namespace Go.Proofs.YtbiklagfjeileaaGreat
open Go Go.Ab
set_option maxHeartbeats 4000000 in
theorem cmp_Compare_int_con {D : Prop} (x1 : Int) (y2 : Int) (r3 : Int) (h : cmp_Compare_int x1 y2 = some r3) : Con D Tryz.prog 38 [(.int .i64 x1), (.int .i64 y2)] (.int .i64 r3) := by
 refine zP Tryz.call38 Tryz.func38 rfl Tryz.ntmps38 fun X w => ?_
 simp only [cmp_Compare_int] at h
 refine zs (zr ?_)
 refine zU (zl (zn (zs (zr ?_))))
 refine zU ?_
 obtain ⟨r4, h5, h⟩ := zB h
 refine zc (cmp_isNaN_int_con x1 _ h5) ?_
 refine zU (zl (zn (zs (zr ?_))))
 refine zU ?_
 obtain ⟨r6, h7, h⟩ := zB h
 refine zc (cmp_isNaN_int_con y2 _ h7) ?_
 refine zU (zl (zn (zs (zs (zr ?_)))))
 refine zU (zl (zn ?_))
 rcases zI h with ⟨h8, h⟩ | ⟨h8, h⟩
 refine zi (zs (zs (zr ?_)))
 refine zU (zl (zn ?_))
 rcases zI h with ⟨h9, h⟩ | ⟨h9, h⟩
 refine zi (zs (zr ?_))
 refine zU (zl (zn (zq (zt (zt ?_)))))
 cases h
 exact zT Tryz.results38
 refine zj (zk (zn (zs (zr ?_))))
 refine zU (zl (zn (zq (zt ?_))))
 cases h
 exact zT Tryz.results38
 refine zj (zk (zn (zs (zs (zr ?_)))))
 refine zU (zl (zn ?_))
 rcases zI h with ⟨h10, h⟩ | ⟨h10, h⟩
 refine zi (zs (zr ?_))
 refine zU (zl (zn (zq (zt ?_))))
 cases h
 exact zT Tryz.results38
 refine zj (zk (zn (zs (zs (zr ?_)))))
 refine zU (zl (zn ?_))
 rcases zI h with ⟨h11, h⟩ | ⟨h11, h⟩
 refine zi (zs (zr ?_))
 refine zU (zl (zn (zq (zt ?_))))
 cases h
 exact zT Tryz.results38
 refine zj (zk (zn (zs (zs (zr ?_)))))
 refine zU (zl (zn ?_))
 rcases zI h with ⟨h12, h⟩ | ⟨h12, h⟩
 refine zi (zs (zr ?_))
 refine zU (zl (zn (zq (zt ?_))))
 cases h
 exact zT Tryz.results38
 refine zj (zk (zn (zs (zr ?_))))
 refine zU (zl (zn (zq ?_)))
 cases h
 exact zT Tryz.results38
end Go.Proofs.YtbiklagfjeileaaGreat
set_option linter.unusedVariables false
set_option linter.unusedSimpArgs false
namespace Go.Proofs.YtbiklagfjeileaaGreat
open Go Go.Ab
set_option maxHeartbeats 4000000 in
theorem cmp_isNaN_int64_con {D : Prop} (x1 : Int) (r2 : Bool) (h : cmp_isNaN_int64 x1 = some r2) : Con D Tryz.prog 91 [(.int .i64 x1)] (.bool r2) := by
 refine zP Tryz.call91 Tryz.func91 rfl Tryz.ntmps91 fun X w => ?_
 simp only [cmp_isNaN_int64] at h
 refine zs (zr ?_)
 refine zU (zl (zn (zs (zr ?_))))
 refine zU (zl (zn (zq ?_)))
 cases h
 exact zT Tryz.results91
end Go.Proofs.YtbiklagfjeileaaGreat
set_option linter.unusedVariables false
set_option linter.unusedSimpArgs false
namespace Go.Proofs.YtbiklagfjeileaaGreat
open Go Go.Ab
set_option maxHeartbeats 4000000 in
theorem cmp_Compare_int64_con {D : Prop} (x1 : Int) (y2 : Int) (r3 : Int) (h : cmp_Compare_int64 x1 y2 = some r3) : Con D Tryz.prog 63 [(.int .i64 x1), (.int .i64 y2)] (.int .i64 r3) := by
 refine zP Tryz.call63 Tryz.func63 rfl Tryz.ntmps63 fun X w => ?_
 simp only [cmp_Compare_int64] at h
 refine zs (zr ?_)
 refine zU (zl (zn (zs (zr ?_))))
 refine zU ?_
 obtain ⟨r4, h5, h⟩ := zB h
 refine zc (cmp_isNaN_int64_con x1 _ h5) ?_
 refine zU (zl (zn (zs (zr ?_))))
 refine zU ?_
 obtain ⟨r6, h7, h⟩ := zB h
 refine zc (cmp_isNaN_int64_con y2 _ h7) ?_
 refine zU (zl (zn (zs (zs (zr ?_)))))
 refine zU (zl (zn ?_))
 rcases zI h with ⟨h8, h⟩ | ⟨h8, h⟩
 refine zi (zs (zs (zr ?_)))
 refine zU (zl (zn ?_))
 rcases zI h with ⟨h9, h⟩ | ⟨h9, h⟩
 refine zi (zs (zr ?_))
 refine zU (zl (zn (zq (zt (zt ?_)))))
 cases h
 exact zT Tryz.results63
 refine zj (zk (zn (zs (zr ?_))))
 refine zU (zl (zn (zq (zt ?_))))
 cases h
 exact zT Tryz.results63
 refine zj (zk (zn (zs (zs (zr ?_)))))
 refine zU (zl (zn ?_))
 rcases zI h with ⟨h10, h⟩ | ⟨h10, h⟩
 refine zi (zs (zr ?_))
 refine zU (zl (zn (zq (zt ?_))))
 cases h
 exact zT Tryz.results63
 refine zj (zk (zn (zs (zs (zr ?_)))))
 refine zU (zl (zn ?_))
 rcases zI h with ⟨h11, h⟩ | ⟨h11, h⟩
 refine zi (zs (zr ?_))
 refine zU (zl (zn (zq (zt ?_))))
 cases h
 exact zT Tryz.results63
 refine zj (zk (zn (zs (zs (zr ?_)))))
 refine zU (zl (zn ?_))
 rcases zI h with ⟨h12, h⟩ | ⟨h12, h⟩
 refine zi (zs (zr ?_))
 refine zU (zl (zn (zq (zt ?_))))
 cases h
 exact zT Tryz.results63
 refine zj (zk (zn (zs (zr ?_))))
 refine zU (zl (zn (zq ?_)))
 cases h
 exact zT Tryz.results63
end Go.Proofs.YtbiklagfjeileaaGreat
namespace Go.Proofs.YtbiklagfjeileaaGreat
open Go Go.Ab
theorem ext133 (a b : List UInt8) (w : World) : (callFunc 133 #[.string ⟨a.toArray⟩, .string ⟨b.toArray⟩]).run Tryz.prog w = .ok (.value (.int .i64 (Lib.compareBytes a b))) w := by
  rw [run_callFunc_extern Tryz.func133 (by kernel_rfl) (by kernel_rfl) (by kernel_rfl) (e := Extern.BytealgCompare.compare) (by kernel_rfl), Lib.run_compareString]
  rfl
theorem ext171 (x y c : Nat) (hc : c ≤ 1) (w : World) : (callFunc 171 #[.int .u64 x, .int .u64 y, .int .u64 c]).run Tryz.prog w = .ok (.value (.tuple #[.int .u64 (((x + y + c) % 18446744073709551616 : Nat) : Int), .int .u64 (((x + y + c) / 18446744073709551616 : Nat) : Int)])) w := by
  rw [run_callFunc_extern Tryz.func171 (by kernel_rfl) (by kernel_rfl) (by kernel_rfl) (e := add64Entry) (by kernel_rfl), run_add64 x y c (by omega) (by omega) (by omega) (by omega)]
  simp only [Result.andThen]
  congr 5 <;> omega
theorem ext172 (x y b : Nat) (hb : b ≤ 1) (w : World) : (callFunc 172 #[.int .u64 x, .int .u64 y, .int .u64 b]).run Tryz.prog w = .ok (.value (.tuple #[.int .u64 (((x + 18446744073709551616 - y - b) % 18446744073709551616 : Nat) : Int), .int .u64 ((if x < y + b then 1 else 0 : Nat) : Int)])) w := by
  rw [run_callFunc_extern Tryz.func172 (by kernel_rfl) (by kernel_rfl) (by kernel_rfl) (e := sub64Entry) (by kernel_rfl), run_sub64 x y b hb]
  rfl
end Go.Proofs.YtbiklagfjeileaaGreat
set_option linter.unusedVariables false
set_option linter.unusedSimpArgs false
namespace Go.Proofs.YtbiklagfjeileaaGreat
open Go Go.Ab
set_option maxHeartbeats 4000000 in
theorem bytealg_CompareString_con {D : Prop} (a1 : List UInt8) (b2 : List UInt8) (r3 : Int) (h : bytealg_CompareString a1 b2 = some r3) : Con D Tryz.prog 92 [(.str a1), (.str b2)] (.int .i64 r3) := by
 refine zP Tryz.call92 Tryz.func92 rfl Tryz.ntmps92 fun X w => ?_
 simp only [bytealg_CompareString] at h
 refine zs (zr ?_)
 refine zU (zl (zn (zs (zr ?_))))
 refine zU ?_
 refine AL_ext2 (ext133 a1 b2) (by simp only [go_sem, seval]; all_goals ((repeat' refine And.intro ?_ ?_) <;> first | rfl | (simp; done) | (simp; rfl) | (simp [*]; done) | (simp [*]; rfl))) (by simp only [go_sem, seval]; all_goals ((repeat' refine And.intro ?_ ?_) <;> first | rfl | (simp; done) | (simp; rfl) | (simp [*]; done) | (simp [*]; rfl))) rfl ?_
 refine zU (zl (zn (zq ?_)))
 cases h
 exact zT Tryz.results92
end Go.Proofs.YtbiklagfjeileaaGreat
set_option linter.unusedVariables false
set_option linter.unusedSimpArgs false
namespace Go.Proofs.YtbiklagfjeileaaGreat
open Go Go.Ab
set_option maxHeartbeats 4000000 in
theorem strings_Compare_con {D : Prop} (a1 : List UInt8) (b2 : List UInt8) (r3 : Int) (h : strings_Compare a1 b2 = some r3) : Con D Tryz.prog 64 [(.str a1), (.str b2)] (.int .i64 r3) := by
 refine zP Tryz.call64 Tryz.func64 rfl Tryz.ntmps64 fun X w => ?_
 simp only [strings_Compare] at h
 refine zs (zr ?_)
 refine zU (zl (zn (zs (zr ?_))))
 refine zU ?_
 obtain ⟨r4, h5, h⟩ := zB h
 refine zc (bytealg_CompareString_con a1 b2 _ h5) ?_
 refine zU (zl (zn (zq ?_)))
 cases h
 exact zT Tryz.results64
end Go.Proofs.YtbiklagfjeileaaGreat
set_option linter.unusedVariables false
set_option linter.unusedSimpArgs false
namespace Go.Proofs.YtbiklagfjeileaaGreat
open Go Go.Ab
set_option maxRecDepth 20000 in
set_option maxHeartbeats 4000000 in
theorem value_Compare_con {D : Prop} (a1 : Value) (b2 : Value) (r3 : Int) (h : value_Compare a1 b2 = some r3) : Con D Tryz.prog 31 [(encValue a1), (encValue b2)] (.int .i64 r3) := by
 refine zP Tryz.call31 Tryz.func31 rfl Tryz.ntmps31 fun X w => ?_
 simp only [value_Compare] at h
 refine zs (zr ?_)
 refine zU (zl (zn (zs (zd ?_))))
 refine yU ?_
 obtain ⟨r4, h5, h⟩ := zB h
 refine yc (cmp_Compare_int_con a1.Kind b2.Kind _ h5) ?_
 refine yU ?_
 obtain ⟨r6, h7, h⟩ := zB h
 refine yc (cmp_Compare_int64_con a1.Num b2.Num _ h7) ?_
 refine yU ?_
 obtain ⟨r8, h9, h⟩ := zB h
 refine yc (strings_Compare_con a1.Str b2.Str _ h9) ?_
 refine yU ?_
 obtain ⟨r10, h11, h⟩ := zB h
 refine yc (cmp_Or_int_con [r4, r6, r8] _ h11) ?_
 refine yU ?_
 refine yd (zn (zq ?_))
 cases h
 exact zT Tryz.results31
end Go.Proofs.YtbiklagfjeileaaGreat
set_option linter.unusedVariables false
set_option linter.unusedSimpArgs false
namespace Go.Proofs.YtbiklagfjeileaaGreat
open Go Go.Ab
set_option maxRecDepth 20000 in
set_option maxHeartbeats 4000000 in
theorem blocking_alike_1_con {D : Prop} (i1 : Int) (k2 : Int) (c3 : Table) (c4 : Int) (c5 : Int → Int → Option (Bool)) (c5_k : FuncId) (c5_cs : List PV) (c5_h : ∀ (y6 : Int) (y7 : Int) (r8 : Bool), c5 y6 y7 = some r8 → Con D Tryz.prog c5_k ((.int .i64 y6) :: (.int .i64 y7) :: c5_cs) (.bool r8)) (r9 : Bool) (h : blocking_alike_1 i1 k2 c3 c4 c5 = some r9) : Con D Tryz.prog 65 [(.int .i64 i1), (.int .i64 k2), .imm [.str c3.Name, .slc (List.map PV.str c3.Attrs), .slc (List.map encRow c3.Rows)], .imm [.int .i64 c4], .imm [.func (.func c5_k) c5_cs]] (.bool r9) := by
 refine zP Tryz.call65 Tryz.func65 rfl Tryz.ntmps65 fun X w => ?_
 simp only [blocking_alike_1] at h
 refine zs (zr ?_)
 refine zU (zl (zn (zs (zd ?_))))
 obtain ⟨x10, h11, h11a, h11b, h⟩ := zX h
 obtain ⟨x12, h13, h13a, h13b, h⟩ := zX h
 obtain ⟨x14, h15, h15a, h15b, h⟩ := zX h
 obtain ⟨x16, h17, h17a, h17b, h⟩ := zX h
 refine yU ?_
 refine yd (zn (zs ?_))
 obtain ⟨t18, h19, h⟩ := zB h
 refine zJ (fun (o20 : Bool) => tE (cX Tryz.f65 X w D) .normal ⟨[(0, .p (.int .i64 i1)), (1, .p (.int .i64 k2)), (4, .p (.imm [.func (.func c5_k) c5_cs])), (8, .loc 8 1 0 0), (9, .loc 9 1 0 0), (35, .p (.bool o20))], [(8, .arr 54 3 1 [.p (encValue x12)]), (9, .arr 54 3 1 [.p (encValue x16)])]⟩) t18 ?_ ?_
 replace h := h19
 clear h19
 refine zr ?_
 refine zU ?_
 rcases zI h with ⟨h21, h⟩ | ⟨h21, h⟩
 replace h := h.symm
 refine zw 31 true ?_
 refine zg ?_
 refine zg ?_
 refine zg ?_
 refine zU (zl ?_)
 cases h
 exact ⟨rfl, zE⟩
 refine zw 31 false ?_
 refine zh ?_
 refine zU (zl ?_)
 cases h
 exact ⟨rfl, zE⟩
 try simp only at h
 refine zA (zn ?_)
 rcases zI h with ⟨h22, h⟩ | ⟨h22, h⟩
 refine zi (zs (zr ?_))
 refine zU ?_
 obtain ⟨r23, h24, h⟩ := zB h
 refine zc (c5_h i1 k2 _ h24) ?_
 refine zU (zl (zn (zq (zt ?_))))
 cases h
 exact zT Tryz.results65
 refine zj (zk (zn (zs (zr ?_))))
 refine zU ?_
 obtain ⟨r25, h26, h⟩ := zB h
 refine zc (value_Compare_con x12 x16 _ h26) ?_
 refine zU (zl (zn (zq ?_)))
 cases h
 exact zT Tryz.results65
end Go.Proofs.YtbiklagfjeileaaGreat
set_option linter.unusedVariables false
set_option linter.unusedSimpArgs false
namespace Go.Proofs.YtbiklagfjeileaaGreat
open Go Go.Ab
set_option maxHeartbeats 4000000 in
theorem blocking_Prefix_con {D : Prop} (t1 : Table) (a2 : Int) (s3 : Int) (r4 : List Arr2_int64 × Int) (h : blocking_Prefix t1 a2 s3 = some r4) : Con D Tryz.prog 11 [(encTable t1), (.int .i64 a2), (.int .i64 s3)] (.tup [(.slc (List.map encArr2_int64 r4.1)), (.int .i64 r4.2)]) := by
 refine zP Tryz.call11 Tryz.func11 rfl Tryz.ntmps11 fun X w => ?_
 simp only [blocking_Prefix] at h
 refine zs (zr ?_)
 refine zU (zl (zn (zs ?_)))
 obtain ⟨e5, h6, h⟩ := zB h
 refine zJ (fun (o7 : Int) => tE (cX Tryz.f11 X w D) .normal ⟨[(3, .loc 3 1 0 0), (4, .loc 4 1 0 0), (5, .loc 5 1 0 0), (8, .p (.int .i64 o7))], [(3, .arr 26 3 1 [.p (encTable t1)]), (4, .arr 3 1 1 [.p (.int .i64 a2)]), (5, .arr 3 1 1 [.p (.int .i64 s3)])]⟩) e5 ?_ ?_
 replace h := h6
 clear h6
 refine zr ?_
 refine zU ?_
 rcases zI h with ⟨h8, h⟩ | ⟨h8, h⟩
 refine zw 14 true ?_
 refine zg ?_
 refine zg ?_
 refine zU ?_
 obtain ⟨r9, h10, h⟩ := zB h
 refine zc (blocking_check_con t1 a2 (decide (s3 ≤ 200)) _ h10) ?_
 refine zU (zl ?_)
 cases h
 exact ⟨rfl, zE⟩
 refine zw 14 false ?_
 refine zh ?_
 refine zU ?_
 obtain ⟨r11, h12, h⟩ := zB h
 refine zc (blocking_check_con t1 a2 false _ h12) ?_
 refine zU (zl ?_)
 cases h
 exact ⟨rfl, zE⟩
 try simp only at h
 refine zA (zn (zs (zr ?_)))
 refine zU (zl (zn ?_))
 rcases zI h with ⟨h13, h⟩ | ⟨h13, h⟩
 refine zi (zs (zr ?_))
 refine zU (zl (zn (zq (zt ?_))))
 cases h
 exact zT Tryz.results11
 refine zj (zk (zn (zs (zr ?_))))
 refine zU (zl (zn (zs ?_)))
 refine zL ⟨[(3, .p (.imm [.str t1.Name, .slc (List.map PV.str t1.Attrs), .slc (List.map encRow t1.Rows)])), (4, .p (.imm [.int .i64 a2])), (9, .p (.imm [.func (.func 32) [.imm [.str t1.Name, .slc (List.map PV.str t1.Attrs), .slc (List.map encRow t1.Rows)], .imm [.int .i64 a2], .imm [.int .i64 s3]]]))], []⟩ ?_
 refine zd ?_
 refine yU ?_
 obtain ⟨r14, h15, h⟩ := zB h
 refine yc (blocking_alike_con t1 a2 (fun (y16 : Int) (y17 : Int) => blocking_Prefix_2 y16 y17 (fun (y18 : Int) => blocking_Prefix_1 y18 t1 a2 s3)) 34 [.imm [.func (.func 32) [.imm [.str t1.Name, .slc (List.map PV.str t1.Attrs), .slc (List.map encRow t1.Rows)], .imm [.int .i64 a2], .imm [.int .i64 s3]]]] (fun y16 y17 r h => blocking_Prefix_2_con y16 y17 (fun (y18 : Int) => blocking_Prefix_1 y18 t1 a2 s3) 32 [.imm [.str t1.Name, .slc (List.map PV.str t1.Attrs), .slc (List.map encRow t1.Rows)], .imm [.int .i64 a2], .imm [.int .i64 s3]] (fun y18 r h => blocking_Prefix_1_con y18 t1 a2 s3 r h) r h) _ h15) ?_
 obtain ⟨r19, h20, h⟩ := zB h
 refine yc (blocking_pairs_con t1 (fun (y21 : Int) (y22 : Int) => blocking_alike_1 y21 y22 t1 a2 (fun (y23 : Int) (y24 : Int) => blocking_Prefix_2 y23 y24 (fun (y25 : Int) => blocking_Prefix_1 y25 t1 a2 s3))) 65 [.imm [.str t1.Name, .slc (List.map PV.str t1.Attrs), .slc (List.map encRow t1.Rows)], .imm [.int .i64 a2], .imm [.func (.func 34) [.imm [.func (.func 32) [.imm [.str t1.Name, .slc (List.map PV.str t1.Attrs), .slc (List.map encRow t1.Rows)], .imm [.int .i64 a2], .imm [.int .i64 s3]]]]]] (fun y21 y22 r h => blocking_alike_1_con y21 y22 t1 a2 (fun (y23 : Int) (y24 : Int) => blocking_Prefix_2 y23 y24 (fun (y25 : Int) => blocking_Prefix_1 y25 t1 a2 s3)) 34 [.imm [.func (.func 32) [.imm [.str t1.Name, .slc (List.map PV.str t1.Attrs), .slc (List.map encRow t1.Rows)], .imm [.int .i64 a2], .imm [.int .i64 s3]]]] (fun y23 y24 r h => blocking_Prefix_2_con y23 y24 (fun (y25 : Int) => blocking_Prefix_1 y25 t1 a2 s3) 32 [.imm [.str t1.Name, .slc (List.map PV.str t1.Attrs), .slc (List.map encRow t1.Rows)], .imm [.int .i64 a2], .imm [.int .i64 s3]] (fun y25 r h => blocking_Prefix_1_con y25 t1 a2 s3 r h) r h) r h) _ h20) ?_
 refine yU ?_
 refine yd (zn (zq ?_))
 cases h
 exact zT Tryz.results11
end Go.Proofs.YtbiklagfjeileaaGreat
namespace Go.Proofs
open Go Go.Ab Go.Shelf
def YtbiklagfjeileaaGreat.sort35_ren : Go.Shelf.Ren := ⟨fun | 6 => 35 | 15 => 67 | 14 => 66 | 28 => 101 | 29 => 102 | 20 => 93 | 21 => 94 | 22 => 95 | 23 => 96 | 24 => 97 | 25 => 98 | 26 => 99 | 27 => 100 | 46 => 134 | 47 => 135 | 48 => 136 | 49 => 137 | 50 => 138 | 57 => 161 | n => n, fun | 22 => 64 | 24 => 3 | 25 => 67 | 3 => 3 | 39 => 93 | 0 => 0 | 53 => 118 | 55 => 105 | 4 => 4 | 46 => 112 | 45 => 111 | 50 => 81 | 5 => 5 | 9 => 9 | 66 => 149 | 70 => 153 | 76 => 173 | 77 => 174 | n => n, fun | n => n⟩
theorem YtbiklagfjeileaaGreat.sort35 : Go.Proofs.SlLaysF.n6 Tryz.prog YtbiklagfjeileaaGreat.sort35_ren := {
  mixed := by kernel_rfl
  f6 := ⟨Tryz.f35.name, by decide, Tryz.func35.trans (congrArg some (by kernel_rfl))⟩
  f14 := ⟨Tryz.f66.name, by decide, Tryz.func66.trans (congrArg some (by kernel_rfl))⟩
  f15 := Tryz.func67.trans (congrArg some (by kernel_rfl))
  f20 := ⟨Tryz.f93.name, by decide, Tryz.func93.trans (congrArg some (by kernel_rfl))⟩
  f21 := ⟨Tryz.f94.name, by decide, Tryz.func94.trans (congrArg some (by kernel_rfl))⟩
  f22 := ⟨Tryz.f95.name, by decide, Tryz.func95.trans (congrArg some (by kernel_rfl))⟩
  f23 := ⟨Tryz.f96.name, by decide, Tryz.func96.trans (congrArg some (by kernel_rfl))⟩
  f24 := ⟨Tryz.f97.name, by decide, Tryz.func97.trans (congrArg some (by kernel_rfl))⟩
  f25 := ⟨Tryz.f98.name, by decide, Tryz.func98.trans (congrArg some (by kernel_rfl))⟩
  f26 := ⟨Tryz.f99.name, by decide, Tryz.func99.trans (congrArg some (by kernel_rfl))⟩
  f27 := ⟨Tryz.f100.name, by decide, Tryz.func100.trans (congrArg some (by kernel_rfl))⟩
  f28 := Tryz.func101.trans (congrArg some (by kernel_rfl))
  f29 := Tryz.func102.trans (congrArg some (by kernel_rfl))
  f46 := ⟨Tryz.f134.name, by decide, Tryz.func134.trans (congrArg some (by kernel_rfl))⟩
  f47 := Tryz.func135.trans (congrArg some (by kernel_rfl))
  f48 := Tryz.func136.trans (congrArg some (by kernel_rfl))
  f49 := ⟨Tryz.f137.name, by decide, Tryz.func137.trans (congrArg some (by kernel_rfl))⟩
  f50 := ⟨Tryz.f138.name, by decide, Tryz.func138.trans (congrArg some (by kernel_rfl))⟩
  f57 := ⟨Tryz.f161.name, by decide, Tryz.func161.trans (congrArg some (by kernel_rfl))⟩
  t0 := Tryz.underlying0
  a0 := Tryz.isAgg0
  z0 := Tryz.sizeOf0
  v0 := Tryz.zeroValue0
  t3 := Tryz.underlying3
  a3 := Tryz.isAgg3
  z3 := Tryz.sizeOf3
  v3 := Tryz.zeroValue3
  t4 := Tryz.underlying4
  a4 := Tryz.isAgg4
  z4 := Tryz.sizeOf4
  v4 := Tryz.zeroValue4
  t5 := Tryz.underlying5
  a5 := Tryz.isAgg5
  z5 := Tryz.sizeOf5
  v5 := Tryz.zeroValue5
  t9 := Tryz.underlying9
  a9 := Tryz.isAgg9
  z9 := Tryz.sizeOf9
  v9 := Tryz.zeroValue9
  t22 := Tryz.underlying64
  a22 := Tryz.isAgg64
  z22 := Tryz.sizeOf64
  v22 := Tryz.zeroValue64
  a24 := Tryz.isAgg3
  z24 := Tryz.sizeOf3
  t25 := Tryz.underlying67
  a25 := Tryz.isAgg67
  z25 := Tryz.sizeOf67
  v25 := Tryz.zeroValue67
  t39 := Tryz.underlying93
  a39 := Tryz.isAgg93
  z39 := Tryz.sizeOf93
  v39 := Tryz.zeroValue93
  t45 := Tryz.underlying111
  a45 := Tryz.isAgg111
  z45 := Tryz.sizeOf111
  v45 := Tryz.zeroValue111
  t46 := Tryz.underlying112
  a46 := Tryz.isAgg112
  z46 := Tryz.sizeOf112
  v46 := Tryz.zeroValue112
  t50 := Tryz.underlying81
  a50 := Tryz.isAgg81
  z50 := Tryz.sizeOf81
  v50 := Tryz.zeroValue81
  t53 := Tryz.underlying118
  a53 := Tryz.isAgg118
  z53 := Tryz.sizeOf118
  v53 := Tryz.zeroValue118
  t55 := Tryz.underlying105
  a55 := Tryz.isAgg105
  z55 := Tryz.sizeOf105
  v55 := Tryz.zeroValue105
  t66 := Tryz.underlying149
  a66 := Tryz.isAgg149
  z66 := Tryz.sizeOf149
  v66 := Tryz.zeroValue149
  t70 := Tryz.underlying153
  a70 := Tryz.isAgg153
  z70 := Tryz.sizeOf153
  v70 := Tryz.zeroValue153
  t76 := Tryz.underlying173
  a76 := Tryz.isAgg173
  z76 := Tryz.sizeOf173
  v76 := Tryz.zeroValue173
  t77 := Tryz.underlying174
  a77 := Tryz.isAgg174
  z77 := Tryz.sizeOf174
  v77 := Tryz.zeroValue174 }
def YtbiklagfjeileaaGreat.sort49_ren : Go.Shelf.Ren := ⟨fun | 6 => 49 | 15 => 67 | 14 => 77 | 28 => 101 | 29 => 102 | 20 => 116 | 21 => 117 | 22 => 118 | 23 => 119 | 24 => 120 | 25 => 121 | 26 => 122 | 27 => 123 | 46 => 154 | 47 => 135 | 48 => 136 | 49 => 155 | 50 => 156 | 57 => 167 | n => n, fun | 22 => 30 | 24 => 43 | 25 => 78 | 3 => 3 | 39 => 93 | 0 => 0 | 53 => 118 | 55 => 105 | 4 => 4 | 46 => 112 | 45 => 111 | 50 => 81 | 5 => 5 | 9 => 9 | 66 => 149 | 70 => 153 | 76 => 173 | 77 => 174 | n => n, fun | n => n⟩
theorem YtbiklagfjeileaaGreat.sort49 : Go.Proofs.SlLaysF0.n6 Tryz.prog YtbiklagfjeileaaGreat.sort49_ren := {
  mixed := by kernel_rfl
  f6 := ⟨Tryz.f49.name, by decide, Tryz.func49.trans (congrArg some (by kernel_rfl))⟩
  f14 := ⟨Tryz.f77.name, by decide, Tryz.func77.trans (congrArg some (by kernel_rfl))⟩
  f15 := Tryz.func67.trans (congrArg some (by kernel_rfl))
  f20 := ⟨Tryz.f116.name, by decide, Tryz.func116.trans (congrArg some (by kernel_rfl))⟩
  f21 := ⟨Tryz.f117.name, by decide, Tryz.func117.trans (congrArg some (by kernel_rfl))⟩
  f22 := ⟨Tryz.f118.name, by decide, Tryz.func118.trans (congrArg some (by kernel_rfl))⟩
  f23 := ⟨Tryz.f119.name, by decide, Tryz.func119.trans (congrArg some (by kernel_rfl))⟩
  f24 := ⟨Tryz.f120.name, by decide, Tryz.func120.trans (congrArg some (by kernel_rfl))⟩
  f25 := ⟨Tryz.f121.name, by decide, Tryz.func121.trans (congrArg some (by kernel_rfl))⟩
  f26 := ⟨Tryz.f122.name, by decide, Tryz.func122.trans (congrArg some (by kernel_rfl))⟩
  f27 := ⟨Tryz.f123.name, by decide, Tryz.func123.trans (congrArg some (by kernel_rfl))⟩
  f28 := Tryz.func101.trans (congrArg some (by kernel_rfl))
  f29 := Tryz.func102.trans (congrArg some (by kernel_rfl))
  f46 := ⟨Tryz.f154.name, by decide, Tryz.func154.trans (congrArg some (by kernel_rfl))⟩
  f47 := Tryz.func135.trans (congrArg some (by kernel_rfl))
  f48 := Tryz.func136.trans (congrArg some (by kernel_rfl))
  f49 := ⟨Tryz.f155.name, by decide, Tryz.func155.trans (congrArg some (by kernel_rfl))⟩
  f50 := ⟨Tryz.f156.name, by decide, Tryz.func156.trans (congrArg some (by kernel_rfl))⟩
  f57 := ⟨Tryz.f167.name, by decide, Tryz.func167.trans (congrArg some (by kernel_rfl))⟩
  t0 := Tryz.underlying0
  a0 := Tryz.isAgg0
  z0 := Tryz.sizeOf0
  v0 := Tryz.zeroValue0
  t3 := Tryz.underlying3
  a3 := Tryz.isAgg3
  z3 := Tryz.sizeOf3
  v3 := Tryz.zeroValue3
  t4 := Tryz.underlying4
  a4 := Tryz.isAgg4
  z4 := Tryz.sizeOf4
  v4 := Tryz.zeroValue4
  t5 := Tryz.underlying5
  a5 := Tryz.isAgg5
  z5 := Tryz.sizeOf5
  v5 := Tryz.zeroValue5
  t9 := Tryz.underlying9
  a9 := Tryz.isAgg9
  z9 := Tryz.sizeOf9
  v9 := Tryz.zeroValue9
  t22 := Tryz.underlying30
  a22 := Tryz.isAgg30
  z22 := Tryz.sizeOf30
  v22 := Tryz.zeroValue30
  t25 := Tryz.underlying78
  a25 := Tryz.isAgg78
  z25 := Tryz.sizeOf78
  v25 := Tryz.zeroValue78
  t39 := Tryz.underlying93
  a39 := Tryz.isAgg93
  z39 := Tryz.sizeOf93
  v39 := Tryz.zeroValue93
  t45 := Tryz.underlying111
  a45 := Tryz.isAgg111
  z45 := Tryz.sizeOf111
  v45 := Tryz.zeroValue111
  t46 := Tryz.underlying112
  a46 := Tryz.isAgg112
  z46 := Tryz.sizeOf112
  v46 := Tryz.zeroValue112
  t50 := Tryz.underlying81
  a50 := Tryz.isAgg81
  z50 := Tryz.sizeOf81
  v50 := Tryz.zeroValue81
  t53 := Tryz.underlying118
  a53 := Tryz.isAgg118
  z53 := Tryz.sizeOf118
  v53 := Tryz.zeroValue118
  t55 := Tryz.underlying105
  a55 := Tryz.isAgg105
  z55 := Tryz.sizeOf105
  v55 := Tryz.zeroValue105
  t66 := Tryz.underlying149
  a66 := Tryz.isAgg149
  z66 := Tryz.sizeOf149
  v66 := Tryz.zeroValue149
  t70 := Tryz.underlying153
  a70 := Tryz.isAgg153
  z70 := Tryz.sizeOf153
  v70 := Tryz.zeroValue153
  t76 := Tryz.underlying173
  a76 := Tryz.isAgg173
  z76 := Tryz.sizeOf173
  v76 := Tryz.zeroValue173
  t77 := Tryz.underlying174
  a77 := Tryz.isAgg174
  z77 := Tryz.sizeOf174
  v77 := Tryz.zeroValue174 }
def YtbiklagfjeileaaGreat.sort71_ren : Go.Shelf.Ren := ⟨fun | 6 => 71 | 8 => 67 | 9 => 111 | 19 => 101 | 20 => 102 | 21 => 145 | 22 => 146 | 23 => 147 | 24 => 148 | 25 => 149 | 26 => 150 | 27 => 151 | 28 => 152 | 29 => 153 | 36 => 164 | 31 => 135 | 32 => 136 | 37 => 165 | 38 => 166 | 39 => 112 | 41 => 170 | n => n, fun | 27 => 22 | 29 => 9 | 3 => 3 | 32 => 93 | 26 => 22 | 0 => 0 | 44 => 118 | 46 => 105 | 4 => 4 | 36 => 112 | 35 => 111 | 41 => 81 | 5 => 5 | 9 => 9 | 53 => 149 | 57 => 153 | 63 => 173 | 64 => 174 | n => n, fun | n => n⟩
theorem YtbiklagfjeileaaGreat.sort71 : Go.Proofs.SlLaysM.n6 Tryz.prog YtbiklagfjeileaaGreat.sort71_ren := {
  mixed := by kernel_rfl
  f6 := ⟨Tryz.f71.name, by decide, Tryz.func71.trans (congrArg some (by kernel_rfl))⟩
  f8 := Tryz.func67.trans (congrArg some (by kernel_rfl))
  f9 := ⟨Tryz.f111.name, by decide, Tryz.func111.trans (congrArg some (by kernel_rfl))⟩
  f19 := Tryz.func101.trans (congrArg some (by kernel_rfl))
  f20 := Tryz.func102.trans (congrArg some (by kernel_rfl))
  f21 := ⟨Tryz.f145.name, by decide, Tryz.func145.trans (congrArg some (by kernel_rfl))⟩
  f22 := ⟨Tryz.f146.name, by decide, Tryz.func146.trans (congrArg some (by kernel_rfl))⟩
  f23 := ⟨Tryz.f147.name, by decide, Tryz.func147.trans (congrArg some (by kernel_rfl))⟩
  f24 := ⟨Tryz.f148.name, by decide, Tryz.func148.trans (congrArg some (by kernel_rfl))⟩
  f25 := ⟨Tryz.f149.name, by decide, Tryz.func149.trans (congrArg some (by kernel_rfl))⟩
  f26 := ⟨Tryz.f150.name, by decide, Tryz.func150.trans (congrArg some (by kernel_rfl))⟩
  f27 := ⟨Tryz.f151.name, by decide, Tryz.func151.trans (congrArg some (by kernel_rfl))⟩
  f28 := ⟨Tryz.f152.name, by decide, Tryz.func152.trans (congrArg some (by kernel_rfl))⟩
  f29 := ⟨Tryz.f153.name, by decide, Tryz.func153.trans (congrArg some (by kernel_rfl))⟩
  f31 := Tryz.func135.trans (congrArg some (by kernel_rfl))
  f32 := Tryz.func136.trans (congrArg some (by kernel_rfl))
  f36 := ⟨Tryz.f164.name, by decide, Tryz.func164.trans (congrArg some (by kernel_rfl))⟩
  f37 := ⟨Tryz.f165.name, by decide, Tryz.func165.trans (congrArg some (by kernel_rfl))⟩
  f38 := ⟨Tryz.f166.name, by decide, Tryz.func166.trans (congrArg some (by kernel_rfl))⟩
  f39 := ⟨Tryz.f112.name, by decide, Tryz.func112.trans (congrArg some (by kernel_rfl))⟩
  f41 := ⟨Tryz.f170.name, by decide, Tryz.func170.trans (congrArg some (by kernel_rfl))⟩
  t0 := Tryz.underlying0
  a0 := Tryz.isAgg0
  z0 := Tryz.sizeOf0
  v0 := Tryz.zeroValue0
  t3 := Tryz.underlying3
  a3 := Tryz.isAgg3
  z3 := Tryz.sizeOf3
  v3 := Tryz.zeroValue3
  t4 := Tryz.underlying4
  a4 := Tryz.isAgg4
  z4 := Tryz.sizeOf4
  v4 := Tryz.zeroValue4
  t5 := Tryz.underlying5
  a5 := Tryz.isAgg5
  z5 := Tryz.sizeOf5
  v5 := Tryz.zeroValue5
  t9 := Tryz.underlying9
  a9 := Tryz.isAgg9
  z9 := Tryz.sizeOf9
  v9 := Tryz.zeroValue9
  t26 := Tryz.underlying22
  a26 := Tryz.isAgg22
  z26 := Tryz.sizeOf22
  v26 := Tryz.zeroValue22
  t27 := Tryz.underlying22
  a27 := Tryz.isAgg22
  z27 := Tryz.sizeOf22
  v27 := Tryz.zeroValue22
  t29 := Tryz.underlying9
  a29 := Tryz.isAgg9
  z29 := Tryz.sizeOf9
  v29 := Tryz.zeroValue9
  t32 := Tryz.underlying93
  a32 := Tryz.isAgg93
  z32 := Tryz.sizeOf93
  v32 := Tryz.zeroValue93
  t35 := Tryz.underlying111
  a35 := Tryz.isAgg111
  z35 := Tryz.sizeOf111
  v35 := Tryz.zeroValue111
  t36 := Tryz.underlying112
  a36 := Tryz.isAgg112
  z36 := Tryz.sizeOf112
  v36 := Tryz.zeroValue112
  t41 := Tryz.underlying81
  a41 := Tryz.isAgg81
  z41 := Tryz.sizeOf81
  v41 := Tryz.zeroValue81
  t44 := Tryz.underlying118
  a44 := Tryz.isAgg118
  z44 := Tryz.sizeOf118
  v44 := Tryz.zeroValue118
  t46 := Tryz.underlying105
  a46 := Tryz.isAgg105
  z46 := Tryz.sizeOf105
  v46 := Tryz.zeroValue105
  t53 := Tryz.underlying149
  a53 := Tryz.isAgg149
  z53 := Tryz.sizeOf149
  v53 := Tryz.zeroValue149
  t57 := Tryz.underlying153
  a57 := Tryz.isAgg153
  z57 := Tryz.sizeOf153
  v57 := Tryz.zeroValue153
  t63 := Tryz.underlying173
  a63 := Tryz.isAgg173
  z63 := Tryz.sizeOf173
  v63 := Tryz.zeroValue173
  t64 := Tryz.underlying174
  a64 := Tryz.isAgg174
  z64 := Tryz.sizeOf174
  v64 := Tryz.zeroValue174 }
theorem YtbiklagfjeileaaGreat.srt35 : Srt1 Tryz.prog 35 := ⟨Tryz.call35, fun enc h1 cf hO g cb blk off cap d w eg hc hH hb hs => Any.slices_SortFunc_eq YtbiklagfjeileaaGreat.sort35 enc h1 cf hO g cb blk off cap d w eg hc hH hb hs, fun p cap fv w => AnyF.slices_SortFunc_none { YtbiklagfjeileaaGreat.sort35 with } p cap fv w⟩
theorem YtbiklagfjeileaaGreat.srt49 : SrtQ Tryz.prog 49 2 := ⟨Tryz.call49, fun enc hk h1 cf hO g cb blk off cap d w eg hc hH hb hs => AnyQ.slices_SortFunc_eq YtbiklagfjeileaaGreat.sort49 2 Tryz.isAgg43 Tryz.sizeOf43 enc hk h1 cf hO g cb blk off cap d w eg hc hH hb hs, fun p cap fv w => AnyF.slices_SortFunc_none YtbiklagfjeileaaGreat.sort49 p cap fv w⟩
theorem YtbiklagfjeileaaGreat.srt71 : SrtS Tryz.prog 71 := ⟨Tryz.call71, fun blk off cap zs w hH hb hs => AnyM.slices_Sort_string YtbiklagfjeileaaGreat.sort71 blk off cap zs w hH hb hs, fun p cap w => AnyM.slices_Sort_string_none YtbiklagfjeileaaGreat.sort71 p cap w⟩
end Go.Proofs
set_option linter.unusedVariables false
set_option linter.unusedSimpArgs false
namespace Go.Proofs.YtbiklagfjeileaaGreat
open Go Go.Ab
set_option maxRecDepth 20000 in
set_option maxHeartbeats 4000000 in
theorem blocking_Window_1_con {D : Prop} (i1 : Int) (k2 : Int) (c3 : Table) (c4 : Int) (r5 : Int) (h : blocking_Window_1 i1 k2 c3 c4 = some r5) : Con D Tryz.prog 36 [(.int .i64 i1), (.int .i64 k2), .imm [.str c3.Name, .slc (List.map PV.str c3.Attrs), .slc (List.map encRow c3.Rows)], .imm [.int .i64 c4]] (.int .i64 r5) := by
 refine zP Tryz.call36 Tryz.func36 rfl Tryz.ntmps36 fun X w => ?_
 simp only [blocking_Window_1] at h
 refine zs (zr ?_)
 refine zU (zl (zn (zs (zd ?_))))
 obtain ⟨x6, h7, h7a, h7b, h⟩ := zX h
 obtain ⟨x8, h9, h9a, h9b, h⟩ := zX h
 obtain ⟨x10, h11, h11a, h11b, h⟩ := zX h
 obtain ⟨x12, h13, h13a, h13b, h⟩ := zX h
 refine yU ?_
 obtain ⟨r14, h15, h⟩ := zB h
 refine yc (value_Compare_con x8 x12 _ h15) ?_
 refine yU ?_
 obtain ⟨r16, h17, h⟩ := zB h
 refine yc (cmp_Compare_int_con i1 k2 _ h17) ?_
 refine yU ?_
 obtain ⟨r18, h19, h⟩ := zB h
 refine yc (cmp_Or_int_con [r14, r16] _ h19) ?_
 refine yU ?_
 refine yd (zn (zq ?_))
 cases h
 exact zT Tryz.results36
end Go.Proofs.YtbiklagfjeileaaGreat
set_option linter.unusedVariables false
set_option linter.unusedSimpArgs false
namespace Go.Proofs.YtbiklagfjeileaaGreat
open Go Go.Ab
set_option maxRecDepth 20000 in
set_option maxHeartbeats 4000000 in
theorem blocking_Window_2_con {D : Prop} (i1 : Int) (k2 : Int) (c3 : List Int) (c4 : Int) (r5 : Bool) (h : blocking_Window_2 i1 k2 c3 c4 = some r5) : Con D Tryz.prog 39 [(.int .i64 i1), (.int .i64 k2), .imm [.slc (List.map (PV.int .i64) c3)], .imm [.int .i64 c4]] (.bool r5) := by
 refine zP Tryz.call39 Tryz.func39 rfl Tryz.ntmps39 fun X w => ?_
 simp only [blocking_Window_2] at h
 refine zs (zr ?_)
 refine zU (zl (zn (zs (zd ?_))))
 obtain ⟨x6, h7, h7a, h7b, h⟩ := zX h
 obtain ⟨x8, h9, h9a, h9b, h⟩ := zX h
 refine yU ?_
 refine yd (zn (zq ?_))
 cases h
 exact zT Tryz.results39
end Go.Proofs.YtbiklagfjeileaaGreat
set_option linter.unusedVariables false
set_option linter.unusedSimpArgs false
namespace Go.Proofs.YtbiklagfjeileaaGreat
open Go Go.Ab
set_option maxHeartbeats 4000000 in
theorem blocking_Window_con {D : Prop} (t1 : Table) (a2 : Int) (w3 : Int) (r4 : List Arr2_int64 × Int) (h : blocking_Window t1 a2 w3 = some r4) : Con D Tryz.prog 12 [(encTable t1), (.int .i64 a2), (.int .i64 w3)] (.tup [(.slc (List.map encArr2_int64 r4.1)), (.int .i64 r4.2)]) := by
 refine zP Tryz.call12 Tryz.func12 rfl Tryz.ntmps12 fun X w => ?_
 simp only [blocking_Window] at h
 refine zs (zr ?_)
 refine zU (zl (zn (zs ?_)))
 obtain ⟨e5, h6, h⟩ := zB h
 refine zJ (fun (o7 : Int) => tE (cX Tryz.f12 X w D) .normal ⟨[(3, .loc 3 1 0 0), (4, .loc 4 1 0 0), (5, .loc 5 1 0 0), (8, .p (.int .i64 o7))], [(3, .arr 26 3 1 [.p (encTable t1)]), (4, .arr 3 1 1 [.p (.int .i64 a2)]), (5, .arr 3 1 1 [.p (.int .i64 w3)])]⟩) e5 ?_ ?_
 replace h := h6
 clear h6
 refine zr ?_
 refine zU ?_
 rcases zI h with ⟨h8, h⟩ | ⟨h8, h⟩
 refine zw 18 true ?_
 refine zg ?_
 refine zg ?_
 refine zU ?_
 obtain ⟨r9, h10, h⟩ := zB h
 refine zc (blocking_check_con t1 a2 (decide (w3 ≤ 200)) _ h10) ?_
 refine zU (zl ?_)
 cases h
 exact ⟨rfl, zE⟩
 refine zw 18 false ?_
 refine zh ?_
 refine zU ?_
 obtain ⟨r11, h12, h⟩ := zB h
 refine zc (blocking_check_con t1 a2 false _ h12) ?_
 refine zU (zl ?_)
 cases h
 exact ⟨rfl, zE⟩
 try simp only at h
 refine zA (zn (zs (zr ?_)))
 refine zU (zl (zn ?_))
 rcases zI h with ⟨h13, h⟩ | ⟨h13, h⟩
 refine zi (zs (zr ?_))
 refine zU (zl (zn (zq (zt ?_))))
 cases h
 exact zT Tryz.results12
 refine zj (zk (zn (zs (zr ?_))))
 obtain ⟨h14, h⟩ := ite_some h
 obtain ⟨h15, h⟩ := ite_some h
 refine zU (zl (zn (zs (zs (zr ?_)))))
 refine zU (zl (zn (zb ?_)))
 obtain ⟨o16, h17, h⟩ := zB h
 refine zO (fun (s : List Int × Int) => ⟨[(3, .loc 3 1 0 0), (4, .loc 4 1 0 0), (5, .loc 5 1 0 0), (9, .own 29 1 0 s.1.length), (31, .p (.int .i64 ((t1.Rows.length : Nat) : Int))), (32, .p (.int .i64 s.2))], [(3, .arr 26 3 1 [.p (encTable t1)]), (4, .arr 3 1 1 [.p (.int .i64 a2)]), (5, .arr 3 1 1 [.p (.int .i64 w3)]), (29, .arr 3 1 1 (List.map AV.p (List.map (PV.int .i64) s.1)))]⟩) (fun (o18 : List Int) => tE (cX Tryz.f12 X w D) (.exit 0) ⟨[(3, .loc 3 1 0 0), (4, .loc 4 1 0 0), (5, .loc 5 1 0 0), (9, .own 29 1 0 o18.length)], [(3, .arr 26 3 1 [.p (encTable t1)]), (4, .arr 3 1 1 [.p (.int .i64 a2)]), (5, .arr 3 1 1 [.p (.int .i64 w3)]), (29, .arr 3 1 1 (List.map AV.p (List.map (PV.int .i64) o18)))]⟩) h17 ?_ ?_
 clear h h13 h14 h15 h17
 intro s x h
 obtain ⟨o19, t20⟩ := s
 simp only [blocking_Window_l1] at h
 dsimp only
 refine zs (zr ?_)
 refine zU (zl (zn (zs ?_)))
 rcases zI h with ⟨h21, h⟩ | ⟨h21, h⟩
 refine zi (zk (zn (zs (zb (zs (zr ?_))))))
 refine zU (zl (zn (zr ?_)))
 obtain ⟨x22, h23, h23a, h23b, h⟩ := zX h
 refine zU (zl (yn (zn (zr ?_))))
 refine zU (zl ?_)
 cases h
 exact ⟨rfl, zE⟩
 refine zj (zx (ze ?_))
 cases h
 exact ⟨rfl, zE⟩
 try simp only at h
 refine zA (yh (zn (zs (zr ?_))))
 refine zU ?_
 refine zM ⟨[(3, .loc 3 1 0 0), (5, .loc 5 1 0 0), (9, .own 29 1 0 o16.length), (40, .own 29 1 0 o16.length), (41, .func (.func 36) [.loc 3 1 0 0, .loc 4 1 0 0])], [(3, .arr 26 3 1 [.p (encTable t1)]), (4, .arr 3 1 1 [.p (.int .i64 a2)]), (5, .arr 3 1 1 [.p (.int .i64 w3)]), (29, .arr 3 1 1 (List.map AV.p (List.map (PV.int .i64) o16)))]⟩ ?_
 obtain ⟨l24, h25, h⟩ := zB h
 refine zSF srt35 (PV.int .i64) (fun (y26 : Int) (y27 : Int) => blocking_Window_1 y26 y27 t1 a2) h25 (fun y26 y27 r h => blocking_Window_1_con y26 y27 t1 a2 r h) ?_
 have h28 := srtF_len h25
 refine zM ⟨[(3, .loc 3 1 0 0), (5, .loc 5 1 0 0), (9, .own 29 1 0 l24.length), (42, .p (.tup []))], [(3, .arr 26 3 1 [.p (encTable t1)]), (5, .arr 3 1 1 [.p (.int .i64 w3)]), (29, .arr 3 1 1 (List.map AV.p (List.map (PV.int .i64) l24)))]⟩ ?_
 clear h28
 refine zl (zn (zs (zr ?_)))
 obtain ⟨h29, h⟩ := ite_some h
 obtain ⟨h30, h⟩ := ite_some h
 refine zU (zl (zn (zs (zs (zr ?_)))))
 refine zU (zl (zn (zb ?_)))
 obtain ⟨p31, h32, h⟩ := zB h
 refine zO (fun (s : List Int × Int) => ⟨[(3, .loc 3 1 0 0), (5, .loc 5 1 0 0), (11, .loc 11 1 0 0), (46, .own 29 1 0 l24.length), (47, .p (.int .i64 ((l24.length : Nat) : Int))), (48, .p (.int .i64 s.2))], [(3, .arr 26 3 1 [.p (encTable t1)]), (5, .arr 3 1 1 [.p (.int .i64 w3)]), (11, .arr 64 1 1 [.own 45 1 0 s.1.length]), (29, .arr 3 1 1 (List.map AV.p (List.map (PV.int .i64) l24))), (45, .arr 3 1 1 (List.map AV.p (List.map (PV.int .i64) s.1)))]⟩) (fun (o33 : List Int) => tE (cX Tryz.f12 X w D) (.exit 2) ⟨[(3, .loc 3 1 0 0), (5, .loc 5 1 0 0), (11, .loc 11 1 0 0)], [(3, .arr 26 3 1 [.p (encTable t1)]), (5, .arr 3 1 1 [.p (.int .i64 w3)]), (11, .arr 64 1 1 [.own 45 1 0 o33.length]), (45, .arr 3 1 1 (List.map AV.p (List.map (PV.int .i64) o33)))]⟩) h32 ?_ ?_
 clear h h13 h14 h15 h17 h25 h29 h30 h32
 intro s x h
 obtain ⟨p34, t35⟩ := s
 simp only [blocking_Window_l2] at h
 dsimp only
 refine zs (zr ?_)
 refine zU (zl (zn (zs ?_)))
 rcases zI h with ⟨h36, h⟩ | ⟨h36, h⟩
 refine zi (zk (zn (zs (zb (zs (zr ?_))))))
 obtain ⟨x37, h38, h38a, h38b, h⟩ := zX h
 refine zU (zl (zn (zr ?_)))
 obtain ⟨x39, h40, h40a, h40b, h⟩ := zX h
 refine zU (zl (yn (zn (zr ?_))))
 refine zU (zl ?_)
 cases h
 exact ⟨rfl, zE⟩
 refine zj (zx (ze ?_))
 cases h
 exact ⟨rfl, zE⟩
 try simp only at h
 refine zA (yh (zn (zs (zr ?_))))
 refine zU ?_
 refine zM ⟨[(58, .p (encTable t1)), (59, .p (.func (.func 39) [.imm [.slc (List.map (PV.int .i64) p31)], .imm [.int .i64 w3]]))], []⟩ ?_
 obtain ⟨r41, h42, h⟩ := zB h
 refine zc (blocking_pairs_con t1 (fun (y43 : Int) (y44 : Int) => blocking_Window_2 y43 y44 p31 w3) 39 [.imm [.slc (List.map (PV.int .i64) p31)], .imm [.int .i64 w3]] (fun y43 y44 r h => blocking_Window_2_con y43 y44 p31 w3 r h) _ h42) ?_
 refine zU (zl (zn (zq ?_)))
 cases h
 exact zT Tryz.results12
end Go.Proofs.YtbiklagfjeileaaGreat
set_option linter.unusedVariables false
set_option linter.unusedSimpArgs false
namespace Go.Proofs.YtbiklagfjeileaaGreat
open Go Go.Ab
set_option maxHeartbeats 4000000 in
theorem slices_IndexFunc_string_con {D : Prop} (s1 : List (List UInt8)) (f2 : (List UInt8) → Option (Bool)) (f2_k : FuncId) (f2_cs : List PV) (f2_h : ∀ (y3 : List UInt8) (r4 : Bool), f2 y3 = some r4 → Con D Tryz.prog f2_k ((.str y3) :: f2_cs) (.bool r4)) (r5 : Int) (h : slices_IndexFunc_string s1 f2 = some r5) : Con D Tryz.prog 139 [(.slc (List.map PV.str s1)), .func (.func f2_k) f2_cs] (.int .i64 r5) := by
 refine zP Tryz.call139 Tryz.func139 rfl Tryz.ntmps139 fun X w => ?_
 simp only [slices_IndexFunc_string] at h
 refine zs (zr ?_)
 refine zU (zl (zn (zs (zs (zr ?_)))))
 refine zU (zl (zn (zb ?_)))
 obtain ⟨o6, h7, h⟩ := zB h
 refine zO (fun (s : Int) => ⟨[(0, .p (.slc (List.map PV.str s1))), (1, .p (.func (.func f2_k) f2_cs)), (7, .p (.int .i64 (s1.length : Int))), (8, .p (.int .i64 s))], []⟩) (fun (o : (Unit) ⊕ (Int)) => match o with | .inl o8 => tE (cX Tryz.f139 X w D) (.exit 0) ⟨[], []⟩ | .inr o9 => tR Tryz.prog Tryz.f139 (.int .i64 o9)) h7 ?_ ?_
 clear h h7
 intro t10 x h
 simp only [slices_IndexFunc_string_l1] at h
 refine zs (zr ?_)
 refine zU (zl (zn (zs ?_)))
 rcases zI h with ⟨h11, h⟩ | ⟨h11, h⟩
 refine zi (zk (zn (zs (zb (zs (zr ?_))))))
 refine zU (zl (zn (zs (zr ?_))))
 obtain ⟨x12, h13, h13a, h13b, h⟩ := zX h
 refine zU ?_
 obtain ⟨r14, h15, h⟩ := zB h
 refine zc (f2_h x12 _ h15) ?_
 refine zl (zn ?_)
 rcases zI h with ⟨h16, h⟩ | ⟨h16, h⟩
 refine zi (zs (zr ?_))
 refine zU (zl (zn (zq (yr (zt ?_)))))
 cases h
 exact ⟨rfl, zT Tryz.results139⟩
 refine zj (zk (yn (zn (zr ?_))))
 refine zU (zl ?_)
 cases h
 exact ⟨rfl, zE⟩
 refine zj (zx (ze ?_))
 cases h
 exact ⟨rfl, zE⟩
 rcases o6 with ⟨⟩ | r17
 try simp only at h
 refine zA (yh (zn (zs (zr ?_))))
 refine zU (zl (zn (zq ?_)))
 cases h
 exact zT Tryz.results139
 try simp only at h
 refine zZ fun s hq => ?_
 refine yr (zt ?_)
 cases h
 exact hq
end Go.Proofs.YtbiklagfjeileaaGreat
set_option linter.unusedVariables false
set_option linter.unusedSimpArgs false
namespace Go.Proofs.YtbiklagfjeileaaGreat
open Go Go.Ab
set_option maxHeartbeats 4000000 in
theorem slices_ContainsFunc_string_con {D : Prop} (s1 : List (List UInt8)) (f2 : (List UInt8) → Option (Bool)) (f2_k : FuncId) (f2_cs : List PV) (f2_h : ∀ (y3 : List UInt8) (r4 : Bool), f2 y3 = some r4 → Con D Tryz.prog f2_k ((.str y3) :: f2_cs) (.bool r4)) (r5 : Bool) (h : slices_ContainsFunc_string s1 f2 = some r5) : Con D Tryz.prog 103 [(.slc (List.map PV.str s1)), .func (.func f2_k) f2_cs] (.bool r5) := by
 refine zP Tryz.call103 Tryz.func103 rfl Tryz.ntmps103 fun X w => ?_
 simp only [slices_ContainsFunc_string] at h
 refine zs (zr ?_)
 refine zU (zl (zn (zs (zr ?_))))
 refine zU ?_
 obtain ⟨r6, h7, h⟩ := zB h
 refine zc (slices_IndexFunc_string_con s1 f2 f2_k f2_cs f2_h _ h7) ?_
 refine zU (zl (zn (zq ?_)))
 cases h
 exact zT Tryz.results103
end Go.Proofs.YtbiklagfjeileaaGreat
set_option linter.unusedVariables false
set_option linter.unusedSimpArgs false
namespace Go.Proofs.YtbiklagfjeileaaGreat
open Go Go.Ab
set_option maxHeartbeats 4000000 in
theorem similarity_long_1_con {D : Prop} (s1 : List UInt8) (r2 : Bool) (h : similarity_long_1 s1 = some r2) : Con D Tryz.prog 104 [(.str s1)] (.bool r2) := by
 refine zP Tryz.call104 Tryz.func104 rfl Tryz.ntmps104 fun X w => ?_
 simp only [similarity_long_1] at h
 refine zs (zr ?_)
 refine zU (zl (zn (zs (zr ?_))))
 refine zU (zl (zn (zq ?_)))
 cases h
 exact zT Tryz.results104
end Go.Proofs.YtbiklagfjeileaaGreat
set_option linter.unusedVariables false
set_option linter.unusedSimpArgs false
namespace Go.Proofs.YtbiklagfjeileaaGreat
open Go Go.Ab
set_option maxHeartbeats 4000000 in
theorem similarity_long_con {D : Prop} (l1 : List (List UInt8)) (r2 : Bool) (h : similarity_long l1 = some r2) : Con D Tryz.prog 69 [(.slc (List.map PV.str l1))] (.bool r2) := by
 refine zP Tryz.call69 Tryz.func69 rfl Tryz.ntmps69 fun X w => ?_
 simp only [similarity_long] at h
 refine zs (zr ?_)
 refine zU (zl (zn (zs (zr ?_))))
 refine zU ?_
 obtain ⟨r3, h4, h⟩ := zB h
 refine zc (slices_ContainsFunc_string_con l1 (fun (y5 : List UInt8) => similarity_long_1 y5) 104 [] (fun y5 r h => similarity_long_1_con y5 r h) _ h4) ?_
 refine zU (zl (zn (zq ?_)))
 cases h
 exact zT Tryz.results69
end Go.Proofs.YtbiklagfjeileaaGreat
namespace Go.Proofs
open Go Go.Ab Go.Shelf
def YtbiklagfjeileaaGreat.rep70_ren : Go.Shelf.Ren := ⟨fun | 105 => 70 | 212 => 105 | 99 => 106 | 165 => 107 | 166 => 108 | 170 => 109 | 169 => 110 | 263 => 140 | 264 => 141 | 206 => 142 | 240 => 143 | 241 => 144 | 276 => 162 | 277 => 163 | n => n, fun | 9 => 9 | 3 => 3 | 4 => 4 | 20 => 20 | 0 => 0 | 46 => 93 | 109 => 121 | 5 => 5 | 72 => 127 | 76 => 131 | 51 => 118 | 146 => 156 | 53 => 105 | 148 => 158 | 70 => 124 | 37 => 125 | 75 => 130 | 127 => 160 | 164 => 176 | 80 => 134 | n => n, fun | n => n⟩
theorem YtbiklagfjeileaaGreat.rep70 : Go.Proofs.Lays.n105 Tryz.prog YtbiklagfjeileaaGreat.rep70_ren := {
  mixed := by kernel_rfl
  f99 := Tryz.func106.trans (congrArg some (by kernel_rfl))
  f105 := Tryz.func70.trans (congrArg some (by kernel_rfl))
  f165 := Tryz.func107.trans (congrArg some (by kernel_rfl))
  f166 := Tryz.func108.trans (congrArg some (by kernel_rfl))
  f169 := Tryz.func110.trans (congrArg some (by kernel_rfl))
  f170 := Tryz.func109.trans (congrArg some (by kernel_rfl))
  f206 := Tryz.func142.trans (congrArg some (by kernel_rfl))
  f212 := Tryz.func105.trans (congrArg some (by kernel_rfl))
  f240 := Tryz.func143.trans (congrArg some (by kernel_rfl))
  f241 := Tryz.func144.trans (congrArg some (by kernel_rfl))
  f263 := Tryz.func140.trans (congrArg some (by kernel_rfl))
  f264 := Tryz.func141.trans (congrArg some (by kernel_rfl))
  f276 := Tryz.func162.trans (congrArg some (by kernel_rfl))
  f277 := Tryz.func163.trans (congrArg some (by kernel_rfl))
  t0 := Tryz.underlying0
  a0 := Tryz.isAgg0
  z0 := Tryz.sizeOf0
  v0 := Tryz.zeroValue0
  t3 := Tryz.underlying3
  a3 := Tryz.isAgg3
  z3 := Tryz.sizeOf3
  v3 := Tryz.zeroValue3
  t4 := Tryz.underlying4
  a4 := Tryz.isAgg4
  z4 := Tryz.sizeOf4
  v4 := Tryz.zeroValue4
  t5 := Tryz.underlying5
  a5 := Tryz.isAgg5
  z5 := Tryz.sizeOf5
  v5 := Tryz.zeroValue5
  t9 := Tryz.underlying9
  a9 := Tryz.isAgg9
  z9 := Tryz.sizeOf9
  v9 := Tryz.zeroValue9
  t20 := Tryz.underlying20
  a20 := Tryz.isAgg20
  z20 := Tryz.sizeOf20
  v20 := Tryz.zeroValue20
  t37 := Tryz.underlying125
  a37 := Tryz.isAgg125
  z37 := Tryz.sizeOf125
  v37 := Tryz.zeroValue125
  t46 := Tryz.underlying93
  a46 := Tryz.isAgg93
  z46 := Tryz.sizeOf93
  v46 := Tryz.zeroValue93
  t51 := Tryz.underlying118
  a51 := Tryz.isAgg118
  z51 := Tryz.sizeOf118
  v51 := Tryz.zeroValue118
  t53 := Tryz.underlying105
  a53 := Tryz.isAgg105
  z53 := Tryz.sizeOf105
  v53 := Tryz.zeroValue105
  t70 := Tryz.underlying124
  a70 := Tryz.isAgg124
  z70 := Tryz.sizeOf124
  v70 := Tryz.zeroValue124
  t72 := Tryz.underlying127
  a72 := Tryz.isAgg127
  z72 := Tryz.sizeOf127
  v72 := Tryz.zeroValue127
  t75 := Tryz.underlying130
  a75 := Tryz.isAgg130
  z75 := Tryz.sizeOf130
  v75 := Tryz.zeroValue130
  t76 := Tryz.underlying131
  a76 := Tryz.isAgg131
  z76 := Tryz.sizeOf131
  v76 := Tryz.zeroValue131
  t109 := Tryz.underlying121
  a109 := Tryz.isAgg121
  z109 := Tryz.sizeOf121
  v109 := Tryz.zeroValue121
  t127 := Tryz.underlying160
  a127 := Tryz.isAgg160
  z127 := Tryz.sizeOf160
  v127 := Tryz.zeroValue160
  t146 := Tryz.underlying156
  a146 := Tryz.isAgg156
  z146 := Tryz.sizeOf156
  v146 := Tryz.zeroValue156
  t148 := Tryz.underlying158
  a148 := Tryz.isAgg158
  z148 := Tryz.sizeOf158
  v148 := Tryz.zeroValue158
  t164 := Tryz.underlying176
  a164 := Tryz.isAgg176
  z164 := Tryz.sizeOf176
  v164 := Tryz.zeroValue176 }
theorem YtbiklagfjeileaaGreat.repX : Builder.Extra Tryz.prog YtbiklagfjeileaaGreat.rep70_ren where
  sizeBuilder := by kernel_rfl
  liesBuilder := by kernel_rfl
  t5 := YtbiklagfjeileaaGreat.rep70.t5
  a5 := YtbiklagfjeileaaGreat.rep70.a5
  z5 := YtbiklagfjeileaaGreat.rep70.z5
  v5 := YtbiklagfjeileaaGreat.rep70.v5
  infoByte := by kernel_rfl
  cellsByte := by kernel_rfl
  sizeByte := by kernel_rfl
  neB5 := by decide
theorem YtbiklagfjeileaaGreat.repeat70 (s : ByteArray) (c : Nat) (w : World) (hc : c ≤ 9223372036854775807) (hl : s.size * c ≤ 140737488355328) : Calls Tryz.prog 70 #[.string s, .int .i64 c] w fun e w' => e = .returned (.string ⟨(Lib.repeatL s.data.toList c).toArray⟩) ∧ RowKit.Below w.heap.size w w' :=
  Any.strings_Repeat YtbiklagfjeileaaGreat.rep70 YtbiklagfjeileaaGreat.repX s c w hc hl
end Go.Proofs
set_option linter.unusedVariables false
set_option linter.unusedSimpArgs false
namespace Go.Proofs.YtbiklagfjeileaaGreat
open Go Go.Ab
theorem strings_Repeat_con (x : List UInt8) (n : Int) (r : List UInt8) (h : strings_Repeat x n = some r) : Con False Tryz.prog 70 [(.str x), (.int .i64 n)] (.str r) := con_repeat Tryz.call70 repeat70 x n r h
end Go.Proofs.YtbiklagfjeileaaGreat
set_option linter.unusedVariables false
set_option linter.unusedSimpArgs false
namespace Go.Proofs.YtbiklagfjeileaaGreat
open Go Go.Ab
set_option maxHeartbeats 4000000 in
theorem similarity_Grams_con (s1 : List UInt8) (q2 : Int) (r3 : List (List UInt8) × Int) (h : similarity_Grams s1 q2 = some r3) : Con False Tryz.prog 40 [(.str s1), (.int .i64 q2)] (.tup [(.slc (List.map PV.str r3.1)), (.int .i64 r3.2)]) := by
 refine zP Tryz.call40 Tryz.func40 rfl Tryz.ntmps40 fun X w => ?_
 simp only [similarity_Grams] at h
 refine zs (zr ?_)
 refine zU (zl (zn (zs (zs (zr ?_)))))
 refine zU ?_
 obtain ⟨r4, h5, h⟩ := zB h
 refine zc (similarity_long_con [s1] _ h5) ?_
 refine zl (zn ?_)
 rcases zI h with ⟨h6, h⟩ | ⟨h6, h⟩
 refine zi (zs (zr ?_))
 refine zU (zl (zn (zq (zt ?_))))
 cases h
 exact zT Tryz.results40
 refine zj (zk (zn (zs (zs (zr ?_)))))
 refine zU ?_
 rcases zI h with ⟨h7, h⟩ | ⟨h7, h⟩
 refine zw 15 true ?_
 refine zh ?_
 refine zU (zl (zn ?_))
 refine zi (zs (zr ?_))
 refine zU (zl (zn (zq (zt ?_))))
 cases h
 exact zT Tryz.results40
 refine zw 15 false ?_
 refine zg ?_
 refine zg ?_
 refine zU (zl (zn ?_))
 rcases zI h with ⟨h8, h⟩ | ⟨h8, h⟩
 refine zi (zs (zr ?_))
 refine zU (zl (zn (zq (zt ?_))))
 cases h
 exact zT Tryz.results40
 refine zj (zk (zn (zs (zr ?_))))
 refine zU ?_
 obtain ⟨r9, h10, h⟩ := zB h
 refine zc (strings_Repeat_con [1] (IntKind.i64.wrap (q2 - 1)) _ h10) ?_
 refine zU (zl (zn (zs (zr ?_))))
 obtain ⟨h11, h⟩ := ite_some h
 obtain ⟨w12, h13, h⟩ := zB h
 replace h13 := Option.some.inj h13
 obtain ⟨h14, h⟩ := ite_some h
 obtain ⟨w15, h16, h⟩ := zB h
 replace h16 := Option.some.inj h16
 refine zU (zl (zn (zs (zr ?_))))
 refine zU (zl (zn (zs (zs (zr ?_)))))
 refine zU (zl (zn (zb ?_)))
 obtain ⟨o17, h18, h⟩ := zB h
 refine zO (fun (s : List (List UInt8) × Int) => ⟨[(1, .p (.int .i64 q2)), (7, .p (.str w15)), (8, .own 43 1 0 s.1.length), (31, .p (.int .i64 (IntKind.i64.wrap ((IntKind.i64.wrap ((s1.length : Int) + q2)) - 1)))), (32, .p (.int .i64 s.2))], [(43, .arr 9 1 1 (List.map AV.p (List.map PV.str s.1)))]⟩) (fun (o19 : List (List UInt8)) => tE (cX Tryz.f40 X w False) (.exit 0) ⟨[(8, .own 43 1 0 o19.length)], [(43, .arr 9 1 1 (List.map AV.p (List.map PV.str o19)))]⟩) h18 ?_ ?_
 clear h h5 h6 h7 h8 h10 h11 h13 h14 h16 h18
 intro s x h
 obtain ⟨o20, t21⟩ := s
 simp only [similarity_Grams_l1] at h
 dsimp only
 refine zs (zr ?_)
 refine zU (zl (zn (zs ?_)))
 rcases zI h with ⟨h22, h⟩ | ⟨h22, h⟩
 refine zi (zk (zn (zs (zb (zs (zr ?_))))))
 refine zU (zl (zn (zr ?_)))
 obtain ⟨h23, h⟩ := ite_some h
 obtain ⟨h24, h⟩ := ite_some h
 obtain ⟨h25, h⟩ := ite_some h
 obtain ⟨h26, h⟩ := ite_some h
 refine zU (zl (yn (zn (zr ?_))))
 refine zU (zl ?_)
 cases h
 exact ⟨rfl, zE⟩
 refine zj (zx (ze ?_))
 cases h
 exact ⟨rfl, zE⟩
 try simp only at h
 refine zA (yh (zn (zs (zr ?_))))
 refine zU ?_
 refine zM ⟨[(8, .own 43 1 0 o17.length), (45, .own 43 1 0 o17.length)], [(43, .arr 9 1 1 (List.map AV.p (List.map PV.str o17)))]⟩ ?_
 obtain ⟨l27, h28, h⟩ := zB h
 refine zSS srt71 h28 ?_
 have h29 := srtSF_len h28
 refine zM ⟨[(8, .own 43 1 0 l27.length), (46, .p (.tup []))], [(43, .arr 9 1 1 (List.map AV.p (List.map PV.str l27)))]⟩ ?_
 clear h29
 refine zl (zn (zs (zr ?_)))
 refine zU (zl (zn (zq ?_)))
 cases h
 exact zT Tryz.results40
end Go.Proofs.YtbiklagfjeileaaGreat
set_option linter.unusedVariables false
set_option linter.unusedSimpArgs false
namespace Go.Proofs.YtbiklagfjeileaaGreat
open Go Go.Ab
set_option maxHeartbeats 4000000 in
theorem cmp_isNaN_string_con {D : Prop} (x1 : List UInt8) (r2 : Bool) (h : cmp_isNaN_string x1 = some r2) : Con D Tryz.prog 112 [(.str x1)] (.bool r2) := by
 refine zP Tryz.call112 Tryz.func112 rfl Tryz.ntmps112 fun X w => ?_
 simp only [cmp_isNaN_string] at h
 refine zs (zr ?_)
 refine zU (zl (zn (zs (zr ?_))))
 refine zU (zl (zn (zq ?_)))
 cases h
 exact zT Tryz.results112
end Go.Proofs.YtbiklagfjeileaaGreat
set_option linter.unusedVariables false
set_option linter.unusedSimpArgs false
namespace Go.Proofs.YtbiklagfjeileaaGreat
open Go Go.Ab
set_option maxHeartbeats 4000000 in
theorem cmp_Compare_string_con {D : Prop} (x1 : List UInt8) (y2 : List UInt8) (r3 : Int) (h : cmp_Compare_string x1 y2 = some r3) : Con D Tryz.prog 72 [(.str x1), (.str y2)] (.int .i64 r3) := by
 refine zP Tryz.call72 Tryz.func72 rfl Tryz.ntmps72 fun X w => ?_
 simp only [cmp_Compare_string] at h
 refine zs (zr ?_)
 refine zU (zl (zn (zs (zr ?_))))
 refine zU ?_
 obtain ⟨r4, h5, h⟩ := zB h
 refine zc (cmp_isNaN_string_con x1 _ h5) ?_
 refine zU (zl (zn (zs (zr ?_))))
 refine zU ?_
 obtain ⟨r6, h7, h⟩ := zB h
 refine zc (cmp_isNaN_string_con y2 _ h7) ?_
 refine zU (zl (zn (zs (zs (zr ?_)))))
 refine zU (zl (zn ?_))
 rcases zI h with ⟨h8, h⟩ | ⟨h8, h⟩
 refine zi (zs (zs (zr ?_)))
 refine zU (zl (zn ?_))
 rcases zI h with ⟨h9, h⟩ | ⟨h9, h⟩
 refine zi (zs (zr ?_))
 refine zU (zl (zn (zq (zt (zt ?_)))))
 cases h
 exact zT Tryz.results72
 refine zj (zk (zn (zs (zr ?_))))
 refine zU (zl (zn (zq (zt ?_))))
 cases h
 exact zT Tryz.results72
 refine zj (zk (zn (zs (zs (zr ?_)))))
 refine zU (zl (zn ?_))
 rcases zI h with ⟨h10, h⟩ | ⟨h10, h⟩
 refine zi (zs (zr ?_))
 refine zU (zl (zn (zq (zt ?_))))
 cases h
 exact zT Tryz.results72
 refine zj (zk (zn (zs (zs (zr ?_)))))
 refine zU (zl (zn ?_))
 rcases zI h with ⟨h11, h⟩ | ⟨h11, h⟩
 refine zi (zs (zr ?_))
 refine zU (zl (zn (zq (zt ?_))))
 cases h
 exact zT Tryz.results72
 refine zj (zk (zn (zs (zs (zr ?_)))))
 refine zU (zl (zn ?_))
 rcases zI h with ⟨h12, h⟩ | ⟨h12, h⟩
 refine zj (zk (zn (zs (zr ?_))))
 refine zU (zl (zn (zq ?_)))
 cases h
 exact zT Tryz.results72
 refine zi (zs (zr ?_))
 refine zU (zl (zn (zq (zt ?_))))
 cases h
 exact zT Tryz.results72
end Go.Proofs.YtbiklagfjeileaaGreat
set_option linter.unusedVariables false
set_option linter.unusedSimpArgs false
namespace Go.Proofs.YtbiklagfjeileaaGreat
open Go Go.Ab
set_option maxRecDepth 20000 in
set_option maxHeartbeats 4000000 in
theorem blocking_common_con {D : Prop} (a1 : List (List UInt8)) (b2 : List (List UInt8)) (r3 : Int) (h : blocking_common a1 b2 = some r3) : Con D Tryz.prog 42 [(.slc (List.map PV.str a1)), (.slc (List.map PV.str b2))] (.int .i64 r3) := by
 refine zP Tryz.call42 Tryz.func42 rfl Tryz.ntmps42 fun X w => ?_
 simp only [blocking_common] at h
 refine zs (zr ?_)
 refine zU (zl (zn (zs (zr ?_))))
 refine zU (zl (zn (zs (zs (zr ?_)))))
 refine zU (zl (zn (zb ?_)))
 obtain ⟨n4, h5, h⟩ := zB h
 refine zO (fun (s : Int × Int × Int) => ⟨[(0, .p (.slc (List.map PV.str a1))), (1, .p (.slc (List.map PV.str b2))), (5, .p (.int .i64 s.1)), (6, .p (.int .i64 s.2.1)), (7, .p (.int .i64 s.2.2))], []⟩) (fun (o6 : Int) => tE (cX Tryz.f42 X w D) (.exit 0) ⟨[(5, .p (.int .i64 o6))], []⟩) h5 ?_ ?_
 clear h h5
 intro s x h
 obtain ⟨n7, i8, k9⟩ := s
 simp only [blocking_common_l1] at h
 dsimp only
 refine zs (zs (zr ?_))
 refine zU ?_
 rcases zI h with ⟨h10, h⟩ | ⟨h10, h⟩
 refine zw 13 true ?_
 refine zg ?_
 refine zg ?_
 refine zg ?_
 refine zg ?_
 refine zU (zl (zn ?_))
 rcases zI h with ⟨h11, h⟩ | ⟨h11, h⟩
 refine zi (zk (zn (zb (zs (zd ?_)))))
 obtain ⟨x12, h13, h13a, h13b, h⟩ := zX h
 obtain ⟨x14, h15, h15a, h15b, h⟩ := zX h
 refine yU ?_
 obtain ⟨r16, h17, h⟩ := zB h
 refine yc (cmp_Compare_string_con x12 x14 _ h17) ?_
 refine yU ?_
 refine yd (zn (zb (zs (zr ?_))))
 refine zU (zl (zn ?_))
 rcases zI h with ⟨h18, h⟩ | ⟨h18, h⟩
 refine zi (zr ?_)
 refine zU (zl (yn (yn ?_)))
 cases h
 exact ⟨rfl, zE⟩
 refine zj (zs (zr ?_))
 refine zU (zl (zn ?_))
 rcases zI h with ⟨h19, h⟩ | ⟨h19, h⟩
 refine zi (zr ?_)
 refine zU (zl (yn (yn ?_)))
 cases h
 exact ⟨rfl, zE⟩
 refine zj (zr ?_)
 refine zU (zl (yn (yn ?_)))
 cases h
 exact ⟨rfl, zE⟩
 refine zj (zx (ze ?_))
 cases h
 exact ⟨rfl, zE⟩
 refine zw 13 false ?_
 refine zh ?_
 refine zU (zl (zn ?_))
 refine zj (zx (ze ?_))
 cases h
 exact ⟨rfl, zE⟩
 try simp only at h
 refine zA (yh (zn (zs (zr ?_))))
 refine zU (zl (zn (zq ?_)))
 cases h
 exact zT Tryz.results42
end Go.Proofs.YtbiklagfjeileaaGreat
set_option linter.unusedVariables false
set_option linter.unusedSimpArgs false
namespace Go.Proofs.YtbiklagfjeileaaGreat
open Go Go.Ab
set_option maxRecDepth 20000 in
set_option maxHeartbeats 4000000 in
theorem blocking_Filter_1_con {D : Prop} (a1 : Int) (b2 : Int) (c3 : List Int) (c4 : Int) (c5 : List (List (List UInt8))) (c6 : Int) (r7 : Bool) (h : blocking_Filter_1 a1 b2 c3 c4 c5 c6 = some r7) : Con D Tryz.prog 41 [(.int .i64 a1), (.int .i64 b2), .imm [.slc (List.map (PV.int .i64) c3)], .imm [.int .i64 c4], .imm [.slc (List.map (encL PV.str) c5)], .imm [.int .i64 c6]] (.bool r7) := by
 refine zP Tryz.call41 Tryz.func41 rfl Tryz.ntmps41 fun X w => ?_
 simp only [blocking_Filter_1] at h
 refine zs (zr ?_)
 refine zU (zl (zn (zs (zd ?_))))
 obtain ⟨x8, h9, h9a, h9b, h⟩ := zX h
 obtain ⟨x10, h11, h11a, h11b, h⟩ := zX h
 refine yU ?_
 refine yd (zn (zs (zd ?_)))
 refine yU ?_
 rcases zI h with ⟨h12, h⟩ | ⟨h12, h⟩
 refine yw 28 true ?_
 refine yg ?_
 refine yg ?_
 obtain ⟨x13, h14, h14a, h14b, h⟩ := zX h
 refine yg ?_
 refine yg ?_
 refine yg ?_
 refine yg ?_
 obtain ⟨x15, h16, h16a, h16b, h⟩ := zX h
 refine yg ?_
 refine yg ?_
 obtain ⟨r17, h18, h⟩ := zB h
 replace h := h.symm
 refine yc (blocking_common_con x13 x15 _ h18) ?_
 refine yg ?_
 refine yg ?_
 refine yg ?_
 refine yg ?_
 refine yg ?_
 refine yg ?_
 refine yg ?_
 refine yg ?_
 refine yg ?_
 refine yg ?_
 refine yg ?_
 refine yU ?_
 refine yd (zn (zq ?_))
 cases h
 exact zT Tryz.results41
 refine yw 28 false ?_
 refine yk ?_
 refine yU ?_
 refine yd (zn (zq ?_))
 cases h
 exact zT Tryz.results41
end Go.Proofs.YtbiklagfjeileaaGreat
set_option linter.unusedVariables false
set_option linter.unusedSimpArgs false
namespace Go.Proofs.YtbiklagfjeileaaGreat
open Go Go.Ab
set_option maxRecDepth 20000 in
set_option maxHeartbeats 4000000 in
theorem blocking_Filter_con (t1 : Table) (a2 : Int) (k3 : Int) (q4 : Int) (r5 : List Arr2_int64 × Int) (h : blocking_Filter t1 a2 k3 q4 = some r5) : Con False Tryz.prog 13 [(encTable t1), (.int .i64 a2), (.int .i64 k3), (.int .i64 q4)] (.tup [(.slc (List.map encArr2_int64 r5.1)), (.int .i64 r5.2)]) := by
 refine zP Tryz.call13 Tryz.func13 rfl Tryz.ntmps13 fun X w => ?_
 simp only [blocking_Filter] at h
 refine zs (zr ?_)
 refine zU (zl (zn (zs ?_)))
 obtain ⟨e6, h7, h⟩ := zB h
 refine zJ (fun (o8 : Int) => tE (cX Tryz.f13 X w False) .normal ⟨[(1, .p (.int .i64 a2)), (4, .loc 4 1 0 0), (6, .loc 6 1 0 0), (7, .loc 7 1 0 0), (10, .p (.int .i64 o8))], [(4, .arr 26 3 1 [.p (encTable t1)]), (6, .arr 3 1 1 [.p (.int .i64 k3)]), (7, .arr 3 1 1 [.p (.int .i64 q4)])]⟩) e6 ?_ ?_
 replace h := h7
 clear h7
 refine zr ?_
 refine zU ?_
 rcases zI h with ⟨h9, h⟩ | ⟨h9, h⟩
 refine zw 22 true ?_
 refine zg ?_
 refine zg ?_
 refine zU ?_
 rcases zI h with ⟨h10, h⟩ | ⟨h10, h⟩
 refine zw 26 true ?_
 refine zg ?_
 refine zg ?_
 refine zU ?_
 rcases zI h with ⟨h11, h⟩ | ⟨h11, h⟩
 refine zw 30 true ?_
 refine zg ?_
 refine zg ?_
 refine zU ?_
 obtain ⟨r12, h13, h⟩ := zB h
 refine zc (blocking_check_con t1 a2 (decide (q4 ≤ 4)) _ h13) ?_
 refine zU (zl ?_)
 cases h
 exact ⟨rfl, zE⟩
 refine zw 30 false ?_
 refine zh ?_
 refine zU ?_
 obtain ⟨r14, h15, h⟩ := zB h
 refine zc (blocking_check_con t1 a2 false _ h15) ?_
 refine zU (zl ?_)
 cases h
 exact ⟨rfl, zE⟩
 refine zw 26 false ?_
 refine zh ?_
 refine zU ?_
 refine zh ?_
 refine zU ?_
 obtain ⟨r16, h17, h⟩ := zB h
 refine zc (blocking_check_con t1 a2 false _ h17) ?_
 refine zU (zl ?_)
 cases h
 exact ⟨rfl, zE⟩
 refine zw 22 false ?_
 refine zh ?_
 refine zU ?_
 refine zh ?_
 refine zU ?_
 refine zh ?_
 refine zU ?_
 obtain ⟨r18, h19, h⟩ := zB h
 refine zc (blocking_check_con t1 a2 false _ h19) ?_
 refine zU (zl ?_)
 cases h
 exact ⟨rfl, zE⟩
 try simp only at h
 refine zA (zn (zs (zr ?_)))
 refine zU (zl (zn ?_))
 rcases zI h with ⟨h20, h⟩ | ⟨h20, h⟩
 refine zi (zs (zr ?_))
 refine zU (zl (zn (zq (zt ?_))))
 cases h
 exact zT Tryz.results13
 refine zj (zk (zn (zs (zr ?_))))
 obtain ⟨h21, h⟩ := ite_some h
 obtain ⟨h22, h⟩ := ite_some h
 refine zU (zl (zn (zs (zr ?_))))
 obtain ⟨h23, h⟩ := ite_some h
 refine zU (zl (zn (zs (zs (zr ?_)))))
 refine zU (zl (zn (zb ?_)))
 obtain ⟨o24, h25, h⟩ := zB h
 refine zO (fun (s : List (List (List UInt8)) × List Int × Int) => ⟨[(1, .p (.int .i64 a2)), (4, .loc 4 1 0 0), (6, .loc 6 1 0 0), (7, .loc 7 1 0 0), (11, .loc 11 1 0 0), (12, .loc 12 1 0 0), (47, .p (.slc (List.map encRow t1.Rows))), (48, .p (.int .i64 (t1.Rows.length : Int))), (49, .p (.int .i64 s.2.2))], [(4, .arr 26 3 1 [.p (encTable t1)]), (6, .arr 3 1 1 [.p (.int .i64 k3)]), (7, .arr 3 1 1 [.p (.int .i64 q4)]), (11, .arr 68 1 1 [.own 41 1 0 s.1.length]), (12, .arr 64 1 1 [.own 45 1 0 s.2.1.length]), (41, .arr 22 1 1 (List.map AV.p (List.map (encL PV.str) s.1))), (45, .arr 3 1 1 (List.map AV.p (List.map (PV.int .i64) s.2.1)))]⟩) (fun (o : (List (List (List UInt8)) × List Int) ⊕ (List Arr2_int64 × Int)) => match o with | .inl o26 => tE (cX Tryz.f13 X w False) (.exit 0) ⟨[(1, .p (.int .i64 a2)), (4, .loc 4 1 0 0), (6, .loc 6 1 0 0), (7, .loc 7 1 0 0), (11, .loc 11 1 0 0), (12, .loc 12 1 0 0)], [(4, .arr 26 3 1 [.p (encTable t1)]), (6, .arr 3 1 1 [.p (.int .i64 k3)]), (7, .arr 3 1 1 [.p (.int .i64 q4)]), (11, .arr 68 1 1 [.own 41 1 0 o26.1.length]), (12, .arr 64 1 1 [.own 45 1 0 o26.2.length]), (41, .arr 22 1 1 (List.map AV.p (List.map (encL PV.str) o26.1))), (45, .arr 3 1 1 (List.map AV.p (List.map (PV.int .i64) o26.2)))]⟩ | .inr o27 => tR Tryz.prog Tryz.f13 (.tup [(.slc (List.map encArr2_int64 o27.1)), (.int .i64 o27.2)])) h25 ?_ ?_
 clear h h20 h21 h22 h23 h25
 intro s x h
 obtain ⟨g28, s29, t30⟩ := s
 simp only [blocking_Filter_l1] at h
 dsimp only
 refine zs (zr ?_)
 refine zU (zl (zn (zs ?_)))
 rcases zI h with ⟨h31, h⟩ | ⟨h31, h⟩
 refine zi (zk (zn (zs (zb (zs (zr ?_))))))
 obtain ⟨x32, h33, h33a, h33b, h⟩ := zX h
 refine zU (zl (zn (zs (zr ?_))))
 obtain ⟨x34, h35, h35a, h35b, h⟩ := zX h
 refine zU (zl (zn (zs (zr ?_))))
 refine zU (zl (zn ?_))
 rcases zI h with ⟨h36, h⟩ | ⟨h36, h⟩
 refine zi (zs (zr ?_))
 refine zU ?_
 obtain ⟨r37, h38, h⟩ := zB h
 refine zc (similarity_Grams_con x34.Str q4 _ h38) ?_
 refine zU (zl (zn (zs (zs (zr ?_)))))
 refine zU (zl (zn ?_))
 rcases zI h with ⟨h39, h⟩ | ⟨h39, h⟩
 refine zi (zs (zr ?_))
 refine zU (zl (zn (zq (zt (yr (zt ?_))))))
 cases h
 exact ⟨rfl, zT Tryz.results13⟩
 refine zj (zk (zn (zd ?_)))
 obtain ⟨x40, h41, h41a, h41b, h⟩ := zX h
 obtain ⟨x42, h43, h43a, h43b, h⟩ := zX h
 refine yU ?_
 refine yd (yn (zn (zr ?_)))
 refine zU (zl ?_)
 cases h
 exact ⟨rfl, zE⟩
 refine zj (zk (yn (zn (zr ?_))))
 refine zU (zl ?_)
 cases h
 exact ⟨rfl, zE⟩
 refine zj (zx (ze ?_))
 cases h
 exact ⟨rfl, zE⟩
 rcases o24 with ⟨g44, s45⟩ | r46
 try simp only at h
 refine zA (yh (zn (zs ?_)))
 refine zL ⟨[(1, .p (.int .i64 a2)), (4, .loc 4 1 0 0), (6, .p (.imm [.int .i64 k3])), (7, .p (.imm [.int .i64 q4])), (11, .p (.imm [.slc (List.map (encL PV.str) g44)])), (12, .p (.imm [.slc (List.map (PV.int .i64) s45)]))], [(4, .arr 26 3 1 [.p (encTable t1)])]⟩ ?_
 refine zd ?_
 refine yU ?_
 obtain ⟨r47, h48, h⟩ := zB h
 refine yc (blocking_alike_con t1 a2 (fun (y49 : Int) (y50 : Int) => blocking_Filter_1 y49 y50 s45 k3 g44 q4) 41 [.imm [.slc (List.map (PV.int .i64) s45)], .imm [.int .i64 k3], .imm [.slc (List.map (encL PV.str) g44)], .imm [.int .i64 q4]] (fun y49 y50 r h => blocking_Filter_1_con y49 y50 s45 k3 g44 q4 r h) _ h48) ?_
 obtain ⟨r51, h52, h⟩ := zB h
 refine yc (blocking_pairs_con t1 (fun (y53 : Int) (y54 : Int) => blocking_alike_1 y53 y54 t1 a2 (fun (y55 : Int) (y56 : Int) => blocking_Filter_1 y55 y56 s45 k3 g44 q4)) 65 [.imm [.str t1.Name, .slc (List.map PV.str t1.Attrs), .slc (List.map encRow t1.Rows)], .imm [.int .i64 a2], .imm [.func (.func 41) [.imm [.slc (List.map (PV.int .i64) s45)], .imm [.int .i64 k3], .imm [.slc (List.map (encL PV.str) g44)], .imm [.int .i64 q4]]]] (fun y53 y54 r h => blocking_alike_1_con y53 y54 t1 a2 (fun (y55 : Int) (y56 : Int) => blocking_Filter_1 y55 y56 s45 k3 g44 q4) 41 [.imm [.slc (List.map (PV.int .i64) s45)], .imm [.int .i64 k3], .imm [.slc (List.map (encL PV.str) g44)], .imm [.int .i64 q4]] (fun y55 y56 r h => blocking_Filter_1_con y55 y56 s45 k3 g44 q4 r h) r h) _ h52) ?_
 refine yU ?_
 refine yd (zn (zq ?_))
 cases h
 exact zT Tryz.results13
 try simp only at h
 refine zZ fun s hq => ?_
 refine yr (zt ?_)
 cases h
 exact hq
end Go.Proofs.YtbiklagfjeileaaGreat
set_option linter.unusedVariables false
set_option linter.unusedSimpArgs false
namespace Go.Proofs.YtbiklagfjeileaaGreat
open Go Go.Ab
set_option maxHeartbeats 4000000 in
theorem drossref53_Same_con {D : Prop} (a1 : List Arr2_int64) (b2 : List Arr2_int64) (r3 : Bool) (h : drossref53_Same a1 b2 = some r3) : Con D Tryz.prog 18 [(.slc (List.map encArr2_int64 a1)), (.slc (List.map encArr2_int64 b2))] (.bool r3) := by
 refine zP Tryz.call18 Tryz.func18 rfl Tryz.ntmps18 fun X w => ?_
 simp only [drossref53_Same] at h
 refine zs (zr ?_)
 refine zU (zl (zn (zs (zs (zr ?_)))))
 refine zU (zl (zn ?_))
 rcases zI h with ⟨h4, h⟩ | ⟨h4, h⟩
 refine zi (zs (zr ?_))
 refine zU (zl (zn (zq (zt ?_))))
 cases h
 exact zT Tryz.results18
 refine zj (zk (zn (zs (zs (zr ?_)))))
 refine zU (zl (zn (zb ?_)))
 obtain ⟨o5, h6, h⟩ := zB h
 refine zO (fun (s : Int) => ⟨[(0, .p (.slc (List.map encArr2_int64 a1))), (1, .p (.slc (List.map encArr2_int64 b2))), (5, .p (.int .i64 s))], []⟩) (fun (o : (Unit) ⊕ (Bool)) => match o with | .inl o7 => tE (cX Tryz.f18 X w D) (.exit 0) ⟨[], []⟩ | .inr o8 => tR Tryz.prog Tryz.f18 (.bool o8)) h6 ?_ ?_
 clear h h4 h6
 intro i9 x h
 simp only [drossref53_Same_l1] at h
 refine zs (zs (zr ?_))
 refine zU (zl (zn ?_))
 rcases zI h with ⟨h10, h⟩ | ⟨h10, h⟩
 refine zi (zk (zn (zs (zb (zs (zd ?_))))))
 obtain ⟨x11, h12, h12a, h12b, h⟩ := zX h
 obtain ⟨x13, h14, h14a, h14b, h⟩ := zX h
 refine yU ?_
 refine yd (zn ?_)
 rcases zI h with ⟨h15, h⟩ | ⟨h15, h⟩
 refine zj (zk (yn (zn (zr ?_))))
 refine zU (zl ?_)
 cases h
 exact ⟨rfl, zE⟩
 refine zi (zs (zr ?_))
 refine zU (zl (zn (zq (yr (zt ?_)))))
 cases h
 exact ⟨rfl, zT Tryz.results18⟩
 refine zj (zx (ze ?_))
 cases h
 exact ⟨rfl, zE⟩
 rcases o5 with ⟨⟩ | r16
 try simp only at h
 refine zA (yh (zn (zs (zr ?_))))
 refine zU (zl (zn (zq ?_)))
 cases h
 exact zT Tryz.results18
 try simp only at h
 refine zZ fun s hq => ?_
 refine yr (zt ?_)
 cases h
 exact hq
end Go.Proofs.YtbiklagfjeileaaGreat
set_option linter.unusedVariables false
set_option linter.unusedSimpArgs false
namespace Go.Proofs.YtbiklagfjeileaaGreat
open Go Go.Ab
set_option maxRecDepth 20000 in
set_option maxHeartbeats 4000000 in
theorem drosslaw53_awake_con  (r1 : Bool) (h : drosslaw53_awake = some r1) : Con False Tryz.prog 9 [] (.bool r1) := by
 refine zP Tryz.call9 Tryz.func9 rfl Tryz.ntmps9 fun X w => ?_
 simp only [drosslaw53_awake] at h
 refine zs (zr ?_)
 refine zU (zl (zn (zs (zr ?_))))
 refine zU ?_
 refine zM ⟨[(10, .p (.slc (List.map PV.str [[115, 109, 105, 116, 104], [115, 109, 121, 116, 104], [115, 109, 105, 116, 104, 115, 111, 110], [106, 111, 110, 101, 115]])))], []⟩ ?_
 obtain ⟨r2, h3, h⟩ := zB h
 refine zc (drossref53_Table_con [[115, 109, 105, 116, 104], [115, 109, 121, 116, 104], [115, 109, 105, 116, 104, 115, 111, 110], [106, 111, 110, 101, 115]] _ h3) ?_
 refine zU (zl (zn (zs (zr ?_))))
 refine zU ?_
 obtain ⟨r4, h5, h⟩ := zB h
 refine zc (blocking_Prefix_con r2.1 0 3 _ h5) ?_
 refine zU (zl (zn (zs (zr ?_))))
 refine zU ?_
 obtain ⟨r6, h7, h⟩ := zB h
 refine zc (blocking_Filter_con r2.1 0 1 2 _ h7) ?_
 refine zU (zl (zn (zs (zr ?_))))
 refine zU ?_
 obtain ⟨r8, h9, h⟩ := zB h
 refine zc (blocking_Window_con r2.1 0 2 _ h9) ?_
 refine zU (zl (zn (zs (zr ?_))))
 refine zU ?_
 rcases zI h with ⟨h10, h⟩ | ⟨h10, h⟩
 refine zw 30 true ?_
 refine zg ?_
 refine zg ?_
 refine zU ?_
 rcases zI h with ⟨h11, h⟩ | ⟨h11, h⟩
 refine zw 34 true ?_
 refine zg ?_
 refine zg ?_
 refine zU ?_
 rcases zI h with ⟨h12, h⟩ | ⟨h12, h⟩
 refine zw 38 true ?_
 refine zg ?_
 refine zg ?_
 refine zU ?_
 rcases zI h with ⟨h13, h⟩ | ⟨h13, h⟩
 refine zw 42 true ?_
 refine zg ?_
 refine zg ?_
 refine zg ?_
 obtain ⟨r14, h15, h⟩ := zB h
 refine zc (drossref53_Same_con r4.1 [(Arr2_int64.mk 1 5)] _ h15) ?_
 refine zU ?_
 rcases zI h with ⟨h16, h⟩ | ⟨h16, h⟩
 refine zw 48 true ?_
 refine zg ?_
 refine zg ?_
 refine zg ?_
 obtain ⟨r17, h18, h⟩ := zB h
 refine zc (drossref53_Same_con r6.1 [(Arr2_int64.mk 1 3)] _ h18) ?_
 refine zU ?_
 rcases zI h with ⟨h19, h⟩ | ⟨h19, h⟩
 refine zw 54 true ?_
 refine zg ?_
 refine zg ?_
 refine zg ?_
 refine zg ?_
 refine zg ?_
 obtain ⟨r20, h21, h⟩ := zB h
 refine zc (drossref53_Same_con r8.1 [(Arr2_int64.mk 1 5), (Arr2_int64.mk 1 7), (Arr2_int64.mk 3 5)] _ h21) ?_
 refine zU (zl (zn (zq ?_)))
 cases h
 exact zT Tryz.results9
 refine zw 54 false ?_
 refine zh ?_
 refine zU (zl (zn (zq ?_)))
 cases h
 exact zT Tryz.results9
 refine zw 48 false ?_
 refine zh ?_
 refine zU ?_
 refine zh ?_
 refine zU (zl (zn (zq ?_)))
 cases h
 exact zT Tryz.results9
 refine zw 42 false ?_
 refine zh ?_
 refine zU ?_
 refine zh ?_
 refine zU ?_
 refine zh ?_
 refine zU (zl (zn (zq ?_)))
 cases h
 exact zT Tryz.results9
 refine zw 38 false ?_
 refine zh ?_
 refine zU ?_
 refine zh ?_
 refine zU ?_
 refine zh ?_
 refine zU ?_
 refine zh ?_
 refine zU (zl (zn (zq ?_)))
 cases h
 exact zT Tryz.results9
 refine zw 34 false ?_
 refine zh ?_
 refine zU ?_
 refine zh ?_
 refine zU ?_
 refine zh ?_
 refine zU ?_
 refine zh ?_
 refine zU ?_
 refine zh ?_
 refine zU (zl (zn (zq ?_)))
 cases h
 exact zT Tryz.results9
 refine zw 30 false ?_
 refine zh ?_
 refine zU ?_
 refine zh ?_
 refine zU ?_
 refine zh ?_
 refine zU ?_
 refine zh ?_
 refine zU ?_
 refine zh ?_
 refine zU ?_
 refine zh ?_
 refine zU (zl (zn (zq ?_)))
 cases h
 exact zT Tryz.results9
end Go.Proofs.YtbiklagfjeileaaGreat
set_option linter.unusedVariables false
set_option linter.unusedSimpArgs false
namespace Go.Proofs.YtbiklagfjeileaaGreat
open Go Go.Ab
set_option maxHeartbeats 4000000 in
theorem slices_Clone__2_int64_con {D : Prop} (l : List Arr2_int64) (r : List Arr2_int64) (h : slices_Clone__2_int64 l = some r) : Con D Tryz.prog 23 [(.slc (List.map encArr2_int64 l))] (.slc (List.map encArr2_int64 r)) := by
  obtain ⟨hc, h⟩ := ite_some h
  cases h
  refine ⟨Tryz.call23, ?_⟩
  refine pure_of_awp Tryz.func23 rfl Tryz.ntmps23 (by simp) fun X w => ?_
  show AWp _ _ _ ⟨[(0, .p (.slc (List.map encArr2_int64 l)))], []⟩
  refine awp_seq ?_
  refine awp_region ?_
  refine AL_upto (by exact rfl) (by simp only [go_sem, seval]; exact rfl) ?_
  refine AL_nil ?_
  refine thenA_n ?_
  refine awp_seq ?_
  refine awp_seq ?_
  refine awp_region ?_
  refine AL_take 1 (by simp only [go_sem, seval]; exact rfl) ?_
  refine AL_nileq (by simp only [go_sem, seval]; exact rfl) (by simp only [go_sem, seval]) Tryz.underlying30 rfl ?_
  intro b hb
  refine AL_nil ?_
  refine thenA_n ?_
  cases b
  · refine awp_cf (by simp only [go_sem, seval]) ?_
    refine awp_skip ?_
    refine thenA_n ?_
    refine awp_seq ?_
    refine awp_region ?_
    refine AL_upto (by exact rfl) (by simp only [go_sem, seval, hc]; exact rfl) ?_
    refine AL_nil ?_
    refine thenA_n ?_
    refine awp_ret ?_
    refine retQ_ret (by simp only [Tryz.results23]; simp only [go_sem, seval]; exact rfl) ?_
    simp only [go_sem, seval]
    all_goals ((repeat' refine And.intro ?_ ?_) <;> first | rfl | (simp; done) | (simp; rfl) | (simp [*]; done) | (simp [*]; rfl))
  · refine awp_ct (by simp only [go_sem, seval]) ?_
    have hl : l = [] := by
      cases l with
      | nil => rfl
      | cons x l => exact absurd (hb (by simp)) (by simp)
    subst hl
    refine awp_seq ?_
    refine awp_region ?_
    refine AL_upto (by exact rfl) (by simp only [go_sem, seval]; exact rfl) ?_
    refine AL_nil ?_
    refine thenA_n ?_
    refine awp_ret ?_
    refine thenA_ret ?_
    refine retQ_ret (by simp only [Tryz.results23]; simp only [go_sem, seval]; exact rfl) ?_
    simp only [go_sem, seval]
    all_goals ((repeat' refine And.intro ?_ ?_) <;> first | rfl | (simp; done) | (simp; rfl) | (simp [*]; done) | (simp [*]; rfl))
end Go.Proofs.YtbiklagfjeileaaGreat
namespace Go.Proofs
open Go Go.Ab Go.Shelf
def YtbiklagfjeileaaGreat.grow76_ren : Go.Shelf.Ren := ⟨fun | 4 => 76 | n => n, fun | 22 => 30 | 25 => 43 | 3 => 3 | 4 => 4 | 9 => 9 | 20 => 20 | 0 => 0 | n => n, fun | n => n⟩
theorem YtbiklagfjeileaaGreat.grow76 : Go.Proofs.Lays8.n4 Tryz.prog YtbiklagfjeileaaGreat.grow76_ren := {
  mixed := by kernel_rfl
  f4 := ⟨Tryz.f76.name, by decide, Tryz.func76.trans (congrArg some (by kernel_rfl))⟩
  t0 := Tryz.underlying0
  a0 := Tryz.isAgg0
  z0 := Tryz.sizeOf0
  v0 := Tryz.zeroValue0
  t3 := Tryz.underlying3
  a3 := Tryz.isAgg3
  z3 := Tryz.sizeOf3
  v3 := Tryz.zeroValue3
  t4 := Tryz.underlying4
  a4 := Tryz.isAgg4
  z4 := Tryz.sizeOf4
  v4 := Tryz.zeroValue4
  t9 := Tryz.underlying9
  a9 := Tryz.isAgg9
  z9 := Tryz.sizeOf9
  v9 := Tryz.zeroValue9
  t20 := Tryz.underlying20
  a20 := Tryz.isAgg20
  z20 := Tryz.sizeOf20
  v20 := Tryz.zeroValue20
  t22 := Tryz.underlying30
  a22 := Tryz.isAgg30
  z22 := Tryz.sizeOf30
  v22 := Tryz.zeroValue30 }
theorem YtbiklagfjeileaaGreat.grw76 : Grw Tryz.prog 76 43 2 := ⟨Tryz.call76, fun n w h0 hn => by
  obtain ⟨m, rfl⟩ := Int.eq_ofNat_of_zero_le h0
  have hi : Tryz.prog.info? 43 = some Tryz.t43 := by kernel_rfl
  obtain ⟨z, hz, hzs⟩ : ∃ z, Tryz.t43.zero = some z ∧ z.cells.size = 2 := ⟨_, rfl, rfl⟩
  cases m with
  | zero =>
    refine (Any8.slices_Grow_room YtbiklagfjeileaaGreat.grow76 none 0 0 0 w (Nat.le_refl _) (by omega) (by omega) (Nat.le_refl _)).mono fun e' w' h => ?_
    obtain ⟨rfl, rfl⟩ := h
    exact ⟨_, rfl, World.ownsRow_nil _ _ _ _, RowKit.Below.refl _ _, Nat.le_refl _⟩
  | succ m =>
    have hby : Tryz.t43.bytes = 16 := rfl
    refine (Any8.slices_Grow_grow YtbiklagfjeileaaGreat.grow76 Tryz.t43 z hi hz (by decide) none 0 0 (m + 1) [] w (Nat.le_refl _) (by omega) (by rw [hby]; omega) (by omega) (by simp) (fun _ => rfl) (fun a h => by cases h)).mono fun e' w' h => ?_
    obtain ⟨rfl, rfl⟩ := h
    have hge := grownCap_ge w (0 + (m + 1)) 0 43
    refine ⟨_, rfl, World.ownsRow_made w.drew _ _ (Nat.le_refl _) (grownCap_le_maxLen w (0 + (m + 1)) 0 43 (by unfold maxLen; omega)) ?_, (RowKit.Below.refl _ w).drew.alloc (Nat.le_refl _) _, Nat.le_succ _⟩
    simp only [Array.size_append, size_zeroCells, hzs, List.size_toArray, List.length_nil]
    generalize hG : grownCap w (0 + (m + 1)) 0 43 = G at hge
    show 0 + (0 + (m + 1) - 0) * 2 + (grownCap w (0 + (m + 1)) 0 43 - (0 + (m + 1))) * 2 = grownCap w (0 + (m + 1)) 0 43 * 2
    rw [hG]; omega⟩
end Go.Proofs
set_option linter.unusedVariables false
set_option linter.unusedSimpArgs false
namespace Go.Proofs.YtbiklagfjeileaaGreat
open Go Go.Ab
set_option maxRecDepth 20000 in
set_option maxHeartbeats 4000000 in
theorem blocking_compare_con {D : Prop} (a1 : Arr2_int64) (b2 : Arr2_int64) (r3 : Int) (h : blocking_compare a1 b2 = some r3) : Con D Tryz.prog 50 [(encArr2_int64 a1), (encArr2_int64 b2)] (.int .i64 r3) := by
 refine zP Tryz.call50 Tryz.func50 rfl Tryz.ntmps50 fun X w => ?_
 simp only [blocking_compare] at h
 refine zs (zr ?_)
 refine zU (zl (zn (zs (zd ?_))))
 refine yU ?_
 obtain ⟨r4, h5, h⟩ := zB h
 refine yc (cmp_Compare_int64_con a1.x0 b2.x0 _ h5) ?_
 refine yU ?_
 obtain ⟨r6, h7, h⟩ := zB h
 refine yc (cmp_Compare_int64_con a1.x1 b2.x1 _ h7) ?_
 refine yU ?_
 obtain ⟨r8, h9, h⟩ := zB h
 refine yc (cmp_Or_int_con [r4, r6] _ h9) ?_
 refine yU ?_
 refine yd (zn (zq ?_))
 cases h
 exact zT Tryz.results50
end Go.Proofs.YtbiklagfjeileaaGreat
set_option linter.unusedVariables false
set_option linter.unusedSimpArgs false
namespace Go.Proofs.YtbiklagfjeileaaGreat
open Go Go.Ab
set_option maxHeartbeats 4000000 in
theorem blocking_Union_con {D : Prop} (l1 : List (List Arr2_int64)) (r2 : List Arr2_int64) (h : blocking_Union l1 = some r2) : Con D Tryz.prog 19 [(.slc (List.map (encL encArr2_int64) l1))] (.slc (List.map encArr2_int64 r2)) := by
 refine zP Tryz.call19 Tryz.func19 rfl Tryz.ntmps19 fun X w => ?_
 simp only [blocking_Union] at h
 refine zs (zr ?_)
 refine zU (zl (zn (zs (zr ?_))))
 refine zU ?_
 refine zM ⟨[(4, .p (.slc (List.map (encL encArr2_int64) l1)))], []⟩ ?_
 refine AL_inline (avs := [.p (.slc (List.map (encL encArr2_int64) l1))]) 10 rfl (guard_none rfl) rfl Tryz.func48 rfl Tryz.call48 Tryz.ntmps48 (by simp) (by simp only [go_sem, seval]; all_goals rfl) ?_
 intro i3 w4
 show AWp _ _ _ ⟨[(0, .p (.slc (List.map (encL encArr2_int64) l1)))], []⟩
 refine zs (zr ?_)
 refine zU (zl (zn (zs (zr ?_))))
 refine zU (zl (zn (zs (zs (zr ?_)))))
 refine zU (zl (zn (zb ?_)))
 obtain ⟨s5, h6, h⟩ := zB h
 refine zO (fun (s : Int × Int) => ⟨[(0, .p (.slc (List.map (encL encArr2_int64) l1))), (3, .p (.int .i64 s.1)), (9, .p (.slc (List.map (encL encArr2_int64) l1))), (10, .p (.int .i64 (l1.length : Int))), (11, .p (.int .i64 s.2))], []⟩) (fun (o7 : Int) => tE ⟨Tryz.prog, 36, 10, X, [], i3, w4, D⟩ (.exit 0) ⟨[(0, .p (.slc (List.map (encL encArr2_int64) l1))), (3, .p (.int .i64 o7))], []⟩) h6 ?_ ?_
 clear h h6
 intro s x h
 obtain ⟨s8, t9⟩ := s
 simp only [blocking_Union_l3] at h
 dsimp only
 refine zs (zr ?_)
 refine zU (zl (zn (zs ?_)))
 rcases zI h with ⟨h10, h⟩ | ⟨h10, h⟩
 refine zi (zk (zn (zs (zb (zs (zr ?_))))))
 obtain ⟨x11, h12, h12a, h12b, h⟩ := zX h
 refine zU (zl (zn (zs (zr ?_))))
 refine zU (zl (zn (zs (zr ?_))))
 refine zU (zl (zn ?_))
 rcases zI h with ⟨h13, h⟩ | ⟨h13, h⟩
 cases h
 refine zj (zk (yn (zn (zr ?_))))
 refine zU (zl ?_)
 cases h
 exact ⟨rfl, zE⟩
 refine zj (zx (ze ?_))
 cases h
 exact ⟨rfl, zE⟩
 try simp only at h
 refine zA (yh (zn (zs (zr ?_))))
 refine zU ?_
 obtain ⟨h14, h⟩ := ite_some h
 obtain ⟨h15, h⟩ := ite_some h
 refine zN grw76 34 h14 h15 ?_
 refine zU (zl (zn (zs (zs (zr ?_)))))
 refine zU (zl (zn (zb ?_)))
 obtain ⟨n16, h17, h⟩ := zB h
 refine zO (fun (s : List Arr2_int64 × Int) => ⟨[(6, .own 34 1 0 s.1.length), (25, .p (.slc (List.map (encL encArr2_int64) l1))), (26, .p (.int .i64 (l1.length : Int))), (27, .p (.int .i64 s.2))], [(34, .arr 43 2 1 (List.map AV.p (List.map encArr2_int64 s.1)))]⟩) (fun (o18 : List Arr2_int64) => tE ⟨Tryz.prog, 36, 10, X, [], i3, w4, D⟩ (.exit 2) ⟨[(6, .own 34 1 0 o18.length)], [(34, .arr 43 2 1 (List.map AV.p (List.map encArr2_int64 o18)))]⟩) h17 ?_ ?_
 clear h h6 h14 h15 h17
 intro s x h
 obtain ⟨n19, t20⟩ := s
 simp only [blocking_Union_l4] at h
 dsimp only
 refine zs (zr ?_)
 refine zU (zl (zn (zs ?_)))
 rcases zI h with ⟨h21, h⟩ | ⟨h21, h⟩
 refine zi (zk (zn (zs (zb (zs (zr ?_))))))
 obtain ⟨x22, h23, h23a, h23b, h⟩ := zX h
 refine zU (zl (zn (zr ?_)))
 obtain ⟨h24, h⟩ := ite_some h
 refine zU (zl (yn (zn (zr ?_))))
 refine zU (zl ?_)
 cases h
 exact ⟨rfl, zE⟩
 refine zj (zx (ze ?_))
 cases h
 exact ⟨rfl, zE⟩
 try simp only at h
 refine zA (yh (zn (zs (zr ?_))))
 refine zU (zl (zn (zq ?_)))
 refine inlQ_ret (by simp only [Tryz.results48]; simp only [go_sem, seval]; exact rfl) ?_
 refine zU (zl (zn (zs (zr ?_))))
 refine zU ?_
 refine zM ⟨[(3, .own 34 1 0 n16.length), (6, .own 34 1 0 n16.length)], [(34, .arr 43 2 1 (List.map AV.p (List.map encArr2_int64 n16)))]⟩ ?_
 obtain ⟨l25, h26, h⟩ := zB h
 refine zSQ srt49 encArr2_int64 (fun (y27 : Arr2_int64) (y28 : Arr2_int64) => blocking_compare y27 y28) h26 (fun y27 y28 r h => blocking_compare_con y27 y28 r h) ?_
 have h29 := srtF_len h26
 refine zM ⟨[(3, .own 34 1 0 l25.length), (7, .p (.tup []))], [(34, .arr 43 2 1 (List.map AV.p (List.map encArr2_int64 l25)))]⟩ ?_
 clear h29
 refine zl (zn (zs (zr ?_)))
 refine zU ?_
 refine zM ⟨[(8, .own 34 1 0 l25.length)], [(34, .arr 43 2 1 (List.map AV.p (List.map encArr2_int64 l25)))]⟩ ?_
 refine AL_inline (avs := [.own 34 1 0 l25.length]) 46 rfl (guard_none rfl) rfl Tryz.func51 rfl Tryz.call51 Tryz.ntmps51 (by simp) (by simp only [go_sem, seval]; all_goals rfl) ?_
 intro i30 w31
 show AWp _ _ _ ⟨[(0, .own 34 1 0 l25.length)], [(34, .arr 43 2 1 (List.map AV.p (List.map encArr2_int64 l25)))]⟩
 refine zs (zr ?_)
 refine zU (zl (zn (zs (zs (zr ?_)))))
 refine zU (zl (zn ?_))
 rcases zI h with ⟨h32, h⟩ | ⟨h32, h⟩
 have h32T := eq_true h32
 refine zi (zs (zr ?_))
 refine zU (zl (zn (zq (zt ?_))))
 refine inlQ_ret (by simp only [Tryz.results51]; simp only [go_sem, seval, h32T]; exact rfl) ?_
 refine zU (zl (zn (zq ?_)))
 cases h
 exact zT Tryz.results19
 have h32T := eq_false h32
 refine zj (zk (zn (zs (zs (zr ?_)))))
 refine zU (zl (zn (zb ?_)))
 obtain ⟨o33, h34, h⟩ := zB h
 refine zO (fun (s : Int) => ⟨[(0, .own 34 1 0 l25.length), (3, .p (.int .i64 s))], [(34, .arr 43 2 1 (List.map AV.p (List.map encArr2_int64 l25)))]⟩) (fun (o : (Unit) ⊕ (List Arr2_int64)) => match o with | .inl o35 => tE ⟨Tryz.prog, 61, 46, X, [(34, .arr 43 2 1 (List.map AV.p (List.map encArr2_int64 l25)))], i30, w31, D⟩ (.exit 0) ⟨[(0, .own 34 1 0 l25.length)], [(34, .arr 43 2 1 (List.map AV.p (List.map encArr2_int64 l25)))]⟩ | .inr o36 => tE ⟨Tryz.prog, 61, 46, X, [(34, .arr 43 2 1 (List.map AV.p (List.map encArr2_int64 l25)))], i30, w31, D⟩ .ret ⟨[(2, .own 34 2 0 o36.length)], [(34, .arr 43 2 2 (List.map AV.p (List.map encArr2_int64 o36)))]⟩) h34 ?_ ?_
 clear h h6 h14 h15 h17 h26 h32 h32T h34
 intro k37 x h
 simp only [blocking_Union_l8] at h
 refine zs (zs (zr ?_))
 refine zU (zl (zn ?_))
 rcases zI h with ⟨h38, h⟩ | ⟨h38, h⟩
 refine zi (zk (zn (zs (zb (zs (zd ?_))))))
 obtain ⟨x39, h40, h40a, h40b, h⟩ := zX h
 obtain ⟨x41, h42, h42a, h42b, h⟩ := zX h
 refine yU ?_
 refine yd (zn ?_)
 rcases zI h with ⟨h43, h⟩ | ⟨h43, h⟩
 refine zi (zs (zr ?_))
 obtain ⟨h44, h⟩ := ite_some h
 obtain ⟨h45, h⟩ := ite_some h
 refine zU (zl (zn (zs (zs (zr ?_)))))
 refine zU (zl (zn (zb ?_)))
 obtain ⟨o46, h47, h⟩ := zB h
 refine zO (fun (s : List Arr2_int64 × Int × Int) => ⟨[(0, .own 34 1 0 s.1.length), (3, .p (.int .i64 s.2.1)), (4, .own 34 1 k37.toNat (l25.length - k37.toNat)), (5, .p (.int .i64 s.2.2))], [(34, .arr 43 2 1 (List.map AV.p (List.map encArr2_int64 s.1)))]⟩) (fun (o48 : List Arr2_int64 × Int) => tE ⟨Tryz.prog, 61, 46, X, [(34, .arr 43 2 1 (List.map AV.p (List.map encArr2_int64 l25)))], i30, w31, D⟩ (.exit 2) ⟨[(0, .own 34 1 0 o48.1.length), (3, .p (.int .i64 o48.2))], [(34, .arr 43 2 1 (List.map AV.p (List.map encArr2_int64 o48.1)))]⟩) h47 ?_ ?_
 clear h h38 h40 h40a h40b h42 h42a h42b h43 h44 h45 h47
 intro s x h
 obtain ⟨s49, k50, k51⟩ := s
 simp only [blocking_Union_l7] at h
 dsimp only
 refine zs (zs (zr ?_))
 refine zU (zl (zn ?_))
 rcases zI h with ⟨h52, h⟩ | ⟨h52, h⟩
 refine zi (zk (zn (zs (zb (zs (zd ?_))))))
 obtain ⟨x53, h54, h54a, h54b, h⟩ := zX h
 obtain ⟨h55, h55n⟩ := part_get h54
 have h55N := eq_true (part_lt h55n h54a)
 obtain ⟨x56, h57, h57a, h57b, h⟩ := zX h
 obtain ⟨h58, h58n⟩ := part_get h57
 have h58N := eq_true (part_lt h58n h57a)
 refine yU ?_
 refine yd (zn ?_)
 rcases zI h with ⟨h59, h⟩ | ⟨h59, h⟩
 refine zj (zk (yn (zn (zr ?_))))
 refine zU (zl ?_)
 cases h
 exact ⟨rfl, zE⟩
 refine zi (zs (zr ?_))
 obtain ⟨h60, h60n⟩ := part_get h54
 have h60N := eq_true (part_lt h60n h54a)
 obtain ⟨x61, h62, h62a, h62b, h⟩ := zX h
 refine zU (zl (zn (zr ?_)))
 refine zU (zl (yn (zn (zr ?_))))
 refine zU (zl ?_)
 cases h
 exact ⟨rfl, zE⟩
 refine zj (zx (ze ?_))
 cases h
 exact ⟨rfl, zE⟩
 obtain ⟨s63, k64⟩ := o46
 try simp only at h
 refine zA (yh (zn (zs (zr ?_))))
 obtain ⟨h65, h⟩ := ite_some h
 obtain ⟨h66, h⟩ := ite_some h
 refine zW 3 ?_
 refine zCl encArr2_int64 s63 (Arr2_int64.mk 0 0) 34 k64.toNat (s63.length - k64.toNat) (by simp only [List.length_set, List.length_append, List.length_replicate] at *; omega) ?_
 refine zl (zn (zs (zr ?_)))
 obtain ⟨h67, h⟩ := ite_some h
 obtain ⟨h68, h⟩ := ite_some h
 refine zU (zl (zn ?_))
 refine zL ⟨[(2, .own 34 1 0 k64.toNat)], [(34, .arr 43 2 1 (List.map AV.p (List.map encArr2_int64 (((s63.take k64.toNat) ++ (List.replicate (s63.length - k64.toNat) (Arr2_int64.mk 0 0))) ++ (s63.drop (k64.toNat + (s63.length - k64.toNat)))))))]⟩ ?_
 obtain ⟨l69, h70, h⟩ := zB h
 replace h70 := Option.some.inj h70
 rw [h70]
 obtain ⟨h71, h⟩ := ite_some h
 obtain ⟨l72, h73, h⟩ := zB h
 replace h73 := Option.some.inj h73
 have h73L : l72.length = k64.toNat := by rw [← h73]; exact List.length_take_of_le h71
 refine awp_shrink 2 34 1 k64.toNat 43 2 (es' := List.map AV.p (List.map encArr2_int64 l72)) (by exact rfl) (by exact rfl) (by rw [← List.map_take, ← List.map_take, h73]) rfl ?_
 refine zL ⟨[(2, .own 34 2 0 l72.length)], [(34, .arr 43 2 2 (List.map AV.p (List.map encArr2_int64 l72)))]⟩ ?_
 clear h73L h71
 refine zq (yr (zt ?_))
 cases h
 exact ⟨rfl, zE⟩
 refine zj (zk (yn (zn (zr ?_))))
 refine zU (zl ?_)
 cases h
 exact ⟨rfl, zE⟩
 refine zj (zx (ze ?_))
 cases h
 exact ⟨rfl, zE⟩
 rcases o33 with ⟨⟩ | t74
 try simp only at h
 refine zA (yh (zn (zs (zr ?_))))
 refine zU (zl (zn (zq ?_)))
 refine inlQ_ret (by simp only [Tryz.results51]; simp only [go_sem, seval, h32T]; exact rfl) ?_
 refine zU (zl (zn (zq ?_)))
 cases h
 exact zT Tryz.results19
 try simp only at h
 refine zA (yr (zt ?_))
 refine inlQ_ret (by simp only [Tryz.results51]; simp only [go_sem, seval, h32T]; exact rfl) ?_
 refine zU (zl (zn (zq ?_)))
 cases h
 exact zT Tryz.results19
end Go.Proofs.YtbiklagfjeileaaGreat
set_option linter.unusedVariables false
set_option linter.unusedSimpArgs false
namespace Go.Proofs.YtbiklagfjeileaaGreat
open Go Go.Ab
set_option maxHeartbeats 4000000 in
theorem slices_IndexFunc_Row_con {D : Prop} (s1 : List Row) (f2 : Row → Option (Bool)) (f2_k : FuncId) (f2_cs : List PV) (f2_h : ∀ (y3 : Row) (r4 : Bool), f2 y3 = some r4 → Con D Tryz.prog f2_k ((encRow y3) :: f2_cs) (.bool r4)) (r5 : Int) (h : slices_IndexFunc_Row s1 f2 = some r5) : Con D Tryz.prog 82 [(.slc (List.map encRow s1)), .func (.func f2_k) f2_cs] (.int .i64 r5) := by
 refine zP Tryz.call82 Tryz.func82 rfl Tryz.ntmps82 fun X w => ?_
 simp only [slices_IndexFunc_Row] at h
 refine zs (zr ?_)
 refine zU (zl (zn (zs (zs (zr ?_)))))
 refine zU (zl (zn (zb ?_)))
 obtain ⟨o6, h7, h⟩ := zB h
 refine zO (fun (s : Int) => ⟨[(0, .p (.slc (List.map encRow s1))), (1, .p (.func (.func f2_k) f2_cs)), (7, .p (.int .i64 (s1.length : Int))), (8, .p (.int .i64 s))], []⟩) (fun (o : (Unit) ⊕ (Int)) => match o with | .inl o8 => tE (cX Tryz.f82 X w D) (.exit 0) ⟨[], []⟩ | .inr o9 => tR Tryz.prog Tryz.f82 (.int .i64 o9)) h7 ?_ ?_
 clear h h7
 intro t10 x h
 simp only [slices_IndexFunc_Row_l1] at h
 refine zs (zr ?_)
 refine zU (zl (zn (zs ?_)))
 rcases zI h with ⟨h11, h⟩ | ⟨h11, h⟩
 refine zi (zk (zn (zs (zb (zs (zr ?_))))))
 refine zU (zl (zn (zs (zr ?_))))
 obtain ⟨x12, h13, h13a, h13b, h⟩ := zX h
 refine zU ?_
 obtain ⟨r14, h15, h⟩ := zB h
 refine zc (f2_h x12 _ h15) ?_
 refine zl (zn ?_)
 rcases zI h with ⟨h16, h⟩ | ⟨h16, h⟩
 refine zi (zs (zr ?_))
 refine zU (zl (zn (zq (yr (zt ?_)))))
 cases h
 exact ⟨rfl, zT Tryz.results82⟩
 refine zj (zk (yn (zn (zr ?_))))
 refine zU (zl ?_)
 cases h
 exact ⟨rfl, zE⟩
 refine zj (zx (ze ?_))
 cases h
 exact ⟨rfl, zE⟩
 rcases o6 with ⟨⟩ | r17
 try simp only at h
 refine zA (yh (zn (zs (zr ?_))))
 refine zU (zl (zn (zq ?_)))
 cases h
 exact zT Tryz.results82
 try simp only at h
 refine zZ fun s hq => ?_
 refine yr (zt ?_)
 cases h
 exact hq
end Go.Proofs.YtbiklagfjeileaaGreat
set_option linter.unusedVariables false
set_option linter.unusedSimpArgs false
namespace Go.Proofs.YtbiklagfjeileaaGreat
open Go Go.Ab
set_option maxHeartbeats 4000000 in
theorem table_Find_1_con {D : Prop} (r1 : Row) (c2 : Int) (r3 : Bool) (h : table_Find_1 r1 c2 = some r3) : Con D Tryz.prog 83 [(encRow r1), .imm [.int .i64 c2]] (.bool r3) := by
 refine zP Tryz.call83 Tryz.func83 rfl Tryz.ntmps83 fun X w => ?_
 simp only [table_Find_1] at h
 refine zs (zr ?_)
 refine zU (zl (zn (zs (zr ?_))))
 refine zU (zl (zn (zq ?_)))
 cases h
 exact zT Tryz.results83
end Go.Proofs.YtbiklagfjeileaaGreat
set_option linter.unusedVariables false
set_option linter.unusedSimpArgs false
namespace Go.Proofs.YtbiklagfjeileaaGreat
open Go Go.Ab
set_option maxHeartbeats 4000000 in
theorem table_Find_con {D : Prop} (t1 : Table) (i2 : Int) (r3 : Int × Bool) (h : table_Find t1 i2 = some r3) : Con D Tryz.prog 58 [(encTable t1), (.int .i64 i2)] (.tup [(.int .i64 r3.1), (.bool r3.2)]) := by
 refine zP Tryz.call58 Tryz.func58 rfl Tryz.ntmps58 fun X w => ?_
 simp only [table_Find] at h
 refine zs (zr ?_)
 refine zU (zl (zn (zs (zr ?_))))
 refine zU ?_
 obtain ⟨r4, h5, h⟩ := zB h
 refine zc (slices_IndexFunc_Row_con t1.Rows (fun (y6 : Row) => table_Find_1 y6 i2) 83 [.imm [.int .i64 i2]] (fun y6 r h => table_Find_1_con y6 i2 r h) _ h5) ?_
 refine zU (zl (zn (zs (zr ?_))))
 refine zU (zl (zn (zq ?_)))
 cases h
 exact zT Tryz.results58
end Go.Proofs.YtbiklagfjeileaaGreat
set_option linter.unusedVariables false
set_option linter.unusedSimpArgs false
namespace Go.Proofs.YtbiklagfjeileaaGreat
open Go Go.Ab
set_option maxHeartbeats 4000000 in
theorem ratio_abs_con {D : Prop} (n1 : Int) (r2 : Int) (h : ratio_abs n1 = some r2) : Con D Tryz.prog 84 [(.int .i64 n1)] (.int .u64 r2) := by
 refine zP Tryz.call84 Tryz.func84 rfl Tryz.ntmps84 fun X w => ?_
 simp only [ratio_abs] at h
 refine zs (zr ?_)
 refine zU (zl (zn (zs (zs (zr ?_)))))
 refine zU (zl (zn ?_))
 rcases zI h with ⟨h3, h⟩ | ⟨h3, h⟩
 refine zi (zs (zr ?_))
 refine zU (zl (zn (zq (zt ?_))))
 cases h
 exact zT Tryz.results84
 refine zj (zk (zn (zs (zr ?_))))
 refine zU (zl (zn (zq ?_)))
 cases h
 exact zT Tryz.results84
end Go.Proofs.YtbiklagfjeileaaGreat
set_option linter.unusedVariables false
set_option linter.unusedSimpArgs false
namespace Go.Proofs.YtbiklagfjeileaaGreat
open Go Go.Ab
set_option maxHeartbeats 4000000 in
theorem ratio_gcd_con {D : Prop} (a1 : Int) (b2 : Int) (r3 : Int) (h : ratio_gcd a1 b2 = some r3) : Con D Tryz.prog 85 [(.int .u64 a1), (.int .u64 b2)] (.int .u64 r3) := by
 refine zP Tryz.call85 Tryz.func85 rfl Tryz.ntmps85 fun X w => ?_
 simp only [ratio_gcd] at h
 refine zs (zr ?_)
 refine zU (zl (zn (zs (zb ?_))))
 obtain ⟨a4, h5, h⟩ := zB h
 refine zO (fun (s : Int × Int) => ⟨[(0, .p (.int .u64 s.1)), (1, .p (.int .u64 s.2))], []⟩) (fun (o6 : Int) => tE (cX Tryz.f85 X w D) (.exit 0) ⟨[(0, .p (.int .u64 o6))], []⟩) h5 ?_ ?_
 clear h h5
 intro s x h
 obtain ⟨a7, b8⟩ := s
 simp only [ratio_gcd_l1] at h
 dsimp only
 refine zs (zs (zr ?_))
 refine zU (zl (zn ?_))
 rcases zI h with ⟨h9, h⟩ | ⟨h9, h⟩
 refine zi (zk (zn (zb (zd ?_))))
 obtain ⟨h10, h⟩ := ite_none h
 refine yU ?_
 refine yd (yn ?_)
 cases h
 exact ⟨rfl, zE⟩
 refine zj (zx (ze ?_))
 cases h
 exact ⟨rfl, zE⟩
 try simp only at h
 refine zA (yh (zn (zs (zr ?_))))
 refine zU (zl (zn (zq ?_)))
 cases h
 exact zT Tryz.results85
end Go.Proofs.YtbiklagfjeileaaGreat
set_option linter.unusedVariables false
set_option linter.unusedSimpArgs false
namespace Go.Proofs.YtbiklagfjeileaaGreat
open Go Go.Ab
set_option maxHeartbeats 4000000 in
theorem ratio_of_con {D : Prop} (n1 : Bool) (n2 : Int) (d3 : Int) (r4 : Ratio × Int) (h : ratio_of n1 n2 d3 = some r4) : Con D Tryz.prog 86 [(.bool n1), (.int .u64 n2), (.int .u64 d3)] (.tup [(encRatio r4.1), (.int .i64 r4.2)]) := by
 refine zP Tryz.call86 Tryz.func86 rfl Tryz.ntmps86 fun X w => ?_
 simp only [ratio_of] at h
 refine zs (zr ?_)
 refine zU (zl (zn (zs (zs (zr ?_)))))
 refine zU ?_
 rcases zI h with ⟨h5, h⟩ | ⟨h5, h⟩
 refine zw 11 true ?_
 refine zh ?_
 refine zU (zl (zn ?_))
 refine zi (zs (zr ?_))
 refine zU (zl (zn (zq (zt ?_))))
 cases h
 exact zT Tryz.results86
 refine zw 11 false ?_
 refine zg ?_
 refine zg ?_
 refine zU (zl (zn ?_))
 rcases zI h with ⟨h6, h⟩ | ⟨h6, h⟩
 refine zi (zs (zr ?_))
 refine zU (zl (zn (zq (zt ?_))))
 cases h
 exact zT Tryz.results86
 refine zj (zk (zn (zs (zr ?_))))
 refine zU (zl (zn (zs (zs (zr ?_)))))
 refine zU (zl (zn ?_))
 rcases zI h with ⟨h7, h⟩ | ⟨h7, h⟩
 refine zi (zr ?_)
 refine zU (zl (zn (zs (zr ?_))))
 refine zU (zl (zn (zq ?_)))
 cases h
 exact zT Tryz.results86
 refine zj (zk (zn (zs (zr ?_))))
 refine zU (zl (zn (zq ?_)))
 cases h
 exact zT Tryz.results86
end Go.Proofs.YtbiklagfjeileaaGreat
set_option linter.unusedVariables false
set_option linter.unusedSimpArgs false
namespace Go.Proofs.YtbiklagfjeileaaGreat
open Go Go.Ab
set_option maxRecDepth 20000 in
set_option maxHeartbeats 4000000 in
theorem ratio_Make_con {D : Prop} (n1 : Int) (d2 : Int) (r3 : Ratio × Int) (h : ratio_Make n1 d2 = some r3) : Con D Tryz.prog 59 [(.int .i64 n1), (.int .i64 d2)] (.tup [(encRatio r3.1), (.int .i64 r3.2)]) := by
 refine zP Tryz.call59 Tryz.func59 rfl Tryz.ntmps59 fun X w => ?_
 simp only [ratio_Make] at h
 refine zs (zr ?_)
 refine zU (zl (zn (zs (zs (zr ?_)))))
 refine zU (zl (zn ?_))
 rcases zI h with ⟨h4, h⟩ | ⟨h4, h⟩
 refine zi (zs (zr ?_))
 refine zU (zl (zn (zq (zt ?_))))
 cases h
 exact zT Tryz.results59
 refine zj (zk (zn (zs (zr ?_))))
 refine zU ?_
 obtain ⟨r5, h6, h⟩ := zB h
 refine zc (ratio_abs_con n1 _ h6) ?_
 refine zU ?_
 obtain ⟨r7, h8, h⟩ := zB h
 refine zc (ratio_abs_con d2 _ h8) ?_
 refine zU (zl (zn (zs (zr ?_))))
 refine zU ?_
 obtain ⟨r9, h10, h⟩ := zB h
 refine zc (ratio_gcd_con r5 r7 _ h10) ?_
 refine zU (zl (zn (zs (zd ?_))))
 obtain ⟨h11, h⟩ := ite_none h
 refine yU ?_
 obtain ⟨r12, h13, h⟩ := zB h
 refine yc (ratio_of_con (!((decide (n1 < 0)) == (decide (d2 < 0)))) (IntKind.u64.wrap (Int.tdiv r5 r9)) (IntKind.u64.wrap (Int.tdiv r7 r9)) _ h13) ?_
 refine yU ?_
 refine yd (zn (zq ?_))
 cases h
 exact zT Tryz.results59
end Go.Proofs.YtbiklagfjeileaaGreat
set_option linter.unusedVariables false
set_option linter.unusedSimpArgs false
namespace Go.Proofs.YtbiklagfjeileaaGreat
open Go Go.Ab
set_option maxHeartbeats 4000000 in
theorem blocking_Reduction_con {D : Prop} (t1 : Table) (p2 : List Arr2_int64) (r3 : Ratio × Int) (h : blocking_Reduction t1 p2 = some r3) : Con D Tryz.prog 25 [(encTable t1), (.slc (List.map encArr2_int64 p2))] (.tup [(encRatio r3.1), (.int .i64 r3.2)]) := by
 refine zP Tryz.call25 Tryz.func25 rfl Tryz.ntmps25 fun X w => ?_
 simp only [blocking_Reduction] at h
 refine zs (zr ?_)
 refine zU (zl (zn (zs (zs (zr ?_)))))
 refine zU ?_
 obtain ⟨r4, h5, h⟩ := zB h
 refine zc (table_Valid_con t1 _ h5) ?_
 refine zU (zl (zn (zs (zr ?_))))
 refine zU (zl (zn ?_))
 rcases zI h with ⟨h6, h⟩ | ⟨h6, h⟩
 refine zi (zs (zr ?_))
 refine zU (zl (zn (zq (zt ?_))))
 cases h
 exact zT Tryz.results25
 refine zj (zk (zn (zs (zs (zr ?_)))))
 refine zU (zl (zn ?_))
 rcases zI h with ⟨h7, h⟩ | ⟨h7, h⟩
 refine zi (zs (zr ?_))
 refine zU (zl (zn (zq (zt ?_))))
 cases h
 exact zT Tryz.results25
 refine zj (zk (zn (zs (zs (zr ?_)))))
 refine zU (zl (zn (zb ?_)))
 obtain ⟨o8, h9, h⟩ := zB h
 refine zO (fun (s : Int) => ⟨[(1, .p (.slc (List.map encArr2_int64 p2))), (2, .loc 2 1 0 0), (4, .loc 4 1 0 0), (25, .p (.slc (List.map encArr2_int64 p2))), (26, .p (.int .i64 (p2.length : Int))), (27, .p (.int .i64 s))], [(2, .arr 26 3 1 [.p (encTable t1)]), (4, .arr 46 2 1 [.p (.agg [.int .i64 0, .int .i64 0])])]⟩) (fun (o : (Unit) ⊕ (Ratio × Int)) => match o with | .inl o10 => tE (cX Tryz.f25 X w D) (.exit 0) ⟨[(1, .p (.slc (List.map encArr2_int64 p2))), (2, .loc 2 1 0 0), (4, .loc 4 1 0 0)], [(2, .arr 26 3 1 [.p (encTable t1)]), (4, .arr 46 2 1 [.p (.agg [.int .i64 0, .int .i64 0])])]⟩ | .inr o11 => tR Tryz.prog Tryz.f25 (.tup [(encRatio o11.1), (.int .i64 o11.2)])) h9 ?_ ?_
 clear h h5 h6 h7 h9
 intro t12 x h
 simp only [blocking_Reduction_l1] at h
 refine zs (zr ?_)
 refine zU (zl (zn (zs ?_)))
 rcases zI h with ⟨h13, h⟩ | ⟨h13, h⟩
 refine zi (zk (zn (zs (zb (zs (zr ?_))))))
 obtain ⟨x14, h15, h15a, h15b, h⟩ := zX h
 refine zU (zl (zn (zs (zr ?_))))
 refine zU ?_
 obtain ⟨r16, h17, h⟩ := zB h
 refine zc (table_Find_con t1 x14.x0 _ h17) ?_
 refine zU (zl (zn (zs (zr ?_))))
 refine zU ?_
 obtain ⟨r18, h19, h⟩ := zB h
 refine zc (table_Find_con t1 x14.x1 _ h19) ?_
 refine zU (zl (zn (zs (zr ?_))))
 refine zU ?_
 rcases zI h with ⟨h20, h⟩ | ⟨h20, h⟩
 refine zw 47 false ?_
 refine zg ?_
 refine zg ?_
 refine zU ?_
 rcases zI h with ⟨h21, h⟩ | ⟨h21, h⟩
 refine zw 51 false ?_
 refine zg ?_
 refine zg ?_
 refine zg ?_
 refine zg ?_
 refine zg ?_
 refine zU (zl (zn ?_))
 rcases zI h with ⟨h22, h⟩ | ⟨h22, h⟩
 refine zi (zs (zr ?_))
 refine zU (zl (zn (zq (yr (zt ?_)))))
 cases h
 exact ⟨rfl, zT Tryz.results25⟩
 refine zj (zk (yn (zn (zr ?_))))
 refine zU (zl ?_)
 cases h
 exact ⟨rfl, zE⟩
 refine zw 51 true ?_
 refine zh ?_
 refine zU (zl (zn ?_))
 refine zi (zs (zr ?_))
 refine zU (zl (zn (zq (yr (zt ?_)))))
 cases h
 exact ⟨rfl, zT Tryz.results25⟩
 refine zw 47 true ?_
 refine zh ?_
 refine zU ?_
 refine zh ?_
 refine zU (zl (zn ?_))
 refine zi (zs (zr ?_))
 refine zU (zl (zn (zq (yr (zt ?_)))))
 cases h
 exact ⟨rfl, zT Tryz.results25⟩
 refine zj (zx (ze ?_))
 cases h
 exact ⟨rfl, zE⟩
 rcases o8 with ⟨⟩ | r23
 try simp only at h
 refine zA (yh (zn (zs (zr ?_))))
 refine zU (zl (zn (zs (zs (zr ?_)))))
 refine zU (zl (zn ?_))
 rcases zI h with ⟨h24, h⟩ | ⟨h24, h⟩
 refine zi (zs (zr ?_))
 obtain ⟨r25, h26, h⟩ := zB h
 refine zc (ratio_Make_con 1 1 _ h26) ?_
 refine zU (zl (zn (zq (zt ?_))))
 cases h
 exact zT Tryz.results25
 refine zj (zk (zn (zs (zr ?_))))
 refine zU ?_
 refine zM ⟨[(4, .loc 4 1 0 0), (13, .p (.int .i64 (IntKind.i64.wrap (Int.tdiv (IntKind.i64.wrap ((t1.Rows.length : Int) * (IntKind.i64.wrap ((t1.Rows.length : Int) - 1)))) 2)))), (74, .p (.int .i64 (IntKind.i64.wrap (Int.tdiv (IntKind.i64.wrap ((t1.Rows.length : Int) * (IntKind.i64.wrap ((t1.Rows.length : Int) - 1)))) 2)))), (76, .p (.slc (List.map (encL encArr2_int64) [p2])))], [(4, .arr 46 2 1 [.p (.agg [.int .i64 0, .int .i64 0])])]⟩ ?_
 obtain ⟨r27, h28, h⟩ := zB h
 refine zc (blocking_Union_con [p2] _ h28) ?_
 refine zU ?_
 obtain ⟨r29, h30, h⟩ := zB h
 refine zc (ratio_Make_con (IntKind.i64.wrap ((IntKind.i64.wrap (Int.tdiv (IntKind.i64.wrap ((t1.Rows.length : Int) * (IntKind.i64.wrap ((t1.Rows.length : Int) - 1)))) 2)) - (r27.length : Int))) (IntKind.i64.wrap (Int.tdiv (IntKind.i64.wrap ((t1.Rows.length : Int) * (IntKind.i64.wrap ((t1.Rows.length : Int) - 1)))) 2)) _ h30) ?_
 refine zU (zl (zn (zq ?_)))
 cases h
 exact zT Tryz.results25
 try simp only at h
 refine zZ fun s hq => ?_
 refine yr (zt ?_)
 cases h
 exact hq
end Go.Proofs.YtbiklagfjeileaaGreat
set_option linter.unusedVariables false
set_option linter.unusedSimpArgs false
namespace Go.Proofs.YtbiklagfjeileaaGreat
open Go Go.Ab
set_option maxHeartbeats 4000000 in
theorem drossref53_Has_con {D : Prop} (l1 : List Arr2_int64) (p2 : Arr2_int64) (r3 : Bool) (h : drossref53_Has l1 p2 = some r3) : Con D Tryz.prog 56 [(.slc (List.map encArr2_int64 l1)), (encArr2_int64 p2)] (.bool r3) := by
 refine zP Tryz.call56 Tryz.func56 rfl Tryz.ntmps56 fun X w => ?_
 simp only [drossref53_Has] at h
 refine zs (zr ?_)
 refine zU (zl (zn (zs (zs (zr ?_)))))
 refine zU (zl (zn (zb ?_)))
 obtain ⟨o4, h5, h⟩ := zB h
 refine zO (fun (s : Int) => ⟨[(0, .p (.slc (List.map encArr2_int64 l1))), (3, .loc 3 1 0 0), (5, .p (.int .i64 s))], [(3, .arr 43 2 1 [.p (encArr2_int64 p2)])]⟩) (fun (o : (Unit) ⊕ (Bool)) => match o with | .inl o6 => tE (cX Tryz.f56 X w D) (.exit 0) ⟨[], []⟩ | .inr o7 => tR Tryz.prog Tryz.f56 (.bool o7)) h5 ?_ ?_
 clear h h5
 intro i8 x h
 simp only [drossref53_Has_l1] at h
 refine zs (zs (zr ?_))
 refine zU (zl (zn ?_))
 rcases zI h with ⟨h9, h⟩ | ⟨h9, h⟩
 refine zi (zk (zn (zs (zb (zs (zd ?_))))))
 obtain ⟨x10, h11, h11a, h11b, h⟩ := zX h
 refine yU ?_
 refine yd (zn ?_)
 rcases zI h with ⟨h12, h⟩ | ⟨h12, h⟩
 refine zi (zs (zr ?_))
 refine zU (zl (zn (zq (yr (zt ?_)))))
 cases h
 exact ⟨rfl, zT Tryz.results56⟩
 refine zj (zk (yn (zn (zr ?_))))
 refine zU (zl ?_)
 cases h
 exact ⟨rfl, zE⟩
 refine zj (zx (ze ?_))
 cases h
 exact ⟨rfl, zE⟩
 rcases o4 with ⟨⟩ | r13
 try simp only at h
 refine zA (yh (zn (zs (zr ?_))))
 refine zU (zl (zn (zq ?_)))
 cases h
 exact zT Tryz.results56
 try simp only at h
 refine zZ fun s hq => ?_
 refine yr (zt ?_)
 cases h
 exact hq
end Go.Proofs.YtbiklagfjeileaaGreat
set_option linter.unusedVariables false
set_option linter.unusedSimpArgs false
namespace Go.Proofs.YtbiklagfjeileaaGreat
open Go Go.Ab
set_option maxHeartbeats 4000000 in
theorem drossref53_Union_con {D : Prop} (l1 : List (List Arr2_int64)) (r2 : List Arr2_int64) (h : drossref53_Union l1 = some r2) : Con D Tryz.prog 21 [(.slc (List.map (encL encArr2_int64) l1))] (.slc (List.map encArr2_int64 r2)) := by
 refine zP Tryz.call21 Tryz.func21 rfl Tryz.ntmps21 fun X w => ?_
 simp only [drossref53_Union] at h
 refine zs (zr ?_)
 refine zU (zl (zn (zs (zr ?_))))
 refine zU (zl (zn (zs (zs (zr ?_)))))
 refine zU (zl (zn (zb ?_)))
 obtain ⟨o3, h4, h⟩ := zB h
 refine zO (fun (s : List Arr2_int64 × Int) => ⟨[(0, .p (.slc (List.map (encL encArr2_int64) l1))), (3, .own 44 1 0 s.1.length), (4, .p (.int .i64 s.2))], [(44, .arr 43 2 1 (List.map AV.p (List.map encArr2_int64 s.1)))]⟩) (fun (o5 : List Arr2_int64) => tE (cX Tryz.f21 X w D) (.exit 0) ⟨[(3, .own 44 1 0 o5.length)], [(44, .arr 43 2 1 (List.map AV.p (List.map encArr2_int64 o5)))]⟩) h4 ?_ ?_
 clear h h4
 intro s x h
 obtain ⟨o6, i7⟩ := s
 simp only [drossref53_Union_l13] at h
 dsimp only
 refine zs (zs (zr ?_))
 refine zU (zl (zn ?_))
 rcases zI h with ⟨h8, h⟩ | ⟨h8, h⟩
 refine zi (zk (zn (zs (zb (zs (zr ?_))))))
 refine zU (zl (zn (zb ?_)))
 obtain ⟨o9, h10, h⟩ := zB h
 refine zO (fun (s : List Arr2_int64 × Int) => ⟨[(0, .p (.slc (List.map (encL encArr2_int64) l1))), (3, .own 44 1 0 s.1.length), (4, .p (.int .i64 i7)), (5, .p (.int .i64 s.2))], [(44, .arr 43 2 1 (List.map AV.p (List.map encArr2_int64 s.1)))]⟩) (fun (o11 : List Arr2_int64) => tE (cX Tryz.f21 X w D) (.exit 2) ⟨[(0, .p (.slc (List.map (encL encArr2_int64) l1))), (3, .own 44 1 0 o11.length), (4, .p (.int .i64 i7))], [(44, .arr 43 2 1 (List.map AV.p (List.map encArr2_int64 o11)))]⟩) h10 ?_ ?_
 clear h h8 h10
 intro s x h
 obtain ⟨o12, k13⟩ := s
 simp only [drossref53_Union_l12] at h
 dsimp only
 refine zs (zs (zr ?_))
 obtain ⟨x14, h15, h15a, h15b, h⟩ := zX h
 refine zU (zl (zn ?_))
 rcases zI h with ⟨h16, h⟩ | ⟨h16, h⟩
 have h16T := eq_true h16
 refine zi (zk (zn (zs (zb (zr ?_)))))
 obtain ⟨x17, h18, h18a, h18b, h⟩ := zX h
 refine zU ?_
 refine zM ⟨[(0, .p (.slc (List.map (encL encArr2_int64) l1))), (4, .p (.int .i64 i7)), (5, .p (.int .i64 k13)), (21, .own 44 1 0 o12.length), (28, .p (encArr2_int64 x17))], [(44, .arr 43 2 1 (List.map AV.p (List.map encArr2_int64 o12)))]⟩ ?_
 refine AL_inline (avs := [.own 44 1 0 o12.length, .p (encArr2_int64 x17)]) 31 rfl (guard_none rfl) rfl Tryz.func52 rfl Tryz.call52 Tryz.ntmps52 (by simp) (by simp only [go_sem, seval, h16T]; all_goals rfl) ?_
 intro i19 w20
 show AWp _ _ _ ⟨[(0, .own 44 1 0 o12.length), (1, .p (encArr2_int64 x17))], [(44, .arr 43 2 1 (List.map AV.p (List.map encArr2_int64 o12)))]⟩
 refine zs (zr ?_)
 refine zU (zl (zn (zs (zs (zr ?_)))))
 refine zU ?_
 obtain ⟨r21, h22, h⟩ := zB h
 refine zc (drossref53_Has_con o12 x17 _ h22) ?_
 refine zl (zn ?_)
 rcases zI h with ⟨h23, h⟩ | ⟨h23, h⟩
 refine zi (zs (zr ?_))
 refine zU (zl (zn (zq (zt ?_))))
 refine inlQ_ret (by simp only [Tryz.results52]; simp only [go_sem, seval, h16T, h23]; exact rfl) ?_
 refine zU (zl (yn (zn (zr ?_))))
 refine zU (zl ?_)
 cases h
 exact ⟨rfl, zE⟩
 have h23F := Bool.eq_false_iff.2 h23
 refine zj (zk (zn (zs (zr ?_))))
 obtain ⟨h24, h⟩ := ite_some h
 refine zU (zl (zn (zs (zs (zr ?_)))))
 refine zU (zl (zn (zb ?_)))
 obtain ⟨l25, h26, h⟩ := zB h
 refine zO (fun (s : List Arr2_int64 × Int) => ⟨[(0, .own 44 2 0 s.1.length), (5, .p (.int .i64 s.2))], [(44, .arr 43 2 2 (List.map AV.p (List.map encArr2_int64 s.1)))]⟩) (fun (o27 : List Arr2_int64) => tE ⟨Tryz.prog, 80, 31, X, [(44, .arr 43 2 1 (List.map AV.p (List.map encArr2_int64 o12)))], i19, w20, D⟩ (.exit 0) ⟨[(0, .own 44 2 0 o27.length)], [(44, .arr 43 2 2 (List.map AV.p (List.map encArr2_int64 o27)))]⟩) h26 ?_ ?_
 clear h h15 h15a h15b h16 h16T h18 h18a h18b h22 h23 h23F h24 h26
 intro s x h
 obtain ⟨l28, k29⟩ := s
 simp only [drossref53_Union_l11] at h
 dsimp only
 refine zs (zs (zd ?_))
 refine yU ?_
 rcases zI h with ⟨h30, h⟩ | ⟨h30, h⟩
 refine yw 19 true ?_
 refine yg ?_
 refine yg ?_
 obtain ⟨x31, h32, h32a, h32b, h⟩ := zX h
 refine yg ?_
 refine yg ?_
 refine yg ?_
 refine yg ?_
 refine yg ?_
 refine yg ?_
 obtain ⟨x33, h34, h34a, h34b, h⟩ := zX h
 refine yg ?_
 refine yg ?_
 refine yg ?_
 refine yg ?_
 refine yg ?_
 rcases zI h with ⟨h35, h⟩ | ⟨h35, h⟩
 refine yw 32 true ?_
 refine yk ?_
 refine yg ?_
 refine yU ?_
 refine yd (zn ?_)
 refine zi (zk (zn (zs (zb (zd ?_)))))
 obtain ⟨x36, h37, h37a, h37b, h⟩ := zX h
 have h37B := eq_true (by simpa only [List.length_set] using h37b)
 refine yU ?_
 refine yd (yn (zn (zr ?_)))
 refine zU (zl ?_)
 cases h
 exact ⟨rfl, zE⟩
 refine yw 32 false ?_
 refine yg ?_
 refine yg ?_
 refine yg ?_
 refine yg ?_
 refine yg ?_
 refine yg ?_
 refine yg ?_
 refine yg ?_
 refine yg ?_
 refine yg ?_
 refine yg ?_
 refine yg ?_
 refine yg ?_
 rcases zI h with ⟨h38, h⟩ | ⟨h38, h⟩
 refine yw 45 true ?_
 refine yg ?_
 refine yg ?_
 refine yg ?_
 refine yg ?_
 refine yg ?_
 refine yg ?_
 refine yg ?_
 refine yg ?_
 refine yg ?_
 refine yg ?_
 refine yg ?_
 refine yg ?_
 refine yg ?_
 refine yg ?_
 refine yU ?_
 refine yd (zn ?_)
 rcases zI h with ⟨h39, h⟩ | ⟨h39, h⟩
 refine zi (zk (zn (zs (zb (zd ?_)))))
 obtain ⟨x40, h41, h41a, h41b, h⟩ := zX h
 have h41B := eq_true (by simpa only [List.length_set] using h41b)
 refine yU ?_
 refine yd (yn (zn (zr ?_)))
 refine zU (zl ?_)
 cases h
 exact ⟨rfl, zE⟩
 refine zj (zx (ze ?_))
 cases h
 exact ⟨rfl, zE⟩
 replace h := h.symm
 refine yw 45 false ?_
 refine yk ?_
 refine yg ?_
 refine yg ?_
 refine yU ?_
 refine yd (zn ?_)
 refine zj (zx (ze ?_))
 cases h
 exact ⟨rfl, zE⟩
 refine yw 19 false ?_
 refine yk ?_
 refine yU ?_
 refine yd (zn ?_)
 refine zj (zx (ze ?_))
 cases h
 exact ⟨rfl, zE⟩
 try simp only at h
 refine zA (yh (zn (zs (zr ?_))))
 refine zU (zl (zn (zq ?_)))
 refine inlQ_ret (by simp only [Tryz.results52]; simp only [go_sem, seval, h16T, h23F]; exact rfl) ?_
 refine zU (zl (yn (zn (zr ?_))))
 refine zU (zl ?_)
 cases h
 exact ⟨rfl, zE⟩
 have h16T := eq_false h16
 refine zj (zx (ze ?_))
 cases h
 exact ⟨rfl, zE⟩
 try simp only at h
 refine zA (yh (yn (zn (zr ?_))))
 refine zU (zl ?_)
 cases h
 exact ⟨rfl, zE⟩
 refine zj (zx (ze ?_))
 cases h
 exact ⟨rfl, zE⟩
 try simp only at h
 refine zA (yh (zn (zs (zr ?_))))
 refine zU (zl (zn (zq ?_)))
 cases h
 exact zT Tryz.results21
end Go.Proofs.YtbiklagfjeileaaGreat
set_option linter.unusedVariables false
set_option linter.unusedSimpArgs false
namespace Go.Proofs.YtbiklagfjeileaaGreat
open Go Go.Ab
set_option maxRecDepth 20000 in
set_option maxHeartbeats 4000000 in
theorem drossref03_letter_con {D : Prop} (c1 : Int) (r2 : Bool) (h : drossref03_letter c1 = some r2) : Con D Tryz.prog 128 [(.int .u8 c1)] (.bool r2) := by
 refine zP Tryz.call128 Tryz.func128 rfl Tryz.ntmps128 fun X w => ?_
 simp only [drossref03_letter] at h
 refine zs (zr ?_)
 refine zU (zl (zn (zs (zr ?_))))
 refine zU ?_
 rcases zI h with ⟨h3, h⟩ | ⟨h3, h⟩
 refine zw 5 true ?_
 refine zg ?_
 refine zg ?_
 refine zU ?_
 rcases zI h with ⟨h4, h⟩ | ⟨h4, h⟩
 refine zw 9 true ?_
 refine zh ?_
 refine zU ?_
 refine zh ?_
 refine zU (zl (zn (zq ?_)))
 cases h
 exact zT Tryz.results128
 refine zw 9 false ?_
 refine zg ?_
 refine zg ?_
 refine zg ?_
 rcases zI h with ⟨h5, h⟩ | ⟨h5, h⟩
 refine zw 12 true ?_
 refine zg ?_
 refine zg ?_
 refine zg ?_
 refine zU ?_
 rcases zI h with ⟨h6, h⟩ | ⟨h6, h⟩
 refine zw 17 true ?_
 refine zh ?_
 refine zU (zl (zn (zq ?_)))
 cases h
 exact zT Tryz.results128
 replace h := h.symm
 refine zw 17 false ?_
 refine zg ?_
 refine zg ?_
 refine zU (zl (zn (zq ?_)))
 cases h
 exact zT Tryz.results128
 replace h := h.symm
 refine zw 12 false ?_
 refine zh ?_
 refine zg ?_
 refine zU ?_
 refine zg ?_
 refine zg ?_
 refine zU (zl (zn (zq ?_)))
 cases h
 exact zT Tryz.results128
 refine zw 5 false ?_
 refine zh ?_
 refine zU ?_
 refine zg ?_
 refine zg ?_
 refine zg ?_
 rcases zI h with ⟨h7, h⟩ | ⟨h7, h⟩
 refine zw 12 true ?_
 refine zg ?_
 refine zg ?_
 refine zg ?_
 refine zU ?_
 rcases zI h with ⟨h8, h⟩ | ⟨h8, h⟩
 refine zw 17 true ?_
 refine zh ?_
 refine zU (zl (zn (zq ?_)))
 cases h
 exact zT Tryz.results128
 replace h := h.symm
 refine zw 17 false ?_
 refine zg ?_
 refine zg ?_
 refine zU (zl (zn (zq ?_)))
 cases h
 exact zT Tryz.results128
 replace h := h.symm
 refine zw 12 false ?_
 refine zh ?_
 refine zg ?_
 refine zU ?_
 refine zg ?_
 refine zg ?_
 refine zU (zl (zn (zq ?_)))
 cases h
 exact zT Tryz.results128
end Go.Proofs.YtbiklagfjeileaaGreat
set_option linter.unusedVariables false
set_option linter.unusedSimpArgs false
namespace Go.Proofs.YtbiklagfjeileaaGreat
open Go Go.Ab
set_option maxRecDepth 20000 in
set_option maxHeartbeats 4000000 in
theorem drossref03_Name_con {D : Prop} (s1 : List UInt8) (r2 : Bool) (h : drossref03_Name s1 = some r2) : Con D Tryz.prog 87 [(.str s1)] (.bool r2) := by
 refine zP Tryz.call87 Tryz.func87 rfl Tryz.ntmps87 fun X w => ?_
 simp only [drossref03_Name] at h
 refine zs (zr ?_)
 refine zU (zl (zn (zs (zs (zr ?_)))))
 refine zU ?_
 rcases zI h with ⟨h3, h⟩ | ⟨h3, h⟩
 refine zw 7 true ?_
 refine zh ?_
 refine zU ?_
 refine zh ?_
 refine zU ?_
 refine zh ?_
 refine zU (zl (zn ?_))
 refine zi (zs (zr ?_))
 refine zU (zl (zn (zq (zt ?_))))
 cases h
 exact zT Tryz.results87
 refine zw 7 false ?_
 refine zg ?_
 refine zg ?_
 refine zg ?_
 refine zU ?_
 rcases zI h with ⟨h4, h⟩ | ⟨h4, h⟩
 refine zw 12 true ?_
 refine zh ?_
 refine zU ?_
 refine zh ?_
 refine zU (zl (zn ?_))
 refine zi (zs (zr ?_))
 refine zU (zl (zn (zq (zt ?_))))
 cases h
 exact zT Tryz.results87
 refine zw 12 false ?_
 refine zg ?_
 obtain ⟨c5, h6, h6l, h6L, h⟩ := zY 0 h
 refine zg ?_
 obtain ⟨r7, h8, h⟩ := zB h
 refine zc (drossref03_letter_con ((c5.toNat : Nat) : Int) _ h8) ?_
 refine zg ?_
 refine zU ?_
 rcases zI h with ⟨h9, h⟩ | ⟨h9, h⟩
 refine zw 18 false ?_
 refine zg ?_
 refine zg ?_
 refine zU (zl (zn ?_))
 rcases zI h with ⟨h10, h⟩ | ⟨h10, h⟩
 refine zi (zs (zr ?_))
 refine zU (zl (zn (zq (zt ?_))))
 cases h
 exact zT Tryz.results87
 refine zj (zk (zn (zs (zs (zr ?_)))))
 refine zU (zl (zn (zb ?_)))
 obtain ⟨o11, h12, h⟩ := zB h
 refine zO (fun (s : Int) => ⟨[(0, .p (.str s1)), (3, .p (.int .i64 s))], []⟩) (fun (o : (Unit) ⊕ (Bool)) => match o with | .inl o13 => tE (cX Tryz.f87 X w D) (.exit 0) ⟨[], []⟩ | .inr o14 => tR Tryz.prog Tryz.f87 (.bool o14)) h12 ?_ ?_
 clear h h3 h4 h6 h6l h6L h8 h9 h10 h12
 intro i15 x h
 simp only [drossref03_Name_l1] at h
 refine zs (zs (zr ?_))
 refine zU (zl (zn ?_))
 rcases zI h with ⟨h16, h⟩ | ⟨h16, h⟩
 refine zi (zk (zn (zs (zb (zs (zr ?_))))))
 obtain ⟨c17, h18, h18a, h18b, h⟩ := zX h
 refine zU ?_
 obtain ⟨r19, h20, h⟩ := zB h
 refine zc (drossref03_letter_con ((c17.toNat : Nat) : Int) _ h20) ?_
 refine zU ?_
 rcases zI h with ⟨h21, h⟩ | ⟨h21, h⟩
 refine zw 33 false ?_
 refine zh ?_
 refine zU (zl (zn ?_))
 refine zj (zk (yn (zn (zr ?_))))
 refine zU (zl ?_)
 cases h
 exact ⟨rfl, zE⟩
 refine zw 33 true ?_
 refine zg ?_
 refine zg ?_
 refine zg ?_
 refine zg ?_
 refine zg ?_
 rcases zI h with ⟨h22, h⟩ | ⟨h22, h⟩
 replace h := h.symm
 refine zw 38 true ?_
 refine zh ?_
 refine zg ?_
 refine zU (zl (zn ?_))
 refine zi (zs (zr ?_))
 refine zU (zl (zn (zq (yr (zt ?_)))))
 cases h
 exact ⟨rfl, zT Tryz.results87⟩
 refine zw 38 false ?_
 refine zg ?_
 refine zg ?_
 refine zg ?_
 refine zg ?_
 refine zg ?_
 refine zU (zl (zn ?_))
 rcases zI h with ⟨h23, h⟩ | ⟨h23, h⟩
 refine zi (zs (zr ?_))
 refine zU (zl (zn (zq (yr (zt ?_)))))
 cases h
 exact ⟨rfl, zT Tryz.results87⟩
 refine zj (zk (yn (zn (zr ?_))))
 refine zU (zl ?_)
 cases h
 exact ⟨rfl, zE⟩
 refine zj (zx (ze ?_))
 cases h
 exact ⟨rfl, zE⟩
 rcases o11 with ⟨⟩ | r24
 try simp only at h
 refine zA (yh (zn (zs (zr ?_))))
 refine zU (zl (zn (zq ?_)))
 cases h
 exact zT Tryz.results87
 try simp only at h
 refine zZ fun s hq => ?_
 refine yr (zt ?_)
 cases h
 exact hq
 refine zw 18 true ?_
 refine zh ?_
 refine zU (zl (zn ?_))
 refine zi (zs (zr ?_))
 refine zU (zl (zn (zq (zt ?_))))
 cases h
 exact zT Tryz.results87
end Go.Proofs.YtbiklagfjeileaaGreat
set_option linter.unusedVariables false
set_option linter.unusedSimpArgs false
namespace Go.Proofs.YtbiklagfjeileaaGreat
open Go Go.Ab
set_option maxHeartbeats 4000000 in
theorem drossref03_Attr_con {D : Prop} (l1 : List (List UInt8)) (n2 : List UInt8) (r3 : Int) (h : drossref03_Attr l1 n2 = some r3) : Con D Tryz.prog 129 [(.slc (List.map PV.str l1)), (.str n2)] (.int .i64 r3) := by
 refine zP Tryz.call129 Tryz.func129 rfl Tryz.ntmps129 fun X w => ?_
 simp only [drossref03_Attr] at h
 refine zs (zr ?_)
 refine zU (zl (zn (zs (zs (zr ?_)))))
 refine zU (zl (zn (zb ?_)))
 obtain ⟨o4, h5, h⟩ := zB h
 refine zO (fun (s : Int) => ⟨[(0, .p (.slc (List.map PV.str l1))), (1, .p (.str n2)), (5, .p (.int .i64 s))], []⟩) (fun (o : (Unit) ⊕ (Int)) => match o with | .inl o6 => tE (cX Tryz.f129 X w D) (.exit 0) ⟨[], []⟩ | .inr o7 => tR Tryz.prog Tryz.f129 (.int .i64 o7)) h5 ?_ ?_
 clear h h5
 intro i8 x h
 simp only [drossref03_Attr_l1] at h
 refine zs (zs (zr ?_))
 refine zU (zl (zn ?_))
 rcases zI h with ⟨h9, h⟩ | ⟨h9, h⟩
 refine zi (zk (zn (zs (zb (zs (zr ?_))))))
 obtain ⟨x10, h11, h11a, h11b, h⟩ := zX h
 refine zU (zl (zn ?_))
 rcases zI h with ⟨h12, h⟩ | ⟨h12, h⟩
 refine zi (zs (zr ?_))
 refine zU (zl (zn (zq (yr (zt ?_)))))
 cases h
 exact ⟨rfl, zT Tryz.results129⟩
 refine zj (zk (yn (zn (zr ?_))))
 refine zU (zl ?_)
 cases h
 exact ⟨rfl, zE⟩
 refine zj (zx (ze ?_))
 cases h
 exact ⟨rfl, zE⟩
 rcases o4 with ⟨⟩ | r13
 try simp only at h
 refine zA (yh (zn (zs (zr ?_))))
 refine zU (zl (zn (zq ?_)))
 cases h
 exact zT Tryz.results129
 try simp only at h
 refine zZ fun s hq => ?_
 refine yr (zt ?_)
 cases h
 exact hq
end Go.Proofs.YtbiklagfjeileaaGreat
set_option linter.unusedVariables false
set_option linter.unusedSimpArgs false
namespace Go.Proofs.YtbiklagfjeileaaGreat
open Go Go.Ab
set_option maxRecDepth 20000 in
set_option maxHeartbeats 4000000 in
theorem drossref03_Names_con {D : Prop} (l1 : List (List UInt8)) (r2 : Bool) (h : drossref03_Names l1 = some r2) : Con D Tryz.prog 88 [(.slc (List.map PV.str l1))] (.bool r2) := by
 refine zP Tryz.call88 Tryz.func88 rfl Tryz.ntmps88 fun X w => ?_
 simp only [drossref03_Names] at h
 refine zs (zr ?_)
 refine zU (zl (zn (zs (zs (zr ?_)))))
 refine zU (zl (zn (zb ?_)))
 obtain ⟨o3, h4, h⟩ := zB h
 refine zO (fun (s : Int) => ⟨[(0, .p (.slc (List.map PV.str l1))), (3, .p (.int .i64 s))], []⟩) (fun (o : (Unit) ⊕ (Bool)) => match o with | .inl o5 => tE (cX Tryz.f88 X w D) (.exit 0) ⟨[], []⟩ | .inr o6 => tR Tryz.prog Tryz.f88 (.bool o6)) h4 ?_ ?_
 clear h h4
 intro i7 x h
 simp only [drossref03_Names_l1] at h
 refine zs (zs (zr ?_))
 refine zU (zl (zn ?_))
 rcases zI h with ⟨h8, h⟩ | ⟨h8, h⟩
 refine zi (zk (zn (zs (zb (zs (zd ?_))))))
 obtain ⟨x9, h10, h10a, h10b, h⟩ := zX h
 refine yU ?_
 obtain ⟨r11, h12, h⟩ := zB h
 refine yc (drossref03_Name_con x9 _ h12) ?_
 refine yU ?_
 rcases zI h with ⟨h13, h⟩ | ⟨h13, h⟩
 refine yw 16 false ?_
 refine yg ?_
 refine yg ?_
 obtain ⟨h14, h⟩ := ite_some h
 obtain ⟨h15, h⟩ := ite_some h
 refine yg ?_
 refine yg ?_
 refine yg ?_
 refine yg ?_
 refine yg ?_
 obtain ⟨r16, h17, h⟩ := zB h
 refine yc (drossref03_Attr_con (l1.take (i7.toNat)) x9 _ h17) ?_
 refine yg ?_
 refine yU ?_
 refine yd (zn ?_)
 rcases zI h with ⟨h18, h⟩ | ⟨h18, h⟩
 refine zi (zs (zr ?_))
 refine zU (zl (zn (zq (yr (zt ?_)))))
 cases h
 exact ⟨rfl, zT Tryz.results88⟩
 refine zj (zk (yn (zn (zr ?_))))
 refine zU (zl ?_)
 cases h
 exact ⟨rfl, zE⟩
 refine yw 16 true ?_
 refine yk ?_
 refine yU ?_
 refine yd (zn ?_)
 refine zi (zs (zr ?_))
 refine zU (zl (zn (zq (yr (zt ?_)))))
 cases h
 exact ⟨rfl, zT Tryz.results88⟩
 refine zj (zx (ze ?_))
 cases h
 exact ⟨rfl, zE⟩
 rcases o3 with ⟨⟩ | r19
 try simp only at h
 refine zA (yh (zn (zs (zr ?_))))
 refine zU (zl (zn (zq ?_)))
 cases h
 exact zT Tryz.results88
 try simp only at h
 refine zZ fun s hq => ?_
 refine yr (zt ?_)
 cases h
 exact hq
end Go.Proofs.YtbiklagfjeileaaGreat
set_option linter.unusedVariables false
set_option linter.unusedSimpArgs false
namespace Go.Proofs.YtbiklagfjeileaaGreat
open Go Go.Ab
set_option maxHeartbeats 4000000 in
theorem drossref01_Valid_con {D : Prop} (v1 : Value) (r2 : Bool) (h : drossref01_Valid v1 = some r2) : Con D Tryz.prog 130 [(encValue v1)] (.bool r2) := by
 refine zP Tryz.call130 Tryz.func130 rfl Tryz.ntmps130 fun X w => ?_
 simp only [drossref01_Valid] at h
 refine zs (zr ?_)
 refine zU (zl (zn (zs (zs (zr ?_)))))
 refine zU (zl (zn (zb (zs (zr ?_)))))
 refine zU (zl (zn ?_))
 rcases zI h with ⟨h3, h⟩ | ⟨h3, h⟩
 refine zi (zs (zr ?_))
 refine zU ?_
 rcases zI h with ⟨h4, h⟩ | ⟨h4, h⟩
 replace h := h.symm
 refine zw 10 true ?_
 refine zg ?_
 refine zg ?_
 refine zg ?_
 refine zU (zl (zn (zq (yr (zt ?_)))))
 cases h
 exact zT Tryz.results130
 refine zw 10 false ?_
 refine zh ?_
 refine zU (zl (zn (zq (yr (zt ?_)))))
 cases h
 exact zT Tryz.results130
 refine zj (zs (zr ?_))
 refine zU (zl (zn ?_))
 rcases zI h with ⟨h5, h⟩ | ⟨h5, h⟩
 refine zi (zs (zr ?_))
 refine zU (zl (zn (zq (yr (zt ?_)))))
 cases h
 exact zT Tryz.results130
 refine zj (zs (zr ?_))
 refine zU (zl (zn ?_))
 rcases zI h with ⟨h6, h⟩ | ⟨h6, h⟩
 refine zi (zs (zr ?_))
 refine zU ?_
 rcases zI h with ⟨h7, h⟩ | ⟨h7, h⟩
 replace h := h.symm
 refine zw 25 true ?_
 refine zg ?_
 refine zg ?_
 refine zg ?_
 refine zg ?_
 refine zU (zl (zn (zq (yr (zt ?_)))))
 cases h
 exact zT Tryz.results130
 refine zw 25 false ?_
 refine zh ?_
 refine zU (zl (zn (zq (yr (zt ?_)))))
 cases h
 exact zT Tryz.results130
 refine zj (zk (yn (zn (zs (zr ?_)))))
 refine zU ?_
 rcases zI h with ⟨h8, h⟩ | ⟨h8, h⟩
 refine zw 34 true ?_
 refine zg ?_
 refine zg ?_
 refine zg ?_
 refine zU ?_
 rcases zI h with ⟨h9, h⟩ | ⟨h9, h⟩
 replace h := h.symm
 refine zw 39 true ?_
 refine zg ?_
 refine zg ?_
 refine zg ?_
 refine zU (zl (zn (zq ?_)))
 cases h
 exact zT Tryz.results130
 refine zw 39 false ?_
 refine zh ?_
 refine zU (zl (zn (zq ?_)))
 cases h
 exact zT Tryz.results130
 refine zw 34 false ?_
 refine zh ?_
 refine zU ?_
 refine zh ?_
 refine zU (zl (zn (zq ?_)))
 cases h
 exact zT Tryz.results130
end Go.Proofs.YtbiklagfjeileaaGreat
set_option linter.unusedVariables false
set_option linter.unusedSimpArgs false
namespace Go.Proofs.YtbiklagfjeileaaGreat
open Go Go.Ab
set_option maxHeartbeats 4000000 in
theorem drossref01_Valids_con {D : Prop} (l1 : List Value) (r2 : Bool) (h : drossref01_Valids l1 = some r2) : Con D Tryz.prog 89 [(.slc (List.map encValue l1))] (.bool r2) := by
 refine zP Tryz.call89 Tryz.func89 rfl Tryz.ntmps89 fun X w => ?_
 simp only [drossref01_Valids] at h
 refine zs (zr ?_)
 refine zU (zl (zn (zs (zs (zr ?_)))))
 refine zU (zl (zn (zb ?_)))
 obtain ⟨o3, h4, h⟩ := zB h
 refine zO (fun (s : Int) => ⟨[(0, .p (.slc (List.map encValue l1))), (3, .p (.int .i64 s))], []⟩) (fun (o : (Unit) ⊕ (Bool)) => match o with | .inl o5 => tE (cX Tryz.f89 X w D) (.exit 0) ⟨[], []⟩ | .inr o6 => tR Tryz.prog Tryz.f89 (.bool o6)) h4 ?_ ?_
 clear h h4
 intro i7 x h
 simp only [drossref01_Valids_l1] at h
 refine zs (zs (zr ?_))
 refine zU (zl (zn ?_))
 rcases zI h with ⟨h8, h⟩ | ⟨h8, h⟩
 refine zi (zk (zn (zs (zb (zs (zr ?_))))))
 obtain ⟨x9, h10, h10a, h10b, h⟩ := zX h
 refine zU ?_
 obtain ⟨r11, h12, h⟩ := zB h
 refine zc (drossref01_Valid_con x9 _ h12) ?_
 refine zU (zl (zn ?_))
 rcases zI h with ⟨h13, h⟩ | ⟨h13, h⟩
 refine zj (zk (yn (zn (zr ?_))))
 refine zU (zl ?_)
 cases h
 exact ⟨rfl, zE⟩
 refine zi (zs (zr ?_))
 refine zU (zl (zn (zq (yr (zt ?_)))))
 cases h
 exact ⟨rfl, zT Tryz.results89⟩
 refine zj (zx (ze ?_))
 cases h
 exact ⟨rfl, zE⟩
 rcases o3 with ⟨⟩ | r14
 try simp only at h
 refine zA (yh (zn (zs (zr ?_))))
 refine zU (zl (zn (zq ?_)))
 cases h
 exact zT Tryz.results89
 try simp only at h
 refine zZ fun s hq => ?_
 refine yr (zt ?_)
 cases h
 exact hq
end Go.Proofs.YtbiklagfjeileaaGreat
set_option linter.unusedVariables false
set_option linter.unusedSimpArgs false
namespace Go.Proofs.YtbiklagfjeileaaGreat
open Go Go.Ab
set_option maxHeartbeats 4000000 in
theorem drossref03_Valid_con {D : Prop} (t1 : Table) (r2 : Int) (h : drossref03_Valid t1 = some r2) : Con D Tryz.prog 60 [(encTable t1)] (.int .i64 r2) := by
 refine zP Tryz.call60 Tryz.func60 rfl Tryz.ntmps60 fun X w => ?_
 simp only [drossref03_Valid] at h
 refine zs (zr ?_)
 refine zU (zl (zn (zs (zs (zr ?_)))))
 refine zU ?_
 obtain ⟨r3, h4, h⟩ := zB h
 refine zc (drossref03_Name_con t1.Name _ h4) ?_
 refine zU (zl (zn ?_))
 rcases zI h with ⟨h5, h⟩ | ⟨h5, h⟩
 refine zj (zk (zn (zs (zs (zr ?_)))))
 refine zU ?_
 rcases zI h with ⟨h6, h⟩ | ⟨h6, h⟩
 refine zw 14 true ?_
 refine zh ?_
 refine zU (zl (zn ?_))
 refine zi (zs (zr ?_))
 refine zU (zl (zn (zq (zt ?_))))
 cases h
 exact zT Tryz.results60
 refine zw 14 false ?_
 refine zg ?_
 refine zg ?_
 refine zg ?_
 refine zg ?_
 refine zU (zl (zn ?_))
 rcases zI h with ⟨h7, h⟩ | ⟨h7, h⟩
 refine zi (zs (zr ?_))
 refine zU (zl (zn (zq (zt ?_))))
 cases h
 exact zT Tryz.results60
 refine zj (zk (zn (zs (zs (zr ?_)))))
 refine zU ?_
 obtain ⟨r8, h9, h⟩ := zB h
 refine zc (drossref03_Names_con t1.Attrs _ h9) ?_
 refine zU (zl (zn ?_))
 rcases zI h with ⟨h10, h⟩ | ⟨h10, h⟩
 refine zj (zk (zn (zs (zr ?_))))
 refine zU (zl (zn (zs (zs (zr ?_)))))
 refine zU (zl (zn (zb ?_)))
 obtain ⟨o11, h12, h⟩ := zB h
 refine zO (fun (s : Int × Int) => ⟨[(1, .loc 1 1 0 0), (3, .p (.int .i64 s.1)), (4, .p (.int .i64 s.2))], [(1, .arr 26 3 1 [.p (encTable t1)])]⟩) (fun (o : (Unit) ⊕ (Int)) => match o with | .inl o13 => tE (cX Tryz.f60 X w D) (.exit 0) ⟨[], []⟩ | .inr o14 => tR Tryz.prog Tryz.f60 (.int .i64 o14)) h12 ?_ ?_
 clear h h4 h5 h6 h7 h9 h10 h12
 intro s x h
 obtain ⟨b15, i16⟩ := s
 simp only [drossref03_Valid_l1] at h
 dsimp only
 refine zs (zs (zr ?_))
 refine zU (zl (zn ?_))
 rcases zI h with ⟨h17, h⟩ | ⟨h17, h⟩
 refine zi (zk (zn (zs (zb (zs (zr ?_))))))
 obtain ⟨x18, h19, h19a, h19b, h⟩ := zX h
 refine zU (zl (zn (zs (zs (zr ?_)))))
 refine zU (zl (zn ?_))
 rcases zI h with ⟨h20, h⟩ | ⟨h20, h⟩
 refine zi (zs (zr ?_))
 refine zU (zl (zn (zq (zt (yr (zt ?_))))))
 cases h
 exact ⟨rfl, zT Tryz.results60⟩
 refine zj (zk (zn (zs (zr ?_))))
 refine zU (zl (zn (zs (zs (zr ?_)))))
 refine zU (zl (zn ?_))
 rcases zI h with ⟨h21, h⟩ | ⟨h21, h⟩
 refine zi (zs (zr ?_))
 refine zU (zl (zn (zq (zt (yr (zt ?_))))))
 cases h
 exact ⟨rfl, zT Tryz.results60⟩
 refine zj (zk (zn (zs (zr ?_))))
 refine zU ?_
 obtain ⟨r22, h23, h⟩ := zB h
 refine zc (drossref01_Valids_con x18.Values _ h23) ?_
 refine zU (zl (zn ?_))
 rcases zI h with ⟨h24, h⟩ | ⟨h24, h⟩
 refine zj (zk (yn (zn (zr ?_))))
 refine zU (zl ?_)
 cases h
 exact ⟨rfl, zE⟩
 refine zi (zs (zr ?_))
 refine zU (zl (zn (zq (yr (zt ?_)))))
 cases h
 exact ⟨rfl, zT Tryz.results60⟩
 refine zj (zx (ze ?_))
 cases h
 exact ⟨rfl, zE⟩
 rcases o11 with ⟨⟩ | r25
 try simp only at h
 refine zA (yh (zn (zs (zr ?_))))
 refine zU (zl (zn (zq ?_)))
 cases h
 exact zT Tryz.results60
 try simp only at h
 refine zZ fun s hq => ?_
 refine yr (zt ?_)
 cases h
 exact hq
 refine zi (zs (zr ?_))
 refine zU (zl (zn (zq (zt ?_))))
 cases h
 exact zT Tryz.results60
 refine zi (zs (zr ?_))
 refine zU (zl (zn (zq (zt ?_))))
 cases h
 exact zT Tryz.results60
end Go.Proofs.YtbiklagfjeileaaGreat
set_option linter.unusedVariables false
set_option linter.unusedSimpArgs false
namespace Go.Proofs.YtbiklagfjeileaaGreat
open Go Go.Ab
set_option maxHeartbeats 4000000 in
theorem drossref03_Find_con {D : Prop} (t1 : Table) (i2 : Int) (r3 : Int × Bool) (h : drossref03_Find t1 i2 = some r3) : Con D Tryz.prog 61 [(encTable t1), (.int .i64 i2)] (.tup [(.int .i64 r3.1), (.bool r3.2)]) := by
 refine zP Tryz.call61 Tryz.func61 rfl Tryz.ntmps61 fun X w => ?_
 simp only [drossref03_Find] at h
 refine zs (zr ?_)
 refine zU (zl (zn (zs (zs (zr ?_)))))
 refine zU (zl (zn (zb ?_)))
 obtain ⟨o4, h5, h⟩ := zB h
 refine zO (fun (s : Int) => ⟨[(1, .p (.int .i64 i2)), (2, .loc 2 1 0 0), (6, .p (.int .i64 s))], [(2, .arr 26 3 1 [.p (encTable t1)])]⟩) (fun (o : (Unit) ⊕ (Int × Bool)) => match o with | .inl o6 => tE (cX Tryz.f61 X w D) (.exit 0) ⟨[], []⟩ | .inr o7 => tR Tryz.prog Tryz.f61 (.tup [(.int .i64 o7.1), (.bool o7.2)])) h5 ?_ ?_
 clear h h5
 intro i8 x h
 simp only [drossref03_Find_l1] at h
 refine zs (zs (zr ?_))
 refine zU (zl (zn ?_))
 rcases zI h with ⟨h9, h⟩ | ⟨h9, h⟩
 refine zi (zk (zn (zs (zb (zs (zr ?_))))))
 obtain ⟨x10, h11, h11a, h11b, h⟩ := zX h
 refine zU (zl (zn ?_))
 rcases zI h with ⟨h12, h⟩ | ⟨h12, h⟩
 refine zi (zs (zr ?_))
 refine zU (zl (zn (zq (yr (zt ?_)))))
 cases h
 exact ⟨rfl, zT Tryz.results61⟩
 refine zj (zk (yn (zn (zr ?_))))
 refine zU (zl ?_)
 cases h
 exact ⟨rfl, zE⟩
 refine zj (zx (ze ?_))
 cases h
 exact ⟨rfl, zE⟩
 rcases o4 with ⟨⟩ | r13
 try simp only at h
 refine zA (yh (zn (zs (zr ?_))))
 refine zU (zl (zn (zq ?_)))
 cases h
 exact zT Tryz.results61
 try simp only at h
 refine zZ fun s hq => ?_
 refine yr (zt ?_)
 cases h
 exact hq
end Go.Proofs.YtbiklagfjeileaaGreat
set_option linter.unusedVariables false
set_option linter.unusedSimpArgs false
namespace Go.Proofs.YtbiklagfjeileaaGreat
open Go Go.Ab
set_option maxHeartbeats 4000000 in
theorem drossref04_zero_con {D : Prop} (a1 : Drossref04_Wide) (r2 : Bool) (h : drossref04_zero a1 = some r2) : Con D Tryz.prog 158 [(encDrossref04_Wide a1)] (.bool r2) := by
 refine zP Tryz.call158 Tryz.func158 rfl Tryz.ntmps158 fun X w => ?_
 simp only [drossref04_zero] at h
 refine zs (zr ?_)
 refine zU (zl (zn (zs (zr ?_))))
 refine zU ?_
 rcases zI h with ⟨h3, h⟩ | ⟨h3, h⟩
 replace h := h.symm
 refine zw 6 true ?_
 refine zg ?_
 refine zg ?_
 refine zg ?_
 refine zU (zl (zn (zq ?_)))
 cases h
 exact zT Tryz.results158
 refine zw 6 false ?_
 refine zh ?_
 refine zU (zl (zn (zq ?_)))
 cases h
 exact zT Tryz.results158
end Go.Proofs.YtbiklagfjeileaaGreat
set_option linter.unusedVariables false
set_option linter.unusedSimpArgs false
namespace Go.Proofs.YtbiklagfjeileaaGreat
open Go Go.Ab
set_option maxRecDepth 20000 in
set_option maxHeartbeats 4000000 in
theorem drossref04_less_con {D : Prop} (a1 : Drossref04_Wide) (b2 : Drossref04_Wide) (r3 : Bool) (h : drossref04_less a1 b2 = some r3) : Con D Tryz.prog 160 [(encDrossref04_Wide a1), (encDrossref04_Wide b2)] (.bool r3) := by
 refine zP Tryz.call160 Tryz.func160 rfl Tryz.ntmps160 fun X w => ?_
 simp only [drossref04_less] at h
 refine zs (zr ?_)
 refine zU (zl (zn (zs (zr ?_))))
 refine zU ?_
 rcases zI h with ⟨h4, h⟩ | ⟨h4, h⟩
 refine zw 10 true ?_
 refine zh ?_
 refine zU (zl (zn (zq ?_)))
 cases h
 exact zT Tryz.results160
 refine zw 10 false ?_
 refine zg ?_
 refine zg ?_
 refine zg ?_
 refine zg ?_
 refine zg ?_
 refine zg ?_
 rcases zI h with ⟨h5, h⟩ | ⟨h5, h⟩
 replace h := h.symm
 refine zw 16 true ?_
 refine zg ?_
 refine zg ?_
 refine zg ?_
 refine zg ?_
 refine zg ?_
 refine zg ?_
 refine zU (zl (zn (zq ?_)))
 cases h
 exact zT Tryz.results160
 replace h := h.symm
 refine zw 16 false ?_
 refine zh ?_
 refine zg ?_
 refine zU (zl (zn (zq ?_)))
 cases h
 exact zT Tryz.results160
end Go.Proofs.YtbiklagfjeileaaGreat
set_option linter.unusedVariables false
set_option linter.unusedSimpArgs false
namespace Go.Proofs.YtbiklagfjeileaaGreat
open Go Go.Ab
set_option maxHeartbeats 4000000 in
theorem drossref04_plus_con {D : Prop} (a1 : Drossref04_Wide) (b2 : Drossref04_Wide) (r3 : Drossref04_Wide) (h : drossref04_plus a1 b2 = some r3) : Con D Tryz.prog 168 [(encDrossref04_Wide a1), (encDrossref04_Wide b2)] (encDrossref04_Wide r3) := by
 refine zP Tryz.call168 Tryz.func168 rfl Tryz.ntmps168 fun X w => ?_
 simp only [drossref04_plus] at h
 refine zs (zr ?_)
 refine zU (zl (zn (zs (zr ?_))))
 refine zU ?_
 obtain ⟨r4, h5, h⟩ := zB h
 refine zE3 (add_run ext171 h5) ?_
 refine zU (zl (zn (zs (zr ?_))))
 refine zU ?_
 obtain ⟨r6, h7, h⟩ := zB h
 refine zE3 (add_run ext171 h7) ?_
 refine zU (zl (zn (zs (zr ?_))))
 refine zU (zl (zn (zq ?_)))
 cases h
 exact zT Tryz.results168
end Go.Proofs.YtbiklagfjeileaaGreat
set_option linter.unusedVariables false
set_option linter.unusedSimpArgs false
namespace Go.Proofs.YtbiklagfjeileaaGreat
open Go Go.Ab
set_option maxHeartbeats 4000000 in
theorem drossref04_minus_con {D : Prop} (a1 : Drossref04_Wide) (b2 : Drossref04_Wide) (r3 : Drossref04_Wide) (h : drossref04_minus a1 b2 = some r3) : Con D Tryz.prog 169 [(encDrossref04_Wide a1), (encDrossref04_Wide b2)] (encDrossref04_Wide r3) := by
 refine zP Tryz.call169 Tryz.func169 rfl Tryz.ntmps169 fun X w => ?_
 simp only [drossref04_minus] at h
 refine zs (zr ?_)
 refine zU (zl (zn (zs (zr ?_))))
 refine zU ?_
 obtain ⟨r4, h5, h⟩ := zB h
 refine zE3 (sub_run ext172 h5) ?_
 refine zU (zl (zn (zs (zr ?_))))
 refine zU ?_
 obtain ⟨r6, h7, h⟩ := zB h
 refine zE3 (sub_run ext172 h7) ?_
 refine zU (zl (zn (zs (zr ?_))))
 refine zU (zl (zn (zq ?_)))
 cases h
 exact zT Tryz.results169
end Go.Proofs.YtbiklagfjeileaaGreat
set_option linter.unusedVariables false
set_option linter.unusedSimpArgs false
namespace Go.Proofs.YtbiklagfjeileaaGreat
open Go Go.Ab
set_option maxRecDepth 20000 in
set_option maxHeartbeats 4000000 in
theorem drossref04_parts_con {D : Prop} (a1 : Drossref04_Wide) (b2 : Drossref04_Wide) (r3 : Drossref04_Wide × Drossref04_Wide) (h : drossref04_parts a1 b2 = some r3) : Con D Tryz.prog 159 [(encDrossref04_Wide a1), (encDrossref04_Wide b2)] (.tup [(encDrossref04_Wide r3.1), (encDrossref04_Wide r3.2)]) := by
 refine zP Tryz.call159 Tryz.func159 rfl Tryz.ntmps159 fun X w => ?_
 simp only [drossref04_parts] at h
 refine zs (zr ?_)
 refine zU (zl (zn (zs (zr ?_))))
 refine zU (zl (zn (zs (zs (zr ?_)))))
 refine zU (zl (zn (zb ?_)))
 obtain ⟨o4, h5, h⟩ := zB h
 refine zO (fun (s : Drossref04_Wide × Drossref04_Wide × Int) => ⟨[(2, .loc 2 1 0 0), (3, .loc 3 1 0 0), (4, .loc 4 1 0 0), (5, .loc 5 1 0 0), (6, .loc 6 1 0 0), (7, .loc 7 1 0 0), (8, .p (.int .i64 s.2.2))], [(2, .arr 147 2 1 [.p (encDrossref04_Wide a1)]), (3, .arr 147 2 1 [.p (encDrossref04_Wide b2)]), (4, .arr 147 2 1 [.p (.agg [.int .u64 0, .int .u64 0])]), (5, .arr 147 2 1 [.p (.agg [.int .u64 0, .int .u64 0])]), (6, .arr 147 2 1 [.p (encDrossref04_Wide s.1)]), (7, .arr 147 2 1 [.p (encDrossref04_Wide s.2.1)])]⟩) (fun (o6 : Drossref04_Wide × Drossref04_Wide) => tE (cX Tryz.f159 X w D) (.exit 0) ⟨[(4, .loc 4 1 0 0), (5, .loc 5 1 0 0), (6, .loc 6 1 0 0), (7, .loc 7 1 0 0)], [(4, .arr 147 2 1 [.p (.agg [.int .u64 0, .int .u64 0])]), (5, .arr 147 2 1 [.p (.agg [.int .u64 0, .int .u64 0])]), (6, .arr 147 2 1 [.p (encDrossref04_Wide o6.1)]), (7, .arr 147 2 1 [.p (encDrossref04_Wide o6.2)])]⟩) h5 ?_ ?_
 clear h h5
 intro s x h
 obtain ⟨q7, r8, i9⟩ := s
 simp only [drossref04_parts_l1] at h
 dsimp only
 refine zs (zs (zr ?_))
 refine zU (zl (zn ?_))
 rcases zI h with ⟨h10, h⟩ | ⟨h10, h⟩
 refine zi (zk (zn (zs (zb (zs (zr ?_))))))
 refine zU (zl (zn (zs (zs (zr ?_)))))
 refine zU (zl (zn ?_))
 rcases zI h with ⟨h11, h⟩ | ⟨h11, h⟩
 refine zi (zr ?_)
 refine zU (zl (zn (zs (zr ?_))))
 refine zU ?_
 obtain ⟨r12, h13, h⟩ := zB h
 refine zc (drossref04_plus_con r8 r8 _ h13) ?_
 refine zU (zl (zn (zs (zd ?_))))
 obtain ⟨h14, h⟩ := ite_none h
 refine yU ?_
 refine yd (zn (zs (zr ?_)))
 refine zU ?_
 obtain ⟨r15, h16, h⟩ := zB h
 refine zc (drossref04_plus_con q7 q7 _ h16) ?_
 refine zU (zl (zn (zs (zr ?_))))
 refine zU ?_
 obtain ⟨r17, h18, h⟩ := zB h
 refine zc (drossref04_less_con (Drossref04_Wide.mk r12.Hi (IntKind.u64.wrap (r12.Lo + (Int.tmod (Int.fdiv a1.Hi (2 ^ (min ((Int.tmod i9 64)).toNat 64))) 2)))) b2 _ h18) ?_
 refine zU (zl (zn ?_))
 rcases zI h with ⟨h19, h⟩ | ⟨h19, h⟩
 refine zj (zk (yn (zn (zr ?_))))
 refine zU (zl ?_)
 cases h
 exact ⟨rfl, zE⟩
 refine zi (zs (zr ?_))
 refine zU ?_
 obtain ⟨r20, h21, h⟩ := zB h
 refine zc (drossref04_minus_con (Drossref04_Wide.mk r12.Hi (IntKind.u64.wrap (r12.Lo + (Int.tmod (Int.fdiv a1.Hi (2 ^ (min ((Int.tmod i9 64)).toNat 64))) 2)))) b2 _ h21) ?_
 refine zU (zl (zn (zr ?_)))
 refine zU (zl (yn (zn (zr ?_))))
 refine zU (zl ?_)
 cases h
 exact ⟨rfl, zE⟩
 refine zj (zk (zn (zs (zr ?_))))
 refine zU ?_
 obtain ⟨r22, h23, h⟩ := zB h
 refine zc (drossref04_plus_con r8 r8 _ h23) ?_
 refine zU (zl (zn (zs (zd ?_))))
 obtain ⟨h24, h⟩ := ite_none h
 refine yU ?_
 refine yd (zn (zs (zr ?_)))
 refine zU ?_
 obtain ⟨r25, h26, h⟩ := zB h
 refine zc (drossref04_plus_con q7 q7 _ h26) ?_
 refine zU (zl (zn (zs (zr ?_))))
 refine zU ?_
 obtain ⟨r27, h28, h⟩ := zB h
 refine zc (drossref04_less_con (Drossref04_Wide.mk r22.Hi (IntKind.u64.wrap (r22.Lo + (Int.tmod (Int.fdiv a1.Lo (2 ^ (min ((Int.tmod i9 64)).toNat 64))) 2)))) b2 _ h28) ?_
 refine zU (zl (zn ?_))
 rcases zI h with ⟨h29, h⟩ | ⟨h29, h⟩
 refine zj (zk (yn (zn (zr ?_))))
 refine zU (zl ?_)
 cases h
 exact ⟨rfl, zE⟩
 refine zi (zs (zr ?_))
 refine zU ?_
 obtain ⟨r30, h31, h⟩ := zB h
 refine zc (drossref04_minus_con (Drossref04_Wide.mk r22.Hi (IntKind.u64.wrap (r22.Lo + (Int.tmod (Int.fdiv a1.Lo (2 ^ (min ((Int.tmod i9 64)).toNat 64))) 2)))) b2 _ h31) ?_
 refine zU (zl (zn (zr ?_)))
 refine zU (zl (yn (zn (zr ?_))))
 refine zU (zl ?_)
 cases h
 exact ⟨rfl, zE⟩
 refine zj (zx (ze ?_))
 cases h
 exact ⟨rfl, zE⟩
 obtain ⟨q32, r33⟩ := o4
 try simp only at h
 refine zA (yh (zn (zs (zd ?_))))
 refine yU ?_
 refine yd (zn (zq ?_))
 cases h
 exact zT Tryz.results159
end Go.Proofs.YtbiklagfjeileaaGreat
set_option linter.unusedVariables false
set_option linter.unusedSimpArgs false
namespace Go.Proofs.YtbiklagfjeileaaGreat
open Go Go.Ab
set_option maxHeartbeats 4000000 in
theorem drossref04_build_con {D : Prop} (n1 : Bool) (n2 : Drossref04_Wide) (d3 : Drossref04_Wide) (r4 : Ratio × Int) (h : drossref04_build n1 n2 d3 = some r4) : Con D Tryz.prog 131 [(.bool n1), (encDrossref04_Wide n2), (encDrossref04_Wide d3)] (.tup [(encRatio r4.1), (.int .i64 r4.2)]) := by
 refine zP Tryz.call131 Tryz.func131 rfl Tryz.ntmps131 fun X w => ?_
 simp only [drossref04_build] at h
 refine zs (zr ?_)
 refine zU (zl (zn (zs (zd ?_))))
 refine yU ?_
 refine yd (zn (zs (zb ?_)))
 obtain ⟨x5, h6, h⟩ := zB h
 refine zO (fun (s : Drossref04_Wide × Drossref04_Wide) => ⟨[(0, .p (.bool n1)), (4, .loc 4 1 0 0), (5, .loc 5 1 0 0), (6, .loc 6 1 0 0), (8, .loc 8 1 0 0), (9, .loc 9 1 0 0)], [(4, .arr 147 2 1 [.p (encDrossref04_Wide n2)]), (5, .arr 147 2 1 [.p (encDrossref04_Wide d3)]), (6, .arr 46 2 1 [.p (.agg [.int .i64 0, .int .i64 0])]), (8, .arr 147 2 1 [.p (encDrossref04_Wide s.1)]), (9, .arr 147 2 1 [.p (encDrossref04_Wide s.2)])]⟩) (fun (o7 : Drossref04_Wide) => tE (cX Tryz.f131 X w D) (.exit 0) ⟨[(0, .p (.bool n1)), (4, .loc 4 1 0 0), (5, .loc 5 1 0 0), (6, .loc 6 1 0 0), (8, .loc 8 1 0 0)], [(4, .arr 147 2 1 [.p (encDrossref04_Wide n2)]), (5, .arr 147 2 1 [.p (encDrossref04_Wide d3)]), (6, .arr 46 2 1 [.p (.agg [.int .i64 0, .int .i64 0])]), (8, .arr 147 2 1 [.p (encDrossref04_Wide o7)])]⟩) h6 ?_ ?_
 clear h h6
 intro s x h
 obtain ⟨x8, y9⟩ := s
 simp only [drossref04_build_l1] at h
 dsimp only
 refine zs (zs (zr ?_))
 refine zU ?_
 obtain ⟨r10, h11, h⟩ := zB h
 refine zc (drossref04_zero_con y9 _ h11) ?_
 refine zU (zl (zn ?_))
 rcases zI h with ⟨h12, h⟩ | ⟨h12, h⟩
 refine zj (zx (ze ?_))
 cases h
 exact ⟨rfl, zE⟩
 refine zi (zk (zn (zb (zs (zr ?_)))))
 refine zU ?_
 obtain ⟨r13, h14, h⟩ := zB h
 refine zc (drossref04_parts_con x8 y9 _ h14) ?_
 refine zU (zl (zn (zd ?_)))
 refine yU ?_
 refine yd (yn ?_)
 cases h
 exact ⟨rfl, zE⟩
 try simp only at h
 refine zA (yh (zn (zs (zr ?_))))
 refine zU ?_
 obtain ⟨r15, h16, h⟩ := zB h
 refine zc (drossref04_parts_con n2 x5 _ h16) ?_
 refine zU (zl (zn (zs (zr ?_))))
 refine zU ?_
 obtain ⟨r17, h18, h⟩ := zB h
 refine zc (drossref04_parts_con d3 x5 _ h18) ?_
 refine zU (zl (zn (zs (zr ?_))))
 refine zU (zl (zn (zs (zs (zr ?_)))))
 refine zU ?_
 obtain ⟨r19, h20, h⟩ := zB h
 refine zc (drossref04_less_con (Drossref04_Wide.mk 0 9223372036854775807) r15.1 _ h20) ?_
 refine zU ?_
 rcases zI h with ⟨h21, h⟩ | ⟨h21, h⟩
 refine zw 43 true ?_
 refine zh ?_
 refine zU (zl (zn ?_))
 refine zi (zs (zr ?_))
 refine zU (zl (zn (zq (zt ?_))))
 cases h
 exact zT Tryz.results131
 refine zw 43 false ?_
 refine zg ?_
 refine zg ?_
 obtain ⟨r22, h23, h⟩ := zB h
 refine zc (drossref04_less_con (Drossref04_Wide.mk 0 9223372036854775807) r17.1 _ h23) ?_
 refine zU (zl (zn ?_))
 rcases zI h with ⟨h24, h⟩ | ⟨h24, h⟩
 refine zi (zs (zr ?_))
 refine zU (zl (zn (zq (zt ?_))))
 cases h
 exact zT Tryz.results131
 refine zj (zk (zn (zs (zr ?_))))
 refine zU (zl (zn (zs (zs (zr ?_)))))
 refine zU (zl (zn ?_))
 rcases zI h with ⟨h25, h⟩ | ⟨h25, h⟩
 refine zi (zr ?_)
 refine zU (zl (zn (zs (zr ?_))))
 refine zU (zl (zn (zq ?_)))
 cases h
 exact zT Tryz.results131
 refine zj (zk (zn (zs (zr ?_))))
 refine zU (zl (zn (zq ?_)))
 cases h
 exact zT Tryz.results131
end Go.Proofs.YtbiklagfjeileaaGreat
set_option linter.unusedVariables false
set_option linter.unusedSimpArgs false
namespace Go.Proofs.YtbiklagfjeileaaGreat
open Go Go.Ab
set_option maxHeartbeats 4000000 in
theorem drossref04_size_con {D : Prop} (n1 : Int) (r2 : Drossref04_Wide) (h : drossref04_size n1 = some r2) : Con D Tryz.prog 132 [(.int .i64 n1)] (encDrossref04_Wide r2) := by
 refine zP Tryz.call132 Tryz.func132 rfl Tryz.ntmps132 fun X w => ?_
 simp only [drossref04_size] at h
 refine zs (zr ?_)
 refine zU (zl (zn (zs (zs (zr ?_)))))
 refine zU (zl (zn ?_))
 rcases zI h with ⟨h3, h⟩ | ⟨h3, h⟩
 refine zi (zs (zr ?_))
 refine zU (zl (zn (zq (zt ?_))))
 cases h
 exact zT Tryz.results132
 refine zj (zk (zn (zs (zr ?_))))
 refine zU (zl (zn (zq ?_)))
 cases h
 exact zT Tryz.results132
end Go.Proofs.YtbiklagfjeileaaGreat
set_option linter.unusedVariables false
set_option linter.unusedSimpArgs false
namespace Go.Proofs.YtbiklagfjeileaaGreat
open Go Go.Ab
set_option maxHeartbeats 4000000 in
theorem drossref04_Make_con {D : Prop} (n1 : Int) (d2 : Int) (r3 : Ratio × Int) (h : drossref04_Make n1 d2 = some r3) : Con D Tryz.prog 90 [(.int .i64 n1), (.int .i64 d2)] (.tup [(encRatio r3.1), (.int .i64 r3.2)]) := by
 refine zP Tryz.call90 Tryz.func90 rfl Tryz.ntmps90 fun X w => ?_
 simp only [drossref04_Make] at h
 refine zs (zr ?_)
 refine zU (zl (zn (zs (zs (zr ?_)))))
 refine zU (zl (zn ?_))
 rcases zI h with ⟨h4, h⟩ | ⟨h4, h⟩
 refine zi (zs (zr ?_))
 refine zU (zl (zn (zq (zt ?_))))
 cases h
 exact zT Tryz.results90
 refine zj (zk (zn (zs (zr ?_))))
 refine zU ?_
 obtain ⟨r5, h6, h⟩ := zB h
 refine zc (drossref04_size_con n1 _ h6) ?_
 refine zU ?_
 obtain ⟨r7, h8, h⟩ := zB h
 refine zc (drossref04_size_con d2 _ h8) ?_
 obtain ⟨r9, h10, h⟩ := zB h
 refine zc (drossref04_build_con (!((decide (n1 < 0)) == (decide (d2 < 0)))) r5 r7 _ h10) ?_
 refine zU (zl (zn (zq ?_)))
 cases h
 exact zT Tryz.results90
end Go.Proofs.YtbiklagfjeileaaGreat
set_option linter.unusedVariables false
set_option linter.unusedSimpArgs false
namespace Go.Proofs.YtbiklagfjeileaaGreat
open Go Go.Ab
set_option maxHeartbeats 4000000 in
theorem drossref04_Of_con {D : Prop} (n1 : Int) (d2 : Int) (r3 : Ratio) (h : drossref04_Of n1 d2 = some r3) : Con D Tryz.prog 62 [(.int .i64 n1), (.int .i64 d2)] (encRatio r3) := by
 refine zP Tryz.call62 Tryz.func62 rfl Tryz.ntmps62 fun X w => ?_
 simp only [drossref04_Of] at h
 refine zs (zr ?_)
 refine zU (zl (zn (zs (zr ?_))))
 refine zU ?_
 obtain ⟨r4, h5, h⟩ := zB h
 refine zc (drossref04_Make_con n1 d2 _ h5) ?_
 refine zU (zl (zn (zs (zs (zr ?_)))))
 refine zU (zl (zn ?_))
 rcases zI h with ⟨h6, h⟩ | ⟨h6, h⟩
 refine zi (zs (zr ?_))
 refine zU (zl (zn (zq (zt ?_))))
 cases h
 exact zT Tryz.results62
 refine zj (zk (zn (zs (zr ?_))))
 refine zU (zl (zn (zq ?_)))
 cases h
 exact zT Tryz.results62
end Go.Proofs.YtbiklagfjeileaaGreat
set_option linter.unusedVariables false
set_option linter.unusedSimpArgs false
namespace Go.Proofs.YtbiklagfjeileaaGreat
open Go Go.Ab
set_option maxRecDepth 20000 in
set_option maxHeartbeats 4000000 in
theorem drossref53_Reduction_con {D : Prop} (t1 : Table) (p2 : List Arr2_int64) (r3 : Ratio × Int) (h : drossref53_Reduction t1 p2 = some r3) : Con D Tryz.prog 27 [(encTable t1), (.slc (List.map encArr2_int64 p2))] (.tup [(encRatio r3.1), (.int .i64 r3.2)]) := by
 refine zP Tryz.call27 Tryz.func27 rfl Tryz.ntmps27 fun X w => ?_
 simp only [drossref53_Reduction] at h
 refine zs (zr ?_)
 refine zU (zl (zn (zs (zs (zr ?_)))))
 refine zU ?_
 obtain ⟨r4, h5, h⟩ := zB h
 refine zc (drossref03_Valid_con t1 _ h5) ?_
 refine zU (zl (zn (zs (zr ?_))))
 refine zU (zl (zn ?_))
 rcases zI h with ⟨h6, h⟩ | ⟨h6, h⟩
 refine zi (zs (zr ?_))
 refine zU (zl (zn (zq (zt ?_))))
 cases h
 exact zT Tryz.results27
 refine zj (zk (zn (zs (zs (zr ?_)))))
 refine zU (zl (zn ?_))
 rcases zI h with ⟨h7, h⟩ | ⟨h7, h⟩
 refine zi (zs (zr ?_))
 refine zU (zl (zn (zq (zt ?_))))
 cases h
 exact zT Tryz.results27
 refine zj (zk (zn (zs (zs (zr ?_)))))
 refine zU (zl (zn (zb ?_)))
 obtain ⟨o8, h9, h⟩ := zB h
 refine zO (fun (s : Int) => ⟨[(1, .p (.slc (List.map encArr2_int64 p2))), (2, .loc 2 1 0 0), (4, .loc 4 1 0 0), (7, .p (.int .i64 s))], [(2, .arr 26 3 1 [.p (encTable t1)]), (4, .arr 46 2 1 [.p (.agg [.int .i64 0, .int .i64 0])])]⟩) (fun (o : (Unit) ⊕ (Ratio × Int)) => match o with | .inl o10 => tE (cX Tryz.f27 X w D) (.exit 0) ⟨[(1, .p (.slc (List.map encArr2_int64 p2))), (2, .loc 2 1 0 0), (4, .loc 4 1 0 0)], [(2, .arr 26 3 1 [.p (encTable t1)]), (4, .arr 46 2 1 [.p (.agg [.int .i64 0, .int .i64 0])])]⟩ | .inr o11 => tR Tryz.prog Tryz.f27 (.tup [(encRatio o11.1), (.int .i64 o11.2)])) h9 ?_ ?_
 clear h h5 h6 h7 h9
 intro i12 x h
 simp only [drossref53_Reduction_l1] at h
 refine zs (zs (zr ?_))
 refine zU (zl (zn ?_))
 rcases zI h with ⟨h13, h⟩ | ⟨h13, h⟩
 refine zi (zk (zn (zs (zb (zs (zd ?_))))))
 obtain ⟨x14, h15, h15a, h15b, h⟩ := zX h
 refine yU ?_
 obtain ⟨r16, h17, h⟩ := zB h
 refine yc (drossref03_Find_con t1 x14.x0 _ h17) ?_
 refine yU ?_
 refine yd (zn (zs (zd ?_)))
 refine yU ?_
 obtain ⟨r18, h19, h⟩ := zB h
 refine yc (drossref03_Find_con t1 x14.x1 _ h19) ?_
 refine yU ?_
 refine yd (zn (zs (zd ?_)))
 refine yU ?_
 rcases zI h with ⟨h20, h⟩ | ⟨h20, h⟩
 refine yw 53 false ?_
 refine yg ?_
 refine yg ?_
 refine yU ?_
 rcases zI h with ⟨h21, h⟩ | ⟨h21, h⟩
 refine yw 57 false ?_
 refine yg ?_
 refine yg ?_
 refine yg ?_
 refine yg ?_
 refine yg ?_
 refine yg ?_
 refine yg ?_
 refine yg ?_
 refine yg ?_
 refine yg ?_
 refine yg ?_
 refine yU ?_
 refine yd (zn ?_)
 rcases zI h with ⟨h22, h⟩ | ⟨h22, h⟩
 refine zi (zs (zr ?_))
 refine zU (zl (zn (zq (yr (zt ?_)))))
 cases h
 exact ⟨rfl, zT Tryz.results27⟩
 refine zj (zk (yn (zn (zr ?_))))
 refine zU (zl ?_)
 cases h
 exact ⟨rfl, zE⟩
 refine yw 57 true ?_
 refine yk ?_
 refine yU ?_
 refine yd (zn ?_)
 refine zi (zs (zr ?_))
 refine zU (zl (zn (zq (yr (zt ?_)))))
 cases h
 exact ⟨rfl, zT Tryz.results27⟩
 refine yw 53 true ?_
 refine yk ?_
 refine yU ?_
 refine yk ?_
 refine yU ?_
 refine yd (zn ?_)
 refine zi (zs (zr ?_))
 refine zU (zl (zn (zq (yr (zt ?_)))))
 cases h
 exact ⟨rfl, zT Tryz.results27⟩
 refine zj (zx (ze ?_))
 cases h
 exact ⟨rfl, zE⟩
 rcases o8 with ⟨⟩ | r23
 try simp only at h
 refine zA (yh (zn (zs (zr ?_))))
 refine zU (zl (zn (zs (zs (zr ?_)))))
 refine zU (zl (zn ?_))
 rcases zI h with ⟨h24, h⟩ | ⟨h24, h⟩
 refine zi (zs (zr ?_))
 refine zU (zl (zn (zq (zt ?_))))
 cases h
 exact zT Tryz.results27
 refine zj (zk (zn (zs (zr ?_))))
 refine zU (zl (zn (zs (zr ?_))))
 refine zU ?_
 refine zM ⟨[(4, .loc 4 1 0 0), (13, .p (.int .i64 (IntKind.i64.wrap (Int.tdiv (IntKind.i64.wrap ((t1.Rows.length : Int) * (IntKind.i64.wrap ((t1.Rows.length : Int) - 1)))) 2)))), (82, .p (.int .i64 (IntKind.i64.wrap (Int.tdiv (IntKind.i64.wrap ((t1.Rows.length : Int) * (IntKind.i64.wrap ((t1.Rows.length : Int) - 1)))) 2)))), (84, .p (.slc (List.map (encL encArr2_int64) [p2])))], [(4, .arr 46 2 1 [.p (.agg [.int .i64 0, .int .i64 0])])]⟩ ?_
 obtain ⟨r25, h26, h⟩ := zB h
 refine zc (drossref53_Union_con [p2] _ h26) ?_
 refine zU ?_
 obtain ⟨r27, h28, h⟩ := zB h
 refine zc (drossref04_Of_con (IntKind.i64.wrap ((IntKind.i64.wrap (Int.tdiv (IntKind.i64.wrap ((t1.Rows.length : Int) * (IntKind.i64.wrap ((t1.Rows.length : Int) - 1)))) 2)) - (r25.length : Int))) (IntKind.i64.wrap (Int.tdiv (IntKind.i64.wrap ((t1.Rows.length : Int) * (IntKind.i64.wrap ((t1.Rows.length : Int) - 1)))) 2)) _ h28) ?_
 refine zU (zl (zn (zq ?_)))
 cases h
 exact zT Tryz.results27
 try simp only at h
 refine zZ fun s hq => ?_
 refine yr (zt ?_)
 cases h
 exact hq
end Go.Proofs.YtbiklagfjeileaaGreat
set_option linter.unusedVariables false
set_option linter.unusedSimpArgs false
namespace Go.Proofs.YtbiklagfjeileaaGreat
open Go Go.Ab
set_option maxRecDepth 20000 in
set_option maxHeartbeats 4000000 in
theorem drosslaw53_BlockingReduction_con (l1 : List (List UInt8)) (p2 : List Arr2_int64) (r3 : Bool) (h : drosslaw53_BlockingReduction l1 p2 = some r3) : Con False Tryz.prog 7 [(.slc (List.map PV.str l1)), (.slc (List.map encArr2_int64 p2))] (.bool r3) := by
 refine zP Tryz.call7 Tryz.func7 rfl Tryz.ntmps7 fun X w => ?_
 simp only [drosslaw53_BlockingReduction] at h
 refine zs (zr ?_)
 refine zU (zl (zn (zs (zr ?_))))
 refine zU ?_
 obtain ⟨r4, h5, h⟩ := zB h
 refine zc (drossref53_Table_con l1 _ h5) ?_
 refine zU (zl (zn (zs ?_)))
 obtain ⟨t6, h7, h⟩ := zB h
 refine zJ (fun (o8 : Bool) => tE (cX Tryz.f7 X w False) .normal ⟨[(1, .p (.slc (List.map encArr2_int64 p2))), (5, .loc 5 1 0 0), (26, .p (.bool o8))], [(5, .arr 26 3 1 [.p (encTable r4.1)])]⟩) t6 ?_ ?_
 replace h := h7
 clear h7
 refine zr ?_
 obtain ⟨r9, h10, h⟩ := zB h
 refine zc (drosslaw53_awake_con  _ h10) ?_
 refine zU ?_
 rcases zI h with ⟨h11, h⟩ | ⟨h11, h⟩
 refine zw 18 false ?_
 refine zg ?_
 refine zg ?_
 refine zU ?_
 rcases zI h with ⟨h12, h⟩ | ⟨h12, h⟩
 replace h := h.symm
 refine zw 22 false ?_
 refine zg ?_
 refine zg ?_
 refine zg ?_
 refine zU (zl ?_)
 cases h
 exact ⟨rfl, zE⟩
 refine zw 22 true ?_
 refine zh ?_
 refine zU (zl ?_)
 cases h
 exact ⟨rfl, zE⟩
 refine zw 18 true ?_
 refine zh ?_
 refine zU ?_
 refine zh ?_
 refine zU (zl ?_)
 cases h
 exact ⟨rfl, zE⟩
 try simp only at h
 refine zA (zn ?_)
 rcases zI h with ⟨h13, h⟩ | ⟨h13, h⟩
 refine zi (zs (zr ?_))
 obtain ⟨r14, h15, h⟩ := zB h
 refine zc (drosslaw53_awake_con  _ h15) ?_
 refine zU (zl (zn (zq (zt ?_))))
 cases h
 exact zT Tryz.results7
 refine zj (zk (zn (zs (zd ?_))))
 refine yU ?_
 obtain ⟨r16, h17, h⟩ := zB h
 refine yc (slices_Clone__2_int64_con p2 _ h17) ?_
 obtain ⟨r18, h19, h⟩ := zB h
 refine yc (blocking_Reduction_con r4.1 r16 _ h19) ?_
 refine yU ?_
 refine yd (zn (zs (zr ?_)))
 refine zU ?_
 obtain ⟨r20, h21, h⟩ := zB h
 refine zc (drossref53_Reduction_con r4.1 p2 _ h21) ?_
 refine zU (zl (zn (zs (zr ?_))))
 refine zU ?_
 rcases zI h with ⟨h22, h⟩ | ⟨h22, h⟩
 replace h := h.symm
 refine zw 44 true ?_
 refine zg ?_
 refine zg ?_
 refine zg ?_
 refine zU (zl (zn (zq ?_)))
 cases h
 exact zT Tryz.results7
 refine zw 44 false ?_
 refine zh ?_
 refine zU (zl (zn (zq ?_)))
 cases h
 exact zT Tryz.results7
end Go.Proofs.YtbiklagfjeileaaGreat
