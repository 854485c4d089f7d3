/- Each function of the program computes what its Lean function says, where that has a value. -/
import Derived.Shelf.SlSortCmp.NoneTotal
import Derived.Ground.SlsfProg
import Derived.Shelf.SortM.Plain
import Derived.Shelf.SortM.SortNone
import Derived.Ground.SlgmProg
import Derived.Shelf.Strings.Repeat
import Derived.Ground.NamesProg
import Derived.Shelf.Small.Strs
import Derived.Test.YtbiklagfjeileaaT1
import Derived.Test.YtbiklagfjeileaaL1
import Derived.Test.YtbiklagfjeileaaA2
set_option linter.unusedVariables false
set_option linter.unusedSimpArgs false
namespace Go.Proofs.Ytbiklagfjeileaa
open Go Go.Ab
theorem mixed : Try.prog.follows .mixedOrders = true := by kernel_rfl
@[reducible] noncomputable def cX (f : Func) (X : Nat → Prop) (w : World) (D : Prop) : Cx := ⟨Try.prog, f.ntmps, 0, X, [], fun _ => none, w, D⟩
theorem zd {N B : Nat} {X : Nat → Prop} {H0 : List (Nat × AO)} {inj0 : Inj} {w0 : World} {D : Prop} {Q : Exit → St → Prop} {st : St} {id : Nat} {l : List Oper} (h : DGo ⟨Try.prog, N, B, X, H0, inj0, w0, D⟩ l.toArray l st [] (DK ⟨Try.prog, N, B, X, H0, inj0, w0, D⟩ l.toArray Q)) (hs : slotsOk l.toArray = true := by kernel_rfl) : AWp ⟨Try.prog, N, B, X, H0, inj0, w0, D⟩ (.region id l.toArray true) Q st := awp_drawn_walk mixed hs h
theorem zdl (n : Nat) {N B : Nat} {X : Nat → Prop} {H0 : List (Nat × AO)} {inj0 : Inj} {w0 : World} {D : Prop} {Q : Exit → St → Prop} {st : St} {id : Nat} {l : List Oper} (h : DGo ⟨Try.prog, N, B, X, H0, inj0, w0, D⟩ l.toArray (l.take n) st [] (DKL ⟨Try.prog, N, B, X, H0, inj0, w0, D⟩ l.toArray (l.drop n) Q)) (hs : slotsOk l.toArray = true := by kernel_rfl) (hl : lastOk l.toArray n = true := by kernel_rfl) : AWp ⟨Try.prog, N, B, X, H0, inj0, w0, D⟩ (.region id l.toArray true) Q st := awp_drawn_last n mixed hs hl h
def encValue (x : Value) : PV := .agg [.int .i64 x.Kind, .int .i64 x.Num, .str x.Str]
@[go_sem] theorem encValue_fold (x : Value) : PV.agg [.int .i64 x.Kind, .int .i64 x.Num, .str x.Str] = encValue x := rfl
@[go_sem] theorem encValue_cells (x : Value) : (encValue x).cells = [.int .i64 x.Kind, .int .i64 x.Num, .str x.Str] := rfl
@[go_sem] theorem encValue_isAgg (x : Value) : (encValue x).isAgg = true := rfl
@[go_sem] theorem encValue_isTup (x : Value) : (encValue x).isTup = false := rfl
@[go_sem] theorem encValue_sl (l : List Value) : ((l.map encValue).all fun y => y.cells.length == 3) = true := by simp [encValue, PV.cells]
@[go_sem] theorem encValue_ok (l : List Value) : ((l.map encValue).map AV.p).all (elemOk 3) = true := elemOkAll_map _ _ _ fun _ => ⟨rfl, rfl⟩
@[go_sem] theorem encValue_flat (x : Value) : (encValue x).flat = true := rfl
def encRow (x : Row) : PV := .agg [.int .i64 x.ID, .slc (List.map encValue x.Values)]
@[go_sem] theorem encRow_fold (x : Row) : PV.agg [.int .i64 x.ID, .slc (List.map encValue x.Values)] = encRow x := rfl
@[go_sem] theorem encRow_cells (x : Row) : (encRow x).cells = [.int .i64 x.ID, .slc (List.map encValue x.Values)] := rfl
@[go_sem] theorem encRow_isAgg (x : Row) : (encRow x).isAgg = true := rfl
@[go_sem] theorem encRow_isTup (x : Row) : (encRow x).isTup = false := rfl
@[go_sem] theorem encRow_sl (l : List Row) : ((l.map encRow).all fun y => y.cells.length == 2) = true := by simp [encRow, PV.cells]
@[go_sem] theorem encRow_ok (l : List Row) : ((l.map encRow).map AV.p).all (elemOk 2) = true := elemOkAll_map _ _ _ fun _ => ⟨rfl, rfl⟩
def encTable (x : Table) : PV := .agg [.str x.Name, .slc (List.map PV.str x.Attrs), .slc (List.map encRow x.Rows)]
@[go_sem] theorem encTable_fold (x : Table) : PV.agg [.str x.Name, .slc (List.map PV.str x.Attrs), .slc (List.map encRow x.Rows)] = encTable x := rfl
@[go_sem] theorem encTable_cells (x : Table) : (encTable x).cells = [.str x.Name, .slc (List.map PV.str x.Attrs), .slc (List.map encRow x.Rows)] := rfl
@[go_sem] theorem encTable_isAgg (x : Table) : (encTable x).isAgg = true := rfl
@[go_sem] theorem encTable_isTup (x : Table) : (encTable x).isTup = false := rfl
@[go_sem] theorem encTable_sl (l : List Table) : ((l.map encTable).all fun y => y.cells.length == 3) = true := by simp [encTable, PV.cells]
@[go_sem] theorem encTable_ok (l : List Table) : ((l.map encTable).map AV.p).all (elemOk 3) = true := elemOkAll_map _ _ _ fun _ => ⟨rfl, rfl⟩
def encArr2_int64 (x : Arr2_int64) : PV := .agg [.int .i64 x.x0, .int .i64 x.x1]
@[go_sem] theorem encArr2_int64_fold (x : Arr2_int64) : PV.agg [.int .i64 x.x0, .int .i64 x.x1] = encArr2_int64 x := rfl
@[go_sem] theorem encArr2_int64_cells (x : Arr2_int64) : (encArr2_int64 x).cells = [.int .i64 x.x0, .int .i64 x.x1] := rfl
@[go_sem] theorem encArr2_int64_isAgg (x : Arr2_int64) : (encArr2_int64 x).isAgg = true := rfl
@[go_sem] theorem encArr2_int64_isTup (x : Arr2_int64) : (encArr2_int64 x).isTup = false := rfl
@[go_sem] theorem encArr2_int64_sl (l : List Arr2_int64) : ((l.map encArr2_int64).all fun y => y.cells.length == 2) = true := by simp [encArr2_int64, PV.cells]
@[go_sem] theorem encArr2_int64_ok (l : List Arr2_int64) : ((l.map encArr2_int64).map AV.p).all (elemOk 2) = true := elemOkAll_map _ _ _ fun _ => ⟨rfl, rfl⟩
@[go_sem] theorem encArr2_int64_flat (x : Arr2_int64) : (encArr2_int64 x).flat = true := rfl
def encArr2_uint8 (x : Arr2_uint8) : PV := .agg [.int .u8 x.x0, .int .u8 x.x1]
@[go_sem] theorem encArr2_uint8_fold (x : Arr2_uint8) : PV.agg [.int .u8 x.x0, .int .u8 x.x1] = encArr2_uint8 x := rfl
@[go_sem] theorem encArr2_uint8_cells (x : Arr2_uint8) : (encArr2_uint8 x).cells = [.int .u8 x.x0, .int .u8 x.x1] := rfl
@[go_sem] theorem encArr2_uint8_isAgg (x : Arr2_uint8) : (encArr2_uint8 x).isAgg = true := rfl
@[go_sem] theorem encArr2_uint8_isTup (x : Arr2_uint8) : (encArr2_uint8 x).isTup = false := rfl
@[go_sem] theorem encArr2_uint8_sl (l : List Arr2_uint8) : ((l.map encArr2_uint8).all fun y => y.cells.length == 2) = true := by simp [encArr2_uint8, PV.cells]
@[go_sem] theorem encArr2_uint8_ok (l : List Arr2_uint8) : ((l.map encArr2_uint8).map AV.p).all (elemOk 2) = true := elemOkAll_map _ _ _ fun _ => ⟨rfl, rfl⟩
@[go_sem] theorem encArr2_uint8_flat (x : Arr2_uint8) : (encArr2_uint8 x).flat = true := rfl
end Go.Proofs.Ytbiklagfjeileaa
set_option linter.unusedVariables false
set_option linter.unusedSimpArgs false
namespace Go.Proofs.Ytbiklagfjeileaa
open Go Go.Ab
set_option maxRecDepth 20000 in
set_option maxHeartbeats 4000000 in
theorem drossref53_Table_con {D : Prop} (l1 : List (List UInt8)) (r2 : Table × Bool) (h : drossref53_Table l1 = some r2) : Con D Try.prog 5 [(.slc (List.map PV.str l1))] (.tup [(encTable r2.1), (.bool r2.2)]) := by
 refine zP Try.call5 Try.func5 rfl Try.ntmps5 fun X w => ?_
 simp only [drossref53_Table] at h
 refine zs (zr ?_)
 refine zU (zl (zn (zs (zr ?_))))
 refine zU (zl (zn (zs (zs (zr ?_)))))
 refine zU (zl (zn (zb ?_)))
 obtain ⟨o3, h4, h⟩ := zB h
 refine zO (fun (s : List Row × Int) => ⟨[(0, .p (.slc (List.map PV.str l1))), (2, .loc 2 1 0 0), (4, .loc 4 1 0 0), (5, .p (.int .i64 s.2))], [(2, .arr 25 3 1 [.agg [.p (.str []), .nils, .nils]]), (4, .arr 25 3 1 [.agg [.p (.str [114]), .own 7 1 0 ([[97]]).length, .own 72 1 0 s.1.length]]), (7, .arr 9 1 1 (List.map AV.p (List.map PV.str [[97]]))), (72, .arr 35 2 1 (List.map AV.p (List.map encRow s.1)))]⟩) (fun (o : (List Row) ⊕ (Table × Bool)) => match o with | .inl o5 => tE (cX Try.f5 X w D) (.exit 0) ⟨[(0, .p (.slc (List.map PV.str l1))), (2, .loc 2 1 0 0), (4, .loc 4 1 0 0)], [(2, .arr 25 3 1 [.agg [.p (.str []), .nils, .nils]]), (4, .arr 25 3 1 [.agg [.p (.str [114]), .own 7 1 0 ([[97]]).length, .own 72 1 0 o5.length]]), (7, .arr 9 1 1 (List.map AV.p (List.map PV.str [[97]]))), (72, .arr 35 2 1 (List.map AV.p (List.map encRow o5)))]⟩ | .inr o6 => tR Try.prog Try.f5 (.tup [(encTable o6.1), (.bool o6.2)])) h4 ?_ ?_
 clear h h4
 intro s x h
 obtain ⟨t7, i8⟩ := s
 simp only [drossref53_Table_l1] at h
 dsimp only
 refine zs (zs (zr ?_))
 refine zU (zl (zn ?_))
 rcases zI h with ⟨h9, h⟩ | ⟨h9, h⟩
 refine zi (zk (zn (zs (zb (zs (zs (zr ?_)))))))
 obtain ⟨x10, h11, h11a, h11b, h⟩ := zX h
 refine zU (zl (zn ?_))
 rcases zI h with ⟨h12, h⟩ | ⟨h12, h⟩
 refine zi (zs (zr ?_))
 refine zU (zl (zn (zq (zt (yr (zt ?_))))))
 cases h
 exact ⟨rfl, zT Try.results5⟩
 refine zj (zk (zn (zs (zr ?_))))
 refine zU (zl (zn (zs (zs (zr ?_)))))
 refine zU (zl (zn ?_))
 rcases zI h with ⟨h13, h⟩ | ⟨h13, h⟩
 refine zi (zr ?_)
 refine zU (zl (zn (zr ?_)))
 refine zW 9 ?_
 refine zM ⟨[(0, .p (.slc (List.map PV.str l1))), (2, .loc 2 1 0 0), (4, .loc 4 1 0 0), (5, .p (.int .i64 i8)), (64, .own 72 1 0 t7.length), (71, .own 71 1 0 1)], [(2, .arr 25 3 1 [.agg [.p (.str []), .nils, .nils]]), (4, .arr 25 3 1 [.agg [.p (.str [114]), .own 7 1 0 ([[97]]).length, .own 72 1 0 t7.length]]), (7, .arr 9 1 1 (List.map AV.p (List.map PV.str [[97]]))), (71, .arr 35 2 1 [.p (.agg [.int .i64 (IntKind.i64.wrap (1 + (IntKind.i64.wrap (2 * i8)))), .slc (List.map encValue [(Value.mk 0 0 [])])])]), (72, .arr 35 2 1 (List.map AV.p (List.map encRow t7)))]⟩ ?_
 obtain ⟨h14, h⟩ := ite_some h
 refine zU (zl (yn (zn (zr ?_))))
 refine zU (zl ?_)
 cases h
 exact ⟨rfl, zE⟩
 refine zj ?_
 obtain ⟨t15, h16, h⟩ := zB h
 refine zJ (fun (o17 : Bool) => tE (cX Try.f5 X w D) .normal ⟨[(0, .p (.slc (List.map PV.str l1))), (2, .loc 2 1 0 0), (4, .loc 4 1 0 0), (5, .p (.int .i64 i8)), (6, .loc 6 1 0 0), (54, .p (.bool o17))], [(2, .arr 25 3 1 [.agg [.p (.str []), .nils, .nils]]), (4, .arr 25 3 1 [.agg [.p (.str [114]), .own 7 1 0 ([[97]]).length, .own 72 1 0 t7.length]]), (6, .arr 37 3 1 [.p (.agg [.int .i64 2, .int .i64 0, .str x10])]), (7, .arr 9 1 1 (List.map AV.p (List.map PV.str [[97]]))), (72, .arr 35 2 1 (List.map AV.p (List.map encRow t7)))]⟩) t15 ?_ ?_
 replace h := h16
 clear h16
 refine zr ?_
 refine zU ?_
 rcases zI h with ⟨h18, h⟩ | ⟨h18, h⟩
 refine zw 39 true ?_
 refine zg ?_
 refine zg ?_
 refine zg ?_
 refine zg ?_
 obtain ⟨c19, h20, h20l, h20L, h⟩ := zY 0 h
 refine zg ?_
 refine zg ?_
 refine zU ?_
 rcases zI h with ⟨h21, h⟩ | ⟨h21, h⟩
 replace h := h.symm
 refine zw 47 true ?_
 refine zg ?_
 refine zg ?_
 refine zg ?_
 refine zg ?_
 refine zg ?_
 refine zg ?_
 refine zU (zl ?_)
 cases h
 exact ⟨rfl, zE⟩
 refine zw 47 false ?_
 refine zh ?_
 refine zU (zl ?_)
 cases h
 exact ⟨rfl, zE⟩
 refine zw 39 false ?_
 refine zh ?_
 refine zU ?_
 refine zh ?_
 refine zU (zl ?_)
 cases h
 exact ⟨rfl, zE⟩
 try simp only at h
 refine zA (zn ?_)
 rcases zI h with ⟨h22, h⟩ | ⟨h22, h⟩
 refine zi (zr ?_)
 obtain ⟨c23, h24, h24l, h24L, h⟩ := zY 0 h
 refine zU (zl (zn (zr ?_)))
 refine zW 9 ?_
 refine zM ⟨[(0, .p (.slc (List.map PV.str l1))), (2, .loc 2 1 0 0), (4, .loc 4 1 0 0), (5, .p (.int .i64 i8)), (64, .own 72 1 0 t7.length), (71, .own 71 1 0 1)], [(2, .arr 25 3 1 [.agg [.p (.str []), .nils, .nils]]), (4, .arr 25 3 1 [.agg [.p (.str [114]), .own 7 1 0 ([[97]]).length, .own 72 1 0 t7.length]]), (7, .arr 9 1 1 (List.map AV.p (List.map PV.str [[97]]))), (71, .arr 35 2 1 [.p (.agg [.int .i64 (IntKind.i64.wrap (1 + (IntKind.i64.wrap (2 * i8)))), .slc (List.map encValue [(Value.mk 1 (IntKind.i64.wrap (IntKind.u8.wrap (((c23.toNat : Nat) : Int) - 48))) [])])])]), (72, .arr 35 2 1 (List.map AV.p (List.map encRow t7)))]⟩ ?_
 obtain ⟨h25, h⟩ := ite_some h
 refine zU (zl (yn (zn (zr ?_))))
 refine zU (zl ?_)
 cases h
 exact ⟨rfl, zE⟩
 refine zj (zk (zn (zr ?_)))
 refine zW 9 ?_
 refine zM ⟨[(0, .p (.slc (List.map PV.str l1))), (2, .loc 2 1 0 0), (4, .loc 4 1 0 0), (5, .p (.int .i64 i8)), (64, .own 72 1 0 t7.length), (71, .own 71 1 0 1)], [(2, .arr 25 3 1 [.agg [.p (.str []), .nils, .nils]]), (4, .arr 25 3 1 [.agg [.p (.str [114]), .own 7 1 0 ([[97]]).length, .own 72 1 0 t7.length]]), (7, .arr 9 1 1 (List.map AV.p (List.map PV.str [[97]]))), (71, .arr 35 2 1 [.p (.agg [.int .i64 (IntKind.i64.wrap (1 + (IntKind.i64.wrap (2 * i8)))), .slc (List.map encValue [(Value.mk 2 0 x10)])])]), (72, .arr 35 2 1 (List.map AV.p (List.map encRow t7)))]⟩ ?_
 obtain ⟨h26, h⟩ := ite_some h
 refine zU (zl (yn (zn (zr ?_))))
 refine zU (zl ?_)
 cases h
 exact ⟨rfl, zE⟩
 refine zj (zx (ze ?_))
 cases h
 exact ⟨rfl, zE⟩
 rcases o3 with t27 | r28
 try simp only at h
 refine zA (yh (zn (zs (zr ?_))))
 refine zU (zl (zn (zq ?_)))
 cases h
 exact zT Try.results5
 try simp only at h
 refine zZ fun s hq => ?_
 refine yr (zt ?_)
 cases h
 exact hq
end Go.Proofs.Ytbiklagfjeileaa
set_option linter.unusedVariables false
set_option linter.unusedSimpArgs false
namespace Go.Proofs.Ytbiklagfjeileaa
open Go Go.Ab
set_option maxRecDepth 20000 in
set_option maxHeartbeats 4000000 in
theorem table_isName_con {D : Prop} (s1 : List UInt8) (r2 : Bool) (h : table_isName s1 = some r2) : Con D Try.prog 43 [(.str s1)] (.bool r2) := by
 refine zP Try.call43 Try.func43 rfl Try.ntmps43 fun X w => ?_
 simp only [table_isName] at h
 refine zs (zr ?_)
 refine zU (zl (zn (zs (zs (zr ?_)))))
 refine zU ?_
 rcases zI h with ⟨h3, h⟩ | ⟨h3, h⟩
 refine zw 8 true ?_
 refine zh ?_
 refine zU ?_
 refine zh ?_
 refine zU (zl (zn ?_))
 refine zi (zs (zr ?_))
 refine zU (zl (zn (zq (zt ?_))))
 cases h
 exact zT Try.results43
 refine zw 8 false ?_
 refine zg ?_
 refine zg ?_
 refine zg ?_
 refine zU ?_
 rcases zI h with ⟨h4, h⟩ | ⟨h4, h⟩
 refine zw 13 true ?_
 refine zh ?_
 refine zU (zl (zn ?_))
 refine zi (zs (zr ?_))
 refine zU (zl (zn (zq (zt ?_))))
 cases h
 exact zT Try.results43
 refine zw 13 false ?_
 refine zg ?_
 refine zg ?_
 refine zU (zl (zn ?_))
 rcases zI h with ⟨h5, h⟩ | ⟨h5, h⟩
 refine zi (zs (zr ?_))
 refine zU (zl (zn (zq (zt ?_))))
 cases h
 exact zT Try.results43
 refine zj (zk (zn (zs (zs (zr ?_)))))
 refine zU (zl (zn (zb ?_)))
 obtain ⟨o6, h7, h⟩ := zB h
 refine zO (fun (s : Int) => ⟨[(0, .p (.str s1)), (18, .p (.int .i64 (s1.length : Int))), (19, .p (.int .i64 s))], []⟩) (fun (o : (Unit) ⊕ (Bool)) => match o with | .inl o8 => tE (cX Try.f43 X w D) (.exit 0) ⟨[], []⟩ | .inr o9 => tR Try.prog Try.f43 (.bool o9)) h7 ?_ ?_
 clear h h3 h4 h5 h7
 intro t10 x h
 simp only [table_isName_l1] at h
 refine zs (zr ?_)
 refine zU (zl (zn (zs ?_)))
 rcases zI h with ⟨h11, h⟩ | ⟨h11, h⟩
 refine zi (zk (zn (zs (zb (zs (zr ?_))))))
 refine zU (zl (zn (zs (zr ?_))))
 obtain ⟨c12, h13, h13a, h13b, h⟩ := zX h
 refine zU (zl (zn ?_))
 obtain ⟨l14, h15, h⟩ := zB h
 refine zJ (fun (o16 : Bool) => tE (cX Try.f43 X w D) .normal ⟨[(0, .p (.str s1)), (3, .p (.int .i64 t10)), (4, .p (.int .u8 ((c12.toNat : Nat) : Int))), (5, .p (.bool o16)), (18, .p (.int .i64 (s1.length : Int))), (19, .p (.int .i64 t10))], []⟩) l14 ?_ ?_
 replace h := h15
 clear h15
 refine zr ?_
 refine zU ?_
 rcases zI h with ⟨h17, h⟩ | ⟨h17, h⟩
 refine zw 27 true ?_
 refine zg ?_
 refine zg ?_
 refine zU ?_
 rcases zI h with ⟨h18, h⟩ | ⟨h18, h⟩
 refine zw 31 true ?_
 refine zh ?_
 refine zU ?_
 refine zh ?_
 refine zU (zl ?_)
 cases h
 exact ⟨rfl, zE⟩
 refine zw 31 false ?_
 refine zg ?_
 refine zg ?_
 refine zg ?_
 rcases zI h with ⟨h19, h⟩ | ⟨h19, h⟩
 refine zw 34 true ?_
 refine zg ?_
 refine zg ?_
 refine zg ?_
 refine zU ?_
 rcases zI h with ⟨h20, h⟩ | ⟨h20, h⟩
 refine zw 39 true ?_
 refine zh ?_
 refine zU (zl ?_)
 cases h
 exact ⟨rfl, zE⟩
 replace h := h.symm
 refine zw 39 false ?_
 refine zg ?_
 refine zg ?_
 refine zU (zl ?_)
 cases h
 exact ⟨rfl, zE⟩
 replace h := h.symm
 refine zw 34 false ?_
 refine zh ?_
 refine zg ?_
 refine zU ?_
 refine zg ?_
 refine zg ?_
 refine zU (zl ?_)
 cases h
 exact ⟨rfl, zE⟩
 refine zw 27 false ?_
 refine zh ?_
 refine zU ?_
 refine zg ?_
 refine zg ?_
 refine zg ?_
 rcases zI h with ⟨h21, h⟩ | ⟨h21, h⟩
 refine zw 34 true ?_
 refine zg ?_
 refine zg ?_
 refine zg ?_
 refine zU ?_
 rcases zI h with ⟨h22, h⟩ | ⟨h22, h⟩
 refine zw 39 true ?_
 refine zh ?_
 refine zU (zl ?_)
 cases h
 exact ⟨rfl, zE⟩
 replace h := h.symm
 refine zw 39 false ?_
 refine zg ?_
 refine zg ?_
 refine zU (zl ?_)
 cases h
 exact ⟨rfl, zE⟩
 replace h := h.symm
 refine zw 34 false ?_
 refine zh ?_
 refine zg ?_
 refine zU ?_
 refine zg ?_
 refine zg ?_
 refine zU (zl ?_)
 cases h
 exact ⟨rfl, zE⟩
 try simp only at h
 refine zA (zn (zs (zr ?_)))
 refine zU ?_
 rcases zI h with ⟨h23, h⟩ | ⟨h23, h⟩
 refine zw 45 false ?_
 refine zh ?_
 refine zU (zl (zn ?_))
 refine zj (zk (yn (zn (zr ?_))))
 refine zU (zl ?_)
 cases h
 exact ⟨rfl, zE⟩
 refine zw 45 true ?_
 refine zg ?_
 refine zg ?_
 refine zg ?_
 rcases zI h with ⟨h24, h⟩ | ⟨h24, h⟩
 replace h := h.symm
 refine zw 48 true ?_
 refine zh ?_
 refine zg ?_
 refine zg ?_
 refine zh ?_
 refine zg ?_
 refine zU (zl (zn ?_))
 refine zi (zs (zr ?_))
 refine zU (zl (zn (zq (yr (zt ?_)))))
 cases h
 exact ⟨rfl, zT Try.results43⟩
 refine zw 48 false ?_
 refine zg ?_
 refine zg ?_
 refine zg ?_
 refine zg ?_
 rcases zI h with ⟨h25, h⟩ | ⟨h25, h⟩
 replace h := h.symm
 refine zw 52 true ?_
 refine zh ?_
 refine zg ?_
 refine zU (zl (zn ?_))
 refine zi (zs (zr ?_))
 refine zU (zl (zn (zq (yr (zt ?_)))))
 cases h
 exact ⟨rfl, zT Try.results43⟩
 refine zw 52 false ?_
 refine zg ?_
 refine zg ?_
 refine zg ?_
 refine zU (zl (zn ?_))
 rcases zI h with ⟨h26, h⟩ | ⟨h26, h⟩
 refine zi (zs (zr ?_))
 refine zU (zl (zn (zq (yr (zt ?_)))))
 cases h
 exact ⟨rfl, zT Try.results43⟩
 refine zj (zk (yn (zn (zr ?_))))
 refine zU (zl ?_)
 cases h
 exact ⟨rfl, zE⟩
 refine zj (zx (ze ?_))
 cases h
 exact ⟨rfl, zE⟩
 rcases o6 with ⟨⟩ | r27
 try simp only at h
 refine zA (yh (zn (zs (zr ?_))))
 refine zU (zl (zn (zq ?_)))
 cases h
 exact zT Try.results43
 try simp only at h
 refine zZ fun s hq => ?_
 refine yr (zt ?_)
 cases h
 exact hq
end Go.Proofs.Ytbiklagfjeileaa
set_option linter.unusedVariables false
set_option linter.unusedSimpArgs false
namespace Go.Proofs.Ytbiklagfjeileaa
open Go Go.Ab
set_option maxHeartbeats 4000000 in
theorem slices_Index_string_con {D : Prop} (s1 : List (List UInt8)) (v2 : List UInt8) (r3 : Int) (h : slices_Index_string s1 v2 = some r3) : Con D Try.prog 68 [(.slc (List.map PV.str s1)), (.str v2)] (.int .i64 r3) := by
 refine zP Try.call68 Try.func68 rfl Try.ntmps68 fun X w => ?_
 simp only [slices_Index_string] at h
 refine zs (zr ?_)
 refine zU (zl (zn (zs (zs (zr ?_)))))
 refine zU (zl (zn (zb ?_)))
 obtain ⟨o4, h5, h⟩ := zB h
 refine zO (fun (s : Int) => ⟨[(0, .p (.slc (List.map PV.str s1))), (1, .p (.str v2)), (7, .p (.int .i64 (s1.length : Int))), (8, .p (.int .i64 s))], []⟩) (fun (o : (Unit) ⊕ (Int)) => match o with | .inl o6 => tE (cX Try.f68 X w D) (.exit 0) ⟨[], []⟩ | .inr o7 => tR Try.prog Try.f68 (.int .i64 o7)) h5 ?_ ?_
 clear h h5
 intro t8 x h
 simp only [slices_Index_string_l1] at h
 refine zs (zr ?_)
 refine zU (zl (zn (zs ?_)))
 rcases zI h with ⟨h9, h⟩ | ⟨h9, h⟩
 refine zi (zk (zn (zs (zb (zs (zr ?_))))))
 refine zU (zl (zn (zs (zr ?_))))
 obtain ⟨x10, h11, h11a, h11b, h⟩ := zX h
 refine zU (zl (zn ?_))
 rcases zI h with ⟨h12, h⟩ | ⟨h12, h⟩
 refine zi (zs (zr ?_))
 refine zU (zl (zn (zq (yr (zt ?_)))))
 cases h
 exact ⟨rfl, zT Try.results68⟩
 refine zj (zk (yn (zn (zr ?_))))
 refine zU (zl ?_)
 cases h
 exact ⟨rfl, zE⟩
 refine zj (zx (ze ?_))
 cases h
 exact ⟨rfl, zE⟩
 rcases o4 with ⟨⟩ | r13
 try simp only at h
 refine zA (yh (zn (zs (zr ?_))))
 refine zU (zl (zn (zq ?_)))
 cases h
 exact zT Try.results68
 try simp only at h
 refine zZ fun s hq => ?_
 refine yr (zt ?_)
 cases h
 exact hq
end Go.Proofs.Ytbiklagfjeileaa
set_option linter.unusedVariables false
set_option linter.unusedSimpArgs false
namespace Go.Proofs.Ytbiklagfjeileaa
open Go Go.Ab
set_option maxHeartbeats 4000000 in
theorem slices_Contains_string_con {D : Prop} (s1 : List (List UInt8)) (v2 : List UInt8) (r3 : Bool) (h : slices_Contains_string s1 v2 = some r3) : Con D Try.prog 44 [(.slc (List.map PV.str s1)), (.str v2)] (.bool r3) := by
 refine zP Try.call44 Try.func44 rfl Try.ntmps44 fun X w => ?_
 simp only [slices_Contains_string] at h
 refine zs (zr ?_)
 refine zU (zl (zn (zs (zr ?_))))
 refine zU ?_
 obtain ⟨r4, h5, h⟩ := zB h
 refine zc (slices_Index_string_con s1 v2 _ h5) ?_
 refine zU (zl (zn (zq ?_)))
 cases h
 exact zT Try.results44
end Go.Proofs.Ytbiklagfjeileaa
set_option linter.unusedVariables false
set_option linter.unusedSimpArgs false
namespace Go.Proofs.Ytbiklagfjeileaa
open Go Go.Ab
set_option maxHeartbeats 4000000 in
theorem slices_IndexFunc_Value_con {D : Prop} (s1 : List Value) (f2 : Value → Option (Bool)) (f2_k : FuncId) (f2_cs : List PV) (f2_h : ∀ (y3 : Value) (r4 : Bool), f2 y3 = some r4 → Con D Try.prog f2_k ((encValue y3) :: f2_cs) (.bool r4)) (r5 : Int) (h : slices_IndexFunc_Value s1 f2 = some r5) : Con D Try.prog 93 [(.slc (List.map encValue s1)), .func (.func f2_k) f2_cs] (.int .i64 r5) := by
 refine zP Try.call93 Try.func93 rfl Try.ntmps93 fun X w => ?_
 simp only [slices_IndexFunc_Value] at h
 refine zs (zr ?_)
 refine zU (zl (zn (zs (zs (zr ?_)))))
 refine zU (zl (zn (zb ?_)))
 obtain ⟨o6, h7, h⟩ := zB h
 refine zO (fun (s : Int) => ⟨[(0, .p (.slc (List.map encValue s1))), (1, .p (.func (.func f2_k) f2_cs)), (7, .p (.int .i64 (s1.length : Int))), (8, .p (.int .i64 s))], []⟩) (fun (o : (Unit) ⊕ (Int)) => match o with | .inl o8 => tE (cX Try.f93 X w D) (.exit 0) ⟨[], []⟩ | .inr o9 => tR Try.prog Try.f93 (.int .i64 o9)) h7 ?_ ?_
 clear h h7
 intro t10 x h
 simp only [slices_IndexFunc_Value_l1] at h
 refine zs (zr ?_)
 refine zU (zl (zn (zs ?_)))
 rcases zI h with ⟨h11, h⟩ | ⟨h11, h⟩
 refine zi (zk (zn (zs (zb (zs (zr ?_))))))
 refine zU (zl (zn (zs (zr ?_))))
 obtain ⟨x12, h13, h13a, h13b, h⟩ := zX h
 refine zU ?_
 obtain ⟨r14, h15, h⟩ := zB h
 refine zc (f2_h x12 _ h15) ?_
 refine zl (zn ?_)
 rcases zI h with ⟨h16, h⟩ | ⟨h16, h⟩
 refine zi (zs (zr ?_))
 refine zU (zl (zn (zq (yr (zt ?_)))))
 cases h
 exact ⟨rfl, zT Try.results93⟩
 refine zj (zk (yn (zn (zr ?_))))
 refine zU (zl ?_)
 cases h
 exact ⟨rfl, zE⟩
 refine zj (zx (ze ?_))
 cases h
 exact ⟨rfl, zE⟩
 rcases o6 with ⟨⟩ | r17
 try simp only at h
 refine zA (yh (zn (zs (zr ?_))))
 refine zU (zl (zn (zq ?_)))
 cases h
 exact zT Try.results93
 try simp only at h
 refine zZ fun s hq => ?_
 refine yr (zt ?_)
 cases h
 exact hq
end Go.Proofs.Ytbiklagfjeileaa
set_option linter.unusedVariables false
set_option linter.unusedSimpArgs false
namespace Go.Proofs.Ytbiklagfjeileaa
open Go Go.Ab
set_option maxHeartbeats 4000000 in
theorem slices_ContainsFunc_Value_con {D : Prop} (s1 : List Value) (f2 : Value → Option (Bool)) (f2_k : FuncId) (f2_cs : List PV) (f2_h : ∀ (y3 : Value) (r4 : Bool), f2 y3 = some r4 → Con D Try.prog f2_k ((encValue y3) :: f2_cs) (.bool r4)) (r5 : Bool) (h : slices_ContainsFunc_Value s1 f2 = some r5) : Con D Try.prog 69 [(.slc (List.map encValue s1)), .func (.func f2_k) f2_cs] (.bool r5) := by
 refine zP Try.call69 Try.func69 rfl Try.ntmps69 fun X w => ?_
 simp only [slices_ContainsFunc_Value] at h
 refine zs (zr ?_)
 refine zU (zl (zn (zs (zr ?_))))
 refine zU ?_
 obtain ⟨r6, h7, h⟩ := zB h
 refine zc (slices_IndexFunc_Value_con s1 f2 f2_k f2_cs f2_h _ h7) ?_
 refine zU (zl (zn (zq ?_)))
 cases h
 exact zT Try.results69
end Go.Proofs.Ytbiklagfjeileaa
set_option linter.unusedVariables false
set_option linter.unusedSimpArgs false
namespace Go.Proofs.Ytbiklagfjeileaa
open Go Go.Ab
set_option maxHeartbeats 4000000 in
theorem value_Valid_con {D : Prop} (v1 : Value) (r2 : Bool) (h : value_Valid v1 = some r2) : Con D Try.prog 71 [(encValue v1)] (.bool r2) := by
 refine zP Try.call71 Try.func71 rfl Try.ntmps71 fun X w => ?_
 simp only [value_Valid] at h
 refine zs (zr ?_)
 refine zU (zl (zn (zs (zs (zr ?_)))))
 refine zU (zl (zn (zb (zs (zr ?_)))))
 refine zU (zl (zn ?_))
 rcases zI h with ⟨h3, h⟩ | ⟨h3, h⟩
 refine zi (zs (zr ?_))
 refine zU ?_
 rcases zI h with ⟨h4, h⟩ | ⟨h4, h⟩
 replace h := h.symm
 refine zw 10 true ?_
 refine zg ?_
 refine zg ?_
 refine zg ?_
 refine zU (zl (zn (zq (yr (zt ?_)))))
 cases h
 exact zT Try.results71
 refine zw 10 false ?_
 refine zh ?_
 refine zU (zl (zn (zq (yr (zt ?_)))))
 cases h
 exact zT Try.results71
 refine zj (zs (zr ?_))
 refine zU (zl (zn ?_))
 rcases zI h with ⟨h5, h⟩ | ⟨h5, h⟩
 refine zi (zs (zr ?_))
 refine zU (zl (zn (zq (yr (zt ?_)))))
 cases h
 exact zT Try.results71
 refine zj (zs (zr ?_))
 refine zU (zl (zn ?_))
 rcases zI h with ⟨h6, h⟩ | ⟨h6, h⟩
 refine zi (zs (zr ?_))
 refine zU ?_
 rcases zI h with ⟨h7, h⟩ | ⟨h7, h⟩
 replace h := h.symm
 refine zw 25 true ?_
 refine zg ?_
 refine zg ?_
 refine zg ?_
 refine zg ?_
 refine zU (zl (zn (zq (yr (zt ?_)))))
 cases h
 exact zT Try.results71
 refine zw 25 false ?_
 refine zh ?_
 refine zU (zl (zn (zq (yr (zt ?_)))))
 cases h
 exact zT Try.results71
 refine zj (zs (zr ?_))
 refine zU (zl (zn ?_))
 rcases zI h with ⟨h8, h⟩ | ⟨h8, h⟩
 refine zi (zs (zr ?_))
 refine zU ?_
 rcases zI h with ⟨h9, h⟩ | ⟨h9, h⟩
 replace h := h.symm
 refine zw 36 true ?_
 refine zg ?_
 refine zg ?_
 refine zg ?_
 refine zU (zl (zn (zq (yr (zt ?_)))))
 cases h
 exact zT Try.results71
 refine zw 36 false ?_
 refine zh ?_
 refine zU (zl (zn (zq (yr (zt ?_)))))
 cases h
 exact zT Try.results71
 refine zj (zk (yn (zn (zs (zr ?_)))))
 refine zU (zl (zn (zq ?_)))
 cases h
 exact zT Try.results71
end Go.Proofs.Ytbiklagfjeileaa
set_option linter.unusedVariables false
set_option linter.unusedSimpArgs false
namespace Go.Proofs.Ytbiklagfjeileaa
open Go Go.Ab
set_option maxHeartbeats 4000000 in
theorem table_validValues_1_con {D : Prop} (v1 : Value) (r2 : Bool) (h : table_validValues_1 v1 = some r2) : Con D Try.prog 70 [(encValue v1)] (.bool r2) := by
 refine zP Try.call70 Try.func70 rfl Try.ntmps70 fun X w => ?_
 simp only [table_validValues_1] at h
 refine zs (zr ?_)
 refine zU (zl (zn (zs (zr ?_))))
 refine zU ?_
 obtain ⟨r3, h4, h⟩ := zB h
 refine zc (value_Valid_con v1 _ h4) ?_
 refine zU (zl (zn (zq ?_)))
 cases h
 exact zT Try.results70
end Go.Proofs.Ytbiklagfjeileaa
set_option linter.unusedVariables false
set_option linter.unusedSimpArgs false
namespace Go.Proofs.Ytbiklagfjeileaa
open Go Go.Ab
set_option maxHeartbeats 4000000 in
theorem table_validValues_con {D : Prop} (l1 : List Value) (r2 : Bool) (h : table_validValues l1 = some r2) : Con D Try.prog 45 [(.slc (List.map encValue l1))] (.bool r2) := by
 refine zP Try.call45 Try.func45 rfl Try.ntmps45 fun X w => ?_
 simp only [table_validValues] at h
 refine zs (zr ?_)
 refine zU (zl (zn (zs (zr ?_))))
 refine zU ?_
 obtain ⟨r3, h4, h⟩ := zB h
 refine zc (slices_ContainsFunc_Value_con l1 (fun (y5 : Value) => table_validValues_1 y5) 70 [] (fun y5 r h => table_validValues_1_con y5 r h) _ h4) ?_
 refine zU (zl (zn (zq ?_)))
 cases h
 exact zT Try.results45
end Go.Proofs.Ytbiklagfjeileaa
set_option linter.unusedVariables false
set_option linter.unusedSimpArgs false
namespace Go.Proofs.Ytbiklagfjeileaa
open Go Go.Ab
set_option maxHeartbeats 4000000 in
theorem table_Valid_con {D : Prop} (t1 : Table) (r2 : Int) (h : table_Valid t1 = some r2) : Con D Try.prog 32 [(encTable t1)] (.int .i64 r2) := by
 refine zP Try.call32 Try.func32 rfl Try.ntmps32 fun X w => ?_
 simp only [table_Valid] at h
 refine zs (zr ?_)
 refine zU (zl (zn (zs (zs (zr ?_)))))
 refine zU ?_
 obtain ⟨r3, h4, h⟩ := zB h
 refine zc (table_isName_con t1.Name _ h4) ?_
 refine zU (zl (zn ?_))
 rcases zI h with ⟨h5, h⟩ | ⟨h5, h⟩
 refine zj (zk (zn (zs (zs (zr ?_)))))
 refine zU ?_
 rcases zI h with ⟨h6, h⟩ | ⟨h6, h⟩
 refine zw 16 true ?_
 refine zh ?_
 refine zU (zl (zn ?_))
 refine zi (zs (zr ?_))
 refine zU (zl (zn (zq (zt ?_))))
 cases h
 exact zT Try.results32
 refine zw 16 false ?_
 refine zg ?_
 refine zg ?_
 refine zg ?_
 refine zg ?_
 refine zU (zl (zn ?_))
 rcases zI h with ⟨h7, h⟩ | ⟨h7, h⟩
 refine zi (zs (zr ?_))
 refine zU (zl (zn (zq (zt ?_))))
 cases h
 exact zT Try.results32
 refine zj (zk (zn (zs (zs (zr ?_)))))
 refine zU (zl (zn (zb ?_)))
 obtain ⟨o8, h9, h⟩ := zB h
 refine zO (fun (s : Int) => ⟨[(1, .loc 1 1 0 0), (23, .p (.slc (List.map PV.str t1.Attrs))), (24, .p (.int .i64 (t1.Attrs.length : Int))), (25, .p (.int .i64 s))], [(1, .arr 25 3 1 [.p (encTable t1)])]⟩) (fun (o : (Unit) ⊕ (Int)) => match o with | .inl o10 => tE (cX Try.f32 X w D) (.exit 0) ⟨[(1, .loc 1 1 0 0)], [(1, .arr 25 3 1 [.p (encTable t1)])]⟩ | .inr o11 => tR Try.prog Try.f32 (.int .i64 o11)) h9 ?_ ?_
 clear h h4 h5 h6 h7 h9
 intro t12 x h
 simp only [table_Valid_l1] at h
 refine zs (zr ?_)
 refine zU (zl (zn (zs ?_)))
 rcases zI h with ⟨h13, h⟩ | ⟨h13, h⟩
 refine zi (zk (zn (zs (zb (zs (zr ?_))))))
 obtain ⟨x14, h15, h15a, h15b, h⟩ := zX h
 refine zU (zl (zn (zs (zr ?_))))
 refine zU ?_
 obtain ⟨r16, h17, h⟩ := zB h
 refine zc (table_isName_con x14 _ h17) ?_
 refine zU ?_
 rcases zI h with ⟨h18, h⟩ | ⟨h18, h⟩
 refine zw 33 false ?_
 refine zg ?_
 refine zg ?_
 refine zg ?_
 obtain ⟨h19, h⟩ := ite_some h
 obtain ⟨h20, h⟩ := ite_some h
 refine zg ?_
 refine zg ?_
 obtain ⟨r21, h22, h⟩ := zB h
 refine zc (slices_Contains_string_con (t1.Attrs.take (t12.toNat)) x14 _ h22) ?_
 refine zU (zl (zn ?_))
 rcases zI h with ⟨h23, h⟩ | ⟨h23, h⟩
 refine zi (zs (zr ?_))
 refine zU (zl (zn (zq (yr (zt ?_)))))
 cases h
 exact ⟨rfl, zT Try.results32⟩
 refine zj (zk (yn (zn (zr ?_))))
 refine zU (zl ?_)
 cases h
 exact ⟨rfl, zE⟩
 refine zw 33 true ?_
 refine zh ?_
 refine zU (zl (zn ?_))
 refine zi (zs (zr ?_))
 refine zU (zl (zn (zq (yr (zt ?_)))))
 cases h
 exact ⟨rfl, zT Try.results32⟩
 refine zj (zx (ze ?_))
 cases h
 exact ⟨rfl, zE⟩
 rcases o8 with ⟨⟩ | r24
 try simp only at h
 refine zA (yh (zn (zs (zr ?_))))
 refine zU (zl (zn (zs (zs (zr ?_)))))
 refine zU (zl (zn (zb ?_)))
 obtain ⟨o25, h26, h⟩ := zB h
 refine zO (fun (s : Int × Int) => ⟨[(1, .loc 1 1 0 0), (5, .p (.int .i64 s.1)), (43, .p (.slc (List.map encRow t1.Rows))), (44, .p (.int .i64 (t1.Rows.length : Int))), (45, .p (.int .i64 s.2))], [(1, .arr 25 3 1 [.p (encTable t1)])]⟩) (fun (o : (Unit) ⊕ (Int)) => match o with | .inl o27 => tE (cX Try.f32 X w D) (.exit 2) ⟨[], []⟩ | .inr o28 => tR Try.prog Try.f32 (.int .i64 o28)) h26 ?_ ?_
 clear h h4 h5 h6 h7 h9 h26
 intro s x h
 obtain ⟨l29, t30⟩ := s
 simp only [table_Valid_l2] at h
 dsimp only
 refine zs (zr ?_)
 refine zU (zl (zn (zs ?_)))
 rcases zI h with ⟨h31, h⟩ | ⟨h31, h⟩
 refine zi (zk (zn (zs (zb (zs (zr ?_))))))
 obtain ⟨x32, h33, h33a, h33b, h⟩ := zX h
 refine zU (zl (zn (zs (zb (zs (zr ?_))))))
 refine zU (zl (zn ?_))
 rcases zI h with ⟨h34, h⟩ | ⟨h34, h⟩
 refine zi (zs (zr ?_))
 refine zU (zl (zn (zq (yr (zt (yr (zt ?_)))))))
 cases h
 exact ⟨rfl, zT Try.results32⟩
 refine zj (zs (zr ?_))
 refine zU (zl (zn ?_))
 rcases zI h with ⟨h35, h⟩ | ⟨h35, h⟩
 refine zi (zs (zr ?_))
 refine zU (zl (zn (zq (yr (zt (yr (zt ?_)))))))
 cases h
 exact ⟨rfl, zT Try.results32⟩
 refine zj (zs (zr ?_))
 refine zU ?_
 obtain ⟨r36, h37, h⟩ := zB h
 refine zc (table_validValues_con x32.Values _ h37) ?_
 refine zU (zl (zn ?_))
 rcases zI h with ⟨h38, h⟩ | ⟨h38, h⟩
 refine zj (zk (yn (zn (zr ?_))))
 refine zU (zl (yn (zn (zr ?_))))
 refine zU (zl ?_)
 cases h
 exact ⟨rfl, zE⟩
 refine zi (zs (zr ?_))
 refine zU (zl (zn (zq (yr (zt (yr (zt ?_)))))))
 cases h
 exact ⟨rfl, zT Try.results32⟩
 refine zj (zx (ze ?_))
 cases h
 exact ⟨rfl, zE⟩
 rcases o25 with ⟨⟩ | r39
 try simp only at h
 refine zA (yh (zn (zs (zr ?_))))
 refine zU (zl (zn (zq ?_)))
 cases h
 exact zT Try.results32
 try simp only at h
 refine zZ fun s hq => ?_
 refine yr (zt ?_)
 cases h
 exact hq
 try simp only at h
 refine zZ fun s hq => ?_
 refine yr (zt ?_)
 cases h
 exact hq
 refine zi (zs (zr ?_))
 refine zU (zl (zn (zq (zt ?_))))
 cases h
 exact zT Try.results32
end Go.Proofs.Ytbiklagfjeileaa
set_option linter.unusedVariables false
set_option linter.unusedSimpArgs false
namespace Go.Proofs.Ytbiklagfjeileaa
open Go Go.Ab
set_option maxHeartbeats 4000000 in
theorem blocking_check_con {D : Prop} (t1 : Table) (a2 : Int) (r3 : Bool) (r4 : Int) (h : blocking_check t1 a2 r3 = some r4) : Con D Try.prog 15 [(encTable t1), (.int .i64 a2), (.bool r3)] (.int .i64 r4) := by
 refine zP Try.call15 Try.func15 rfl Try.ntmps15 fun X w => ?_
 simp only [blocking_check] at h
 refine zs (zr ?_)
 refine zU (zl (zn (zs (zs (zr ?_)))))
 refine zU ?_
 obtain ⟨r5, h6, h⟩ := zB h
 refine zc (table_Valid_con t1 _ h6) ?_
 refine zU (zl (zn (zs (zr ?_))))
 refine zU (zl (zn ?_))
 rcases zI h with ⟨h7, h⟩ | ⟨h7, h⟩
 refine zi (zs (zr ?_))
 refine zU (zl (zn (zq (zt ?_))))
 cases h
 exact zT Try.results15
 refine zj (zk (zn (zs (zb (zs (zr ?_))))))
 refine zU (zl (zn ?_))
 rcases zI h with ⟨h8, h⟩ | ⟨h8, h⟩
 refine zi (zs (zr ?_))
 refine zU (zl (zn (zq (yr (zt ?_)))))
 cases h
 exact zT Try.results15
 refine zj ?_
 obtain ⟨t9, h10, h⟩ := zB h
 refine zJ (fun (o11 : Bool) => tE (cX Try.f15 X w D) .normal ⟨[(2, .p (.bool r3)), (18, .p (.bool o11))], []⟩) t9 ?_ ?_
 replace h := h10
 clear h10
 refine zr ?_
 refine zU ?_
 rcases zI h with ⟨h12, h⟩ | ⟨h12, h⟩
 refine zw 21 true ?_
 refine zh ?_
 refine zU (zl ?_)
 cases h
 exact ⟨rfl, zE⟩
 replace h := h.symm
 refine zw 21 false ?_
 refine zg ?_
 refine zg ?_
 refine zg ?_
 refine zg ?_
 refine zg ?_
 refine zU (zl ?_)
 cases h
 exact ⟨rfl, zE⟩
 try simp only at h
 refine zA (zn ?_)
 rcases zI h with ⟨h13, h⟩ | ⟨h13, h⟩
 refine zi (zs (zr ?_))
 refine zU (zl (zn (zq (yr (zt ?_)))))
 cases h
 exact zT Try.results15
 refine zj (zs (zr ?_))
 refine zU (zl (zn ?_))
 rcases zI h with ⟨h14, h⟩ | ⟨h14, h⟩
 refine zj (zk (yn (zn (zs (zr ?_)))))
 refine zU (zl (zn (zq ?_)))
 cases h
 exact zT Try.results15
 refine zi (zs (zr ?_))
 refine zU (zl (zn (zq (yr (zt ?_)))))
 cases h
 exact zT Try.results15
end Go.Proofs.Ytbiklagfjeileaa
namespace Go.Proofs
open Go Go.Ab Go.Shelf
def Ytbiklagfjeileaa.sort22_ren : Go.Shelf.Ren := ⟨fun | 6 => 22 | 15 => 39 | 14 => 38 | 28 => 64 | 29 => 65 | 20 => 56 | 21 => 57 | 22 => 58 | 23 => 59 | 24 => 60 | 25 => 61 | 26 => 62 | 27 => 63 | 46 => 87 | 47 => 88 | 48 => 89 | 49 => 90 | 50 => 91 | 57 => 99 | n => n, fun | 22 => 49 | 24 => 3 | 25 => 60 | 3 => 3 | 39 => 68 | 0 => 0 | 53 => 99 | 55 => 101 | 4 => 4 | 46 => 92 | 45 => 91 | 50 => 96 | 5 => 5 | 9 => 9 | 66 => 117 | 70 => 121 | 76 => 129 | 77 => 130 | n => n, fun | n => n⟩
theorem Ytbiklagfjeileaa.sort22 : Go.Proofs.SlLaysF.n6 Try.prog Ytbiklagfjeileaa.sort22_ren := {
  mixed := by kernel_rfl
  f6 := ⟨Try.f22.name, by decide, Try.func22.trans (congrArg some (by kernel_rfl))⟩
  f14 := ⟨Try.f38.name, by decide, Try.func38.trans (congrArg some (by kernel_rfl))⟩
  f15 := Try.func39.trans (congrArg some (by kernel_rfl))
  f20 := ⟨Try.f56.name, by decide, Try.func56.trans (congrArg some (by kernel_rfl))⟩
  f21 := ⟨Try.f57.name, by decide, Try.func57.trans (congrArg some (by kernel_rfl))⟩
  f22 := ⟨Try.f58.name, by decide, Try.func58.trans (congrArg some (by kernel_rfl))⟩
  f23 := ⟨Try.f59.name, by decide, Try.func59.trans (congrArg some (by kernel_rfl))⟩
  f24 := ⟨Try.f60.name, by decide, Try.func60.trans (congrArg some (by kernel_rfl))⟩
  f25 := ⟨Try.f61.name, by decide, Try.func61.trans (congrArg some (by kernel_rfl))⟩
  f26 := ⟨Try.f62.name, by decide, Try.func62.trans (congrArg some (by kernel_rfl))⟩
  f27 := ⟨Try.f63.name, by decide, Try.func63.trans (congrArg some (by kernel_rfl))⟩
  f28 := Try.func64.trans (congrArg some (by kernel_rfl))
  f29 := Try.func65.trans (congrArg some (by kernel_rfl))
  f46 := ⟨Try.f87.name, by decide, Try.func87.trans (congrArg some (by kernel_rfl))⟩
  f47 := Try.func88.trans (congrArg some (by kernel_rfl))
  f48 := Try.func89.trans (congrArg some (by kernel_rfl))
  f49 := ⟨Try.f90.name, by decide, Try.func90.trans (congrArg some (by kernel_rfl))⟩
  f50 := ⟨Try.f91.name, by decide, Try.func91.trans (congrArg some (by kernel_rfl))⟩
  f57 := ⟨Try.f99.name, by decide, Try.func99.trans (congrArg some (by kernel_rfl))⟩
  t0 := Try.underlying0
  a0 := Try.isAgg0
  z0 := Try.sizeOf0
  v0 := Try.zeroValue0
  t3 := Try.underlying3
  a3 := Try.isAgg3
  z3 := Try.sizeOf3
  v3 := Try.zeroValue3
  t4 := Try.underlying4
  a4 := Try.isAgg4
  z4 := Try.sizeOf4
  v4 := Try.zeroValue4
  t5 := Try.underlying5
  a5 := Try.isAgg5
  z5 := Try.sizeOf5
  v5 := Try.zeroValue5
  t9 := Try.underlying9
  a9 := Try.isAgg9
  z9 := Try.sizeOf9
  v9 := Try.zeroValue9
  t22 := Try.underlying49
  a22 := Try.isAgg49
  z22 := Try.sizeOf49
  v22 := Try.zeroValue49
  a24 := Try.isAgg3
  z24 := Try.sizeOf3
  t25 := Try.underlying60
  a25 := Try.isAgg60
  z25 := Try.sizeOf60
  v25 := Try.zeroValue60
  t39 := Try.underlying68
  a39 := Try.isAgg68
  z39 := Try.sizeOf68
  v39 := Try.zeroValue68
  t45 := Try.underlying91
  a45 := Try.isAgg91
  z45 := Try.sizeOf91
  v45 := Try.zeroValue91
  t46 := Try.underlying92
  a46 := Try.isAgg92
  z46 := Try.sizeOf92
  v46 := Try.zeroValue92
  t50 := Try.underlying96
  a50 := Try.isAgg96
  z50 := Try.sizeOf96
  v50 := Try.zeroValue96
  t53 := Try.underlying99
  a53 := Try.isAgg99
  z53 := Try.sizeOf99
  v53 := Try.zeroValue99
  t55 := Try.underlying101
  a55 := Try.isAgg101
  z55 := Try.sizeOf101
  v55 := Try.zeroValue101
  t66 := Try.underlying117
  a66 := Try.isAgg117
  z66 := Try.sizeOf117
  v66 := Try.zeroValue117
  t70 := Try.underlying121
  a70 := Try.isAgg121
  z70 := Try.sizeOf121
  v70 := Try.zeroValue121
  t76 := Try.underlying129
  a76 := Try.isAgg129
  z76 := Try.sizeOf129
  v76 := Try.zeroValue129
  t77 := Try.underlying130
  a77 := Try.isAgg130
  z77 := Try.sizeOf130
  v77 := Try.zeroValue130 }
def Ytbiklagfjeileaa.sort35_ren : Go.Shelf.Ren := ⟨fun | 6 => 35 | 8 => 39 | 9 => 54 | 19 => 64 | 20 => 65 | 21 => 78 | 22 => 79 | 23 => 80 | 24 => 81 | 25 => 82 | 26 => 83 | 27 => 84 | 28 => 85 | 29 => 86 | 36 => 96 | 31 => 88 | 32 => 89 | 37 => 97 | 38 => 98 | 39 => 55 | 41 => 100 | n => n, fun | 27 => 22 | 29 => 9 | 3 => 3 | 32 => 68 | 26 => 22 | 0 => 0 | 44 => 99 | 46 => 101 | 4 => 4 | 36 => 92 | 35 => 91 | 41 => 96 | 5 => 5 | 9 => 9 | 53 => 117 | 57 => 121 | 63 => 129 | 64 => 130 | n => n, fun | n => n⟩
theorem Ytbiklagfjeileaa.sort35 : Go.Proofs.SlLaysM.n6 Try.prog Ytbiklagfjeileaa.sort35_ren := {
  mixed := by kernel_rfl
  f6 := ⟨Try.f35.name, by decide, Try.func35.trans (congrArg some (by kernel_rfl))⟩
  f8 := Try.func39.trans (congrArg some (by kernel_rfl))
  f9 := ⟨Try.f54.name, by decide, Try.func54.trans (congrArg some (by kernel_rfl))⟩
  f19 := Try.func64.trans (congrArg some (by kernel_rfl))
  f20 := Try.func65.trans (congrArg some (by kernel_rfl))
  f21 := ⟨Try.f78.name, by decide, Try.func78.trans (congrArg some (by kernel_rfl))⟩
  f22 := ⟨Try.f79.name, by decide, Try.func79.trans (congrArg some (by kernel_rfl))⟩
  f23 := ⟨Try.f80.name, by decide, Try.func80.trans (congrArg some (by kernel_rfl))⟩
  f24 := ⟨Try.f81.name, by decide, Try.func81.trans (congrArg some (by kernel_rfl))⟩
  f25 := ⟨Try.f82.name, by decide, Try.func82.trans (congrArg some (by kernel_rfl))⟩
  f26 := ⟨Try.f83.name, by decide, Try.func83.trans (congrArg some (by kernel_rfl))⟩
  f27 := ⟨Try.f84.name, by decide, Try.func84.trans (congrArg some (by kernel_rfl))⟩
  f28 := ⟨Try.f85.name, by decide, Try.func85.trans (congrArg some (by kernel_rfl))⟩
  f29 := ⟨Try.f86.name, by decide, Try.func86.trans (congrArg some (by kernel_rfl))⟩
  f31 := Try.func88.trans (congrArg some (by kernel_rfl))
  f32 := Try.func89.trans (congrArg some (by kernel_rfl))
  f36 := ⟨Try.f96.name, by decide, Try.func96.trans (congrArg some (by kernel_rfl))⟩
  f37 := ⟨Try.f97.name, by decide, Try.func97.trans (congrArg some (by kernel_rfl))⟩
  f38 := ⟨Try.f98.name, by decide, Try.func98.trans (congrArg some (by kernel_rfl))⟩
  f39 := ⟨Try.f55.name, by decide, Try.func55.trans (congrArg some (by kernel_rfl))⟩
  f41 := ⟨Try.f100.name, by decide, Try.func100.trans (congrArg some (by kernel_rfl))⟩
  t0 := Try.underlying0
  a0 := Try.isAgg0
  z0 := Try.sizeOf0
  v0 := Try.zeroValue0
  t3 := Try.underlying3
  a3 := Try.isAgg3
  z3 := Try.sizeOf3
  v3 := Try.zeroValue3
  t4 := Try.underlying4
  a4 := Try.isAgg4
  z4 := Try.sizeOf4
  v4 := Try.zeroValue4
  t5 := Try.underlying5
  a5 := Try.isAgg5
  z5 := Try.sizeOf5
  v5 := Try.zeroValue5
  t9 := Try.underlying9
  a9 := Try.isAgg9
  z9 := Try.sizeOf9
  v9 := Try.zeroValue9
  t26 := Try.underlying22
  a26 := Try.isAgg22
  z26 := Try.sizeOf22
  v26 := Try.zeroValue22
  t27 := Try.underlying22
  a27 := Try.isAgg22
  z27 := Try.sizeOf22
  v27 := Try.zeroValue22
  t29 := Try.underlying9
  a29 := Try.isAgg9
  z29 := Try.sizeOf9
  v29 := Try.zeroValue9
  t32 := Try.underlying68
  a32 := Try.isAgg68
  z32 := Try.sizeOf68
  v32 := Try.zeroValue68
  t35 := Try.underlying91
  a35 := Try.isAgg91
  z35 := Try.sizeOf91
  v35 := Try.zeroValue91
  t36 := Try.underlying92
  a36 := Try.isAgg92
  z36 := Try.sizeOf92
  v36 := Try.zeroValue92
  t41 := Try.underlying96
  a41 := Try.isAgg96
  z41 := Try.sizeOf96
  v41 := Try.zeroValue96
  t44 := Try.underlying99
  a44 := Try.isAgg99
  z44 := Try.sizeOf99
  v44 := Try.zeroValue99
  t46 := Try.underlying101
  a46 := Try.isAgg101
  z46 := Try.sizeOf101
  v46 := Try.zeroValue101
  t53 := Try.underlying117
  a53 := Try.isAgg117
  z53 := Try.sizeOf117
  v53 := Try.zeroValue117
  t57 := Try.underlying121
  a57 := Try.isAgg121
  z57 := Try.sizeOf121
  v57 := Try.zeroValue121
  t63 := Try.underlying129
  a63 := Try.isAgg129
  z63 := Try.sizeOf129
  v63 := Try.zeroValue129
  t64 := Try.underlying130
  a64 := Try.isAgg130
  z64 := Try.sizeOf130
  v64 := Try.zeroValue130 }
theorem Ytbiklagfjeileaa.srt22 : Srt1 Try.prog 22 := ⟨Try.call22, fun enc h1 cf hO g cb blk off cap d w eg hc hH hb hs => Any.slices_SortFunc_eq Ytbiklagfjeileaa.sort22 enc h1 cf hO g cb blk off cap d w eg hc hH hb hs, fun p cap fv w => AnyF.slices_SortFunc_none { Ytbiklagfjeileaa.sort22 with } p cap fv w⟩
theorem Ytbiklagfjeileaa.srt35 : SrtS Try.prog 35 := ⟨Try.call35, fun blk off cap zs w hH hb hs => AnyM.slices_Sort_string Ytbiklagfjeileaa.sort35 blk off cap zs w hH hb hs, fun p cap w => AnyM.slices_Sort_string_none Ytbiklagfjeileaa.sort35 p cap w⟩
end Go.Proofs
set_option linter.unusedVariables false
set_option linter.unusedSimpArgs false
namespace Go.Proofs.Ytbiklagfjeileaa
open Go Go.Ab
set_option maxHeartbeats 4000000 in
theorem slices_IndexFunc_string_con {D : Prop} (s1 : List (List UInt8)) (f2 : (List UInt8) → Option (Bool)) (f2_k : FuncId) (f2_cs : List PV) (f2_h : ∀ (y3 : List UInt8) (r4 : Bool), f2 y3 = some r4 → Con D Try.prog f2_k ((.str y3) :: f2_cs) (.bool r4)) (r5 : Int) (h : slices_IndexFunc_string s1 f2 = some r5) : Con D Try.prog 72 [(.slc (List.map PV.str s1)), .func (.func f2_k) f2_cs] (.int .i64 r5) := by
 refine zP Try.call72 Try.func72 rfl Try.ntmps72 fun X w => ?_
 simp only [slices_IndexFunc_string] at h
 refine zs (zr ?_)
 refine zU (zl (zn (zs (zs (zr ?_)))))
 refine zU (zl (zn (zb ?_)))
 obtain ⟨o6, h7, h⟩ := zB h
 refine zO (fun (s : Int) => ⟨[(0, .p (.slc (List.map PV.str s1))), (1, .p (.func (.func f2_k) f2_cs)), (7, .p (.int .i64 (s1.length : Int))), (8, .p (.int .i64 s))], []⟩) (fun (o : (Unit) ⊕ (Int)) => match o with | .inl o8 => tE (cX Try.f72 X w D) (.exit 0) ⟨[], []⟩ | .inr o9 => tR Try.prog Try.f72 (.int .i64 o9)) h7 ?_ ?_
 clear h h7
 intro t10 x h
 simp only [slices_IndexFunc_string_l1] at h
 refine zs (zr ?_)
 refine zU (zl (zn (zs ?_)))
 rcases zI h with ⟨h11, h⟩ | ⟨h11, h⟩
 refine zi (zk (zn (zs (zb (zs (zr ?_))))))
 refine zU (zl (zn (zs (zr ?_))))
 obtain ⟨x12, h13, h13a, h13b, h⟩ := zX h
 refine zU ?_
 obtain ⟨r14, h15, h⟩ := zB h
 refine zc (f2_h x12 _ h15) ?_
 refine zl (zn ?_)
 rcases zI h with ⟨h16, h⟩ | ⟨h16, h⟩
 refine zi (zs (zr ?_))
 refine zU (zl (zn (zq (yr (zt ?_)))))
 cases h
 exact ⟨rfl, zT Try.results72⟩
 refine zj (zk (yn (zn (zr ?_))))
 refine zU (zl ?_)
 cases h
 exact ⟨rfl, zE⟩
 refine zj (zx (ze ?_))
 cases h
 exact ⟨rfl, zE⟩
 rcases o6 with ⟨⟩ | r17
 try simp only at h
 refine zA (yh (zn (zs (zr ?_))))
 refine zU (zl (zn (zq ?_)))
 cases h
 exact zT Try.results72
 try simp only at h
 refine zZ fun s hq => ?_
 refine yr (zt ?_)
 cases h
 exact hq
end Go.Proofs.Ytbiklagfjeileaa
set_option linter.unusedVariables false
set_option linter.unusedSimpArgs false
namespace Go.Proofs.Ytbiklagfjeileaa
open Go Go.Ab
set_option maxHeartbeats 4000000 in
theorem slices_ContainsFunc_string_con {D : Prop} (s1 : List (List UInt8)) (f2 : (List UInt8) → Option (Bool)) (f2_k : FuncId) (f2_cs : List PV) (f2_h : ∀ (y3 : List UInt8) (r4 : Bool), f2 y3 = some r4 → Con D Try.prog f2_k ((.str y3) :: f2_cs) (.bool r4)) (r5 : Bool) (h : slices_ContainsFunc_string s1 f2 = some r5) : Con D Try.prog 46 [(.slc (List.map PV.str s1)), .func (.func f2_k) f2_cs] (.bool r5) := by
 refine zP Try.call46 Try.func46 rfl Try.ntmps46 fun X w => ?_
 simp only [slices_ContainsFunc_string] at h
 refine zs (zr ?_)
 refine zU (zl (zn (zs (zr ?_))))
 refine zU ?_
 obtain ⟨r6, h7, h⟩ := zB h
 refine zc (slices_IndexFunc_string_con s1 f2 f2_k f2_cs f2_h _ h7) ?_
 refine zU (zl (zn (zq ?_)))
 cases h
 exact zT Try.results46
end Go.Proofs.Ytbiklagfjeileaa
set_option linter.unusedVariables false
set_option linter.unusedSimpArgs false
namespace Go.Proofs.Ytbiklagfjeileaa
open Go Go.Ab
set_option maxHeartbeats 4000000 in
theorem similarity_long_1_con {D : Prop} (s1 : List UInt8) (r2 : Bool) (h : similarity_long_1 s1 = some r2) : Con D Try.prog 47 [(.str s1)] (.bool r2) := by
 refine zP Try.call47 Try.func47 rfl Try.ntmps47 fun X w => ?_
 simp only [similarity_long_1] at h
 refine zs (zr ?_)
 refine zU (zl (zn (zs (zr ?_))))
 refine zU (zl (zn (zq ?_)))
 cases h
 exact zT Try.results47
end Go.Proofs.Ytbiklagfjeileaa
set_option linter.unusedVariables false
set_option linter.unusedSimpArgs false
namespace Go.Proofs.Ytbiklagfjeileaa
open Go Go.Ab
set_option maxHeartbeats 4000000 in
theorem similarity_long_con {D : Prop} (l1 : List (List UInt8)) (r2 : Bool) (h : similarity_long l1 = some r2) : Con D Try.prog 33 [(.slc (List.map PV.str l1))] (.bool r2) := by
 refine zP Try.call33 Try.func33 rfl Try.ntmps33 fun X w => ?_
 simp only [similarity_long] at h
 refine zs (zr ?_)
 refine zU (zl (zn (zs (zr ?_))))
 refine zU ?_
 obtain ⟨r3, h4, h⟩ := zB h
 refine zc (slices_ContainsFunc_string_con l1 (fun (y5 : List UInt8) => similarity_long_1 y5) 47 [] (fun y5 r h => similarity_long_1_con y5 r h) _ h4) ?_
 refine zU (zl (zn (zq ?_)))
 cases h
 exact zT Try.results33
end Go.Proofs.Ytbiklagfjeileaa
namespace Go.Proofs
open Go Go.Ab Go.Shelf
def Ytbiklagfjeileaa.rep34_ren : Go.Shelf.Ren := ⟨fun | 105 => 34 | 212 => 48 | 99 => 49 | 165 => 50 | 166 => 51 | 170 => 52 | 169 => 53 | 263 => 73 | 264 => 74 | 206 => 75 | 240 => 76 | 241 => 77 | 276 => 94 | 277 => 95 | n => n, fun | 9 => 9 | 3 => 3 | 4 => 4 | 20 => 20 | 0 => 0 | 46 => 68 | 109 => 75 | 5 => 5 | 72 => 81 | 76 => 85 | 51 => 99 | 146 => 107 | 53 => 101 | 148 => 109 | 70 => 78 | 37 => 79 | 75 => 84 | 127 => 111 | 164 => 124 | 80 => 88 | n => n, fun | n => n⟩
theorem Ytbiklagfjeileaa.rep34 : Go.Proofs.Lays.n105 Try.prog Ytbiklagfjeileaa.rep34_ren := {
  mixed := by kernel_rfl
  f99 := Try.func49.trans (congrArg some (by kernel_rfl))
  f105 := Try.func34.trans (congrArg some (by kernel_rfl))
  f165 := Try.func50.trans (congrArg some (by kernel_rfl))
  f166 := Try.func51.trans (congrArg some (by kernel_rfl))
  f169 := Try.func53.trans (congrArg some (by kernel_rfl))
  f170 := Try.func52.trans (congrArg some (by kernel_rfl))
  f206 := Try.func75.trans (congrArg some (by kernel_rfl))
  f212 := Try.func48.trans (congrArg some (by kernel_rfl))
  f240 := Try.func76.trans (congrArg some (by kernel_rfl))
  f241 := Try.func77.trans (congrArg some (by kernel_rfl))
  f263 := Try.func73.trans (congrArg some (by kernel_rfl))
  f264 := Try.func74.trans (congrArg some (by kernel_rfl))
  f276 := Try.func94.trans (congrArg some (by kernel_rfl))
  f277 := Try.func95.trans (congrArg some (by kernel_rfl))
  t0 := Try.underlying0
  a0 := Try.isAgg0
  z0 := Try.sizeOf0
  v0 := Try.zeroValue0
  t3 := Try.underlying3
  a3 := Try.isAgg3
  z3 := Try.sizeOf3
  v3 := Try.zeroValue3
  t4 := Try.underlying4
  a4 := Try.isAgg4
  z4 := Try.sizeOf4
  v4 := Try.zeroValue4
  t5 := Try.underlying5
  a5 := Try.isAgg5
  z5 := Try.sizeOf5
  v5 := Try.zeroValue5
  t9 := Try.underlying9
  a9 := Try.isAgg9
  z9 := Try.sizeOf9
  v9 := Try.zeroValue9
  t20 := Try.underlying20
  a20 := Try.isAgg20
  z20 := Try.sizeOf20
  v20 := Try.zeroValue20
  t37 := Try.underlying79
  a37 := Try.isAgg79
  z37 := Try.sizeOf79
  v37 := Try.zeroValue79
  t46 := Try.underlying68
  a46 := Try.isAgg68
  z46 := Try.sizeOf68
  v46 := Try.zeroValue68
  t51 := Try.underlying99
  a51 := Try.isAgg99
  z51 := Try.sizeOf99
  v51 := Try.zeroValue99
  t53 := Try.underlying101
  a53 := Try.isAgg101
  z53 := Try.sizeOf101
  v53 := Try.zeroValue101
  t70 := Try.underlying78
  a70 := Try.isAgg78
  z70 := Try.sizeOf78
  v70 := Try.zeroValue78
  t72 := Try.underlying81
  a72 := Try.isAgg81
  z72 := Try.sizeOf81
  v72 := Try.zeroValue81
  t75 := Try.underlying84
  a75 := Try.isAgg84
  z75 := Try.sizeOf84
  v75 := Try.zeroValue84
  t76 := Try.underlying85
  a76 := Try.isAgg85
  z76 := Try.sizeOf85
  v76 := Try.zeroValue85
  t109 := Try.underlying75
  a109 := Try.isAgg75
  z109 := Try.sizeOf75
  v109 := Try.zeroValue75
  t127 := Try.underlying111
  a127 := Try.isAgg111
  z127 := Try.sizeOf111
  v127 := Try.zeroValue111
  t146 := Try.underlying107
  a146 := Try.isAgg107
  z146 := Try.sizeOf107
  v146 := Try.zeroValue107
  t148 := Try.underlying109
  a148 := Try.isAgg109
  z148 := Try.sizeOf109
  v148 := Try.zeroValue109
  t164 := Try.underlying124
  a164 := Try.isAgg124
  z164 := Try.sizeOf124
  v164 := Try.zeroValue124 }
theorem Ytbiklagfjeileaa.repX : Builder.Extra Try.prog Ytbiklagfjeileaa.rep34_ren where
  sizeBuilder := by kernel_rfl
  liesBuilder := by kernel_rfl
  t5 := Ytbiklagfjeileaa.rep34.t5
  a5 := Ytbiklagfjeileaa.rep34.a5
  z5 := Ytbiklagfjeileaa.rep34.z5
  v5 := Ytbiklagfjeileaa.rep34.v5
  infoByte := by kernel_rfl
  cellsByte := by kernel_rfl
  sizeByte := by kernel_rfl
  neB5 := by decide
theorem Ytbiklagfjeileaa.repeat34 (s : ByteArray) (c : Nat) (w : World) (hc : c ≤ 9223372036854775807) (hl : s.size * c ≤ 140737488355328) : Calls Try.prog 34 #[.string s, .int .i64 c] w fun e w' => e = .returned (.string ⟨(Lib.repeatL s.data.toList c).toArray⟩) ∧ RowKit.Below w.heap.size w w' :=
  Any.strings_Repeat Ytbiklagfjeileaa.rep34 Ytbiklagfjeileaa.repX s c w hc hl
end Go.Proofs
set_option linter.unusedVariables false
set_option linter.unusedSimpArgs false
namespace Go.Proofs.Ytbiklagfjeileaa
open Go Go.Ab
theorem strings_Repeat_con (x : List UInt8) (n : Int) (r : List UInt8) (h : strings_Repeat x n = some r) : Con False Try.prog 34 [(.str x), (.int .i64 n)] (.str r) := con_repeat Try.call34 repeat34 x n r h
end Go.Proofs.Ytbiklagfjeileaa
set_option linter.unusedVariables false
set_option linter.unusedSimpArgs false
namespace Go.Proofs.Ytbiklagfjeileaa
open Go Go.Ab
set_option maxHeartbeats 4000000 in
theorem similarity_Grams_con (s1 : List UInt8) (q2 : Int) (r3 : List (List UInt8) × Int) (h : similarity_Grams s1 q2 = some r3) : Con False Try.prog 16 [(.str s1), (.int .i64 q2)] (.tup [(.slc (List.map PV.str r3.1)), (.int .i64 r3.2)]) := by
 refine zP Try.call16 Try.func16 rfl Try.ntmps16 fun X w => ?_
 simp only [similarity_Grams] at h
 refine zs (zr ?_)
 refine zU (zl (zn (zs (zs (zr ?_)))))
 refine zU ?_
 obtain ⟨r4, h5, h⟩ := zB h
 refine zc (similarity_long_con [s1] _ h5) ?_
 refine zl (zn ?_)
 rcases zI h with ⟨h6, h⟩ | ⟨h6, h⟩
 refine zi (zs (zr ?_))
 refine zU (zl (zn (zq (zt ?_))))
 cases h
 exact zT Try.results16
 refine zj (zk (zn (zs (zs (zr ?_)))))
 refine zU ?_
 rcases zI h with ⟨h7, h⟩ | ⟨h7, h⟩
 refine zw 15 true ?_
 refine zh ?_
 refine zU (zl (zn ?_))
 refine zi (zs (zr ?_))
 refine zU (zl (zn (zq (zt ?_))))
 cases h
 exact zT Try.results16
 refine zw 15 false ?_
 refine zg ?_
 refine zg ?_
 refine zU (zl (zn ?_))
 rcases zI h with ⟨h8, h⟩ | ⟨h8, h⟩
 refine zi (zs (zr ?_))
 refine zU (zl (zn (zq (zt ?_))))
 cases h
 exact zT Try.results16
 refine zj (zk (zn (zs (zr ?_))))
 refine zU ?_
 obtain ⟨r9, h10, h⟩ := zB h
 refine zc (strings_Repeat_con [1] (IntKind.i64.wrap (q2 - 1)) _ h10) ?_
 refine zU (zl (zn (zs (zr ?_))))
 obtain ⟨h11, h⟩ := ite_some h
 obtain ⟨w12, h13, h⟩ := zB h
 replace h13 := Option.some.inj h13
 obtain ⟨h14, h⟩ := ite_some h
 obtain ⟨w15, h16, h⟩ := zB h
 replace h16 := Option.some.inj h16
 refine zU (zl (zn (zs (zr ?_))))
 refine zU (zl (zn (zs (zs (zr ?_)))))
 refine zU (zl (zn (zb ?_)))
 obtain ⟨o17, h18, h⟩ := zB h
 refine zO (fun (s : List (List UInt8) × Int) => ⟨[(1, .p (.int .i64 q2)), (7, .p (.str w15)), (8, .own 43 1 0 s.1.length), (31, .p (.int .i64 (IntKind.i64.wrap ((IntKind.i64.wrap ((s1.length : Int) + q2)) - 1)))), (32, .p (.int .i64 s.2))], [(43, .arr 9 1 1 (List.map AV.p (List.map PV.str s.1)))]⟩) (fun (o19 : List (List UInt8)) => tE (cX Try.f16 X w False) (.exit 0) ⟨[(8, .own 43 1 0 o19.length)], [(43, .arr 9 1 1 (List.map AV.p (List.map PV.str o19)))]⟩) h18 ?_ ?_
 clear h h5 h6 h7 h8 h10 h11 h13 h14 h16 h18
 intro s x h
 obtain ⟨o20, t21⟩ := s
 simp only [similarity_Grams_l1] at h
 dsimp only
 refine zs (zr ?_)
 refine zU (zl (zn (zs ?_)))
 rcases zI h with ⟨h22, h⟩ | ⟨h22, h⟩
 refine zi (zk (zn (zs (zb (zs (zr ?_))))))
 refine zU (zl (zn (zr ?_)))
 obtain ⟨h23, h⟩ := ite_some h
 obtain ⟨h24, h⟩ := ite_some h
 obtain ⟨h25, h⟩ := ite_some h
 obtain ⟨h26, h⟩ := ite_some h
 refine zU (zl (yn (zn (zr ?_))))
 refine zU (zl ?_)
 cases h
 exact ⟨rfl, zE⟩
 refine zj (zx (ze ?_))
 cases h
 exact ⟨rfl, zE⟩
 try simp only at h
 refine zA (yh (zn (zs (zr ?_))))
 refine zU ?_
 refine zM ⟨[(8, .own 43 1 0 o17.length), (45, .own 43 1 0 o17.length)], [(43, .arr 9 1 1 (List.map AV.p (List.map PV.str o17)))]⟩ ?_
 obtain ⟨l27, h28, h⟩ := zB h
 refine zSS srt35 h28 ?_
 have h29 := srtSF_len h28
 refine zM ⟨[(8, .own 43 1 0 l27.length), (46, .p (.tup []))], [(43, .arr 9 1 1 (List.map AV.p (List.map PV.str l27)))]⟩ ?_
 clear h29
 refine zl (zn (zs (zr ?_)))
 refine zU (zl (zn (zq ?_)))
 cases h
 exact zT Try.results16
end Go.Proofs.Ytbiklagfjeileaa
set_option linter.unusedVariables false
set_option linter.unusedSimpArgs false
namespace Go.Proofs.Ytbiklagfjeileaa
open Go Go.Ab
set_option maxRecDepth 20000 in
set_option maxHeartbeats 4000000 in
theorem blocking_pairs_con {D : Prop} (t1 : Table) (o2 : Int → Int → Option (Bool)) (o2_k : FuncId) (o2_cs : List PV) (o2_h : ∀ (y3 : Int) (y4 : Int) (r5 : Bool), o2 y3 y4 = some r5 → Con D Try.prog o2_k ((.int .i64 y3) :: (.int .i64 y4) :: o2_cs) (.bool r5)) (r6 : List Arr2_int64) (h : blocking_pairs t1 o2 = some r6) : Con D Try.prog 17 [(encTable t1), .func (.func o2_k) o2_cs] (.slc (List.map encArr2_int64 r6)) := by
 refine zP Try.call17 Try.func17 rfl Try.ntmps17 fun X w => ?_
 simp only [blocking_pairs] at h
 refine zs (zr ?_)
 refine zU (zl (zn (zs (zr ?_))))
 refine zU (zl (zn (zs (zs (zr ?_)))))
 refine zU (zl (zn (zb ?_)))
 obtain ⟨o7, h8, h⟩ := zB h
 refine zO (fun (s : List Arr2_int64 × Int) => ⟨[(1, .p (.func (.func o2_k) o2_cs)), (2, .loc 2 1 0 0), (5, .own 42 1 0 s.1.length), (10, .p (.int .i64 (t1.Rows.length : Int))), (11, .p (.int .i64 s.2))], [(2, .arr 25 3 1 [.p (encTable t1)]), (42, .arr 40 2 1 (List.map AV.p (List.map encArr2_int64 s.1)))]⟩) (fun (o9 : List Arr2_int64) => tE (cX Try.f17 X w D) (.exit 0) ⟨[(5, .own 42 1 0 o9.length)], [(42, .arr 40 2 1 (List.map AV.p (List.map encArr2_int64 o9)))]⟩) h8 ?_ ?_
 clear h h8
 intro s x h
 obtain ⟨o10, t11⟩ := s
 simp only [blocking_pairs_l4] at h
 dsimp only
 refine zs (zr ?_)
 refine zU (zl (zn (zs ?_)))
 rcases zI h with ⟨h12, h⟩ | ⟨h12, h⟩
 refine zi (zk (zn (zs (zb (zs (zr ?_))))))
 refine zU (zl (zn (zs (zr ?_))))
 refine zU (zl (zn (zb ?_)))
 obtain ⟨o13, h14, h⟩ := zB h
 refine zO (fun (s : List Arr2_int64 × Int) => ⟨[(1, .p (.func (.func o2_k) o2_cs)), (2, .loc 2 1 0 0), (5, .own 42 1 0 s.1.length), (6, .p (.int .i64 t11)), (7, .p (.int .i64 s.2)), (10, .p (.int .i64 (t1.Rows.length : Int))), (11, .p (.int .i64 t11))], [(2, .arr 25 3 1 [.p (encTable t1)]), (42, .arr 40 2 1 (List.map AV.p (List.map encArr2_int64 s.1)))]⟩) (fun (o15 : List Arr2_int64) => tE (cX Try.f17 X w D) (.exit 2) ⟨[(1, .p (.func (.func o2_k) o2_cs)), (2, .loc 2 1 0 0), (5, .own 42 1 0 o15.length), (10, .p (.int .i64 (t1.Rows.length : Int))), (11, .p (.int .i64 t11))], [(2, .arr 25 3 1 [.p (encTable t1)]), (42, .arr 40 2 1 (List.map AV.p (List.map encArr2_int64 o15)))]⟩) h14 ?_ ?_
 clear h h12 h14
 intro s x h
 obtain ⟨o16, k17⟩ := s
 simp only [blocking_pairs_l3] at h
 dsimp only
 refine zs (zs (zr ?_))
 refine zU (zl (zn ?_))
 rcases zI h with ⟨h18, h⟩ | ⟨h18, h⟩
 refine zi (zk (zn (zs (zb (zs (zr ?_))))))
 refine zU ?_
 obtain ⟨r19, h20, h⟩ := zB h
 refine zc (o2_h t11 k17 _ h20) ?_
 refine zl (zn ?_)
 rcases zI h with ⟨h21, h⟩ | ⟨h21, h⟩
 refine zi (zd ?_)
 obtain ⟨x22, h23, h23a, h23b, h⟩ := zX h
 obtain ⟨x24, h25, h25a, h25b, h⟩ := zX h
 obtain ⟨h26, h⟩ := ite_some h
 refine yU ?_
 refine yd (yn (zn (zr ?_)))
 refine zU (zl ?_)
 cases h
 exact ⟨rfl, zE⟩
 refine zj (zk (yn (zn (zr ?_))))
 refine zU (zl ?_)
 cases h
 exact ⟨rfl, zE⟩
 refine zj (zx (ze ?_))
 cases h
 exact ⟨rfl, zE⟩
 try simp only at h
 refine zA (yh (yn (zn (zr ?_))))
 refine zU (zl ?_)
 cases h
 exact ⟨rfl, zE⟩
 refine zj (zx (ze ?_))
 cases h
 exact ⟨rfl, zE⟩
 try simp only at h
 refine zA (yh (zn (zs (zr ?_))))
 refine zU (zl (zn (zq ?_)))
 cases h
 exact zT Try.results17
end Go.Proofs.Ytbiklagfjeileaa
set_option linter.unusedVariables false
set_option linter.unusedSimpArgs false
namespace Go.Proofs.Ytbiklagfjeileaa
open Go Go.Ab
set_option maxHeartbeats 4000000 in
theorem blocking_alike_con {D : Prop} (t1 : Table) (a2 : Int) (o3 : Int → Int → Option (Bool)) (o3_k : FuncId) (o3_cs : List PV) (o3_h : ∀ (y4 : Int) (y5 : Int) (r6 : Bool), o3 y4 y5 = some r6 → Con D Try.prog o3_k ((.int .i64 y4) :: (.int .i64 y5) :: o3_cs) (.bool r6)) (r7 : Unit) (h : blocking_alike t1 a2 o3 = some r7) : Con D Try.prog 18 [(encTable t1), (.int .i64 a2), .func (.func o3_k) o3_cs] (.func (.func 36) [.imm [.str t1.Name, .slc (List.map PV.str t1.Attrs), .slc (List.map encRow t1.Rows)], .imm [.int .i64 a2], .imm [.func (.func o3_k) o3_cs]]) := by
 refine zP Try.call18 Try.func18 rfl Try.ntmps18 fun X w => ?_
 simp only [blocking_alike] at h
 refine zs (zr ?_)
 refine zU (zl (zn (zs (zr ?_))))
 refine zU (zl (zn (zq ?_)))
 cases h
 exact zT Try.results18
end Go.Proofs.Ytbiklagfjeileaa
set_option linter.unusedVariables false
set_option linter.unusedSimpArgs false
namespace Go.Proofs.Ytbiklagfjeileaa
open Go Go.Ab
set_option maxHeartbeats 4000000 in
theorem cmp_isNaN_string_con {D : Prop} (x1 : List UInt8) (r2 : Bool) (h : cmp_isNaN_string x1 = some r2) : Con D Try.prog 55 [(.str x1)] (.bool r2) := by
 refine zP Try.call55 Try.func55 rfl Try.ntmps55 fun X w => ?_
 simp only [cmp_isNaN_string] at h
 refine zs (zr ?_)
 refine zU (zl (zn (zs (zr ?_))))
 refine zU (zl (zn (zq ?_)))
 cases h
 exact zT Try.results55
end Go.Proofs.Ytbiklagfjeileaa
set_option linter.unusedVariables false
set_option linter.unusedSimpArgs false
namespace Go.Proofs.Ytbiklagfjeileaa
open Go Go.Ab
set_option maxHeartbeats 4000000 in
theorem cmp_Compare_string_con {D : Prop} (x1 : List UInt8) (y2 : List UInt8) (r3 : Int) (h : cmp_Compare_string x1 y2 = some r3) : Con D Try.prog 37 [(.str x1), (.str y2)] (.int .i64 r3) := by
 refine zP Try.call37 Try.func37 rfl Try.ntmps37 fun X w => ?_
 simp only [cmp_Compare_string] at h
 refine zs (zr ?_)
 refine zU (zl (zn (zs (zr ?_))))
 refine zU ?_
 obtain ⟨r4, h5, h⟩ := zB h
 refine zc (cmp_isNaN_string_con x1 _ h5) ?_
 refine zU (zl (zn (zs (zr ?_))))
 refine zU ?_
 obtain ⟨r6, h7, h⟩ := zB h
 refine zc (cmp_isNaN_string_con y2 _ h7) ?_
 refine zU (zl (zn (zs (zs (zr ?_)))))
 refine zU (zl (zn ?_))
 rcases zI h with ⟨h8, h⟩ | ⟨h8, h⟩
 refine zi (zs (zs (zr ?_)))
 refine zU (zl (zn ?_))
 rcases zI h with ⟨h9, h⟩ | ⟨h9, h⟩
 refine zi (zs (zr ?_))
 refine zU (zl (zn (zq (zt (zt ?_)))))
 cases h
 exact zT Try.results37
 refine zj (zk (zn (zs (zr ?_))))
 refine zU (zl (zn (zq (zt ?_))))
 cases h
 exact zT Try.results37
 refine zj (zk (zn (zs (zs (zr ?_)))))
 refine zU (zl (zn ?_))
 rcases zI h with ⟨h10, h⟩ | ⟨h10, h⟩
 refine zi (zs (zr ?_))
 refine zU (zl (zn (zq (zt ?_))))
 cases h
 exact zT Try.results37
 refine zj (zk (zn (zs (zs (zr ?_)))))
 refine zU (zl (zn ?_))
 rcases zI h with ⟨h11, h⟩ | ⟨h11, h⟩
 refine zi (zs (zr ?_))
 refine zU (zl (zn (zq (zt ?_))))
 cases h
 exact zT Try.results37
 refine zj (zk (zn (zs (zs (zr ?_)))))
 refine zU (zl (zn ?_))
 rcases zI h with ⟨h12, h⟩ | ⟨h12, h⟩
 refine zj (zk (zn (zs (zr ?_))))
 refine zU (zl (zn (zq ?_)))
 cases h
 exact zT Try.results37
 refine zi (zs (zr ?_))
 refine zU (zl (zn (zq (zt ?_))))
 cases h
 exact zT Try.results37
end Go.Proofs.Ytbiklagfjeileaa
set_option linter.unusedVariables false
set_option linter.unusedSimpArgs false
namespace Go.Proofs.Ytbiklagfjeileaa
open Go Go.Ab
set_option maxRecDepth 20000 in
set_option maxHeartbeats 4000000 in
theorem blocking_common_con {D : Prop} (a1 : List (List UInt8)) (b2 : List (List UInt8)) (r3 : Int) (h : blocking_common a1 b2 = some r3) : Con D Try.prog 20 [(.slc (List.map PV.str a1)), (.slc (List.map PV.str b2))] (.int .i64 r3) := by
 refine zP Try.call20 Try.func20 rfl Try.ntmps20 fun X w => ?_
 simp only [blocking_common] at h
 refine zs (zr ?_)
 refine zU (zl (zn (zs (zr ?_))))
 refine zU (zl (zn (zs (zs (zr ?_)))))
 refine zU (zl (zn (zb ?_)))
 obtain ⟨n4, h5, h⟩ := zB h
 refine zO (fun (s : Int × Int × Int) => ⟨[(0, .p (.slc (List.map PV.str a1))), (1, .p (.slc (List.map PV.str b2))), (5, .p (.int .i64 s.1)), (6, .p (.int .i64 s.2.1)), (7, .p (.int .i64 s.2.2))], []⟩) (fun (o6 : Int) => tE (cX Try.f20 X w D) (.exit 0) ⟨[(5, .p (.int .i64 o6))], []⟩) h5 ?_ ?_
 clear h h5
 intro s x h
 obtain ⟨n7, i8, k9⟩ := s
 simp only [blocking_common_l1] at h
 dsimp only
 refine zs (zs (zr ?_))
 refine zU ?_
 rcases zI h with ⟨h10, h⟩ | ⟨h10, h⟩
 refine zw 13 true ?_
 refine zg ?_
 refine zg ?_
 refine zg ?_
 refine zg ?_
 refine zU (zl (zn ?_))
 rcases zI h with ⟨h11, h⟩ | ⟨h11, h⟩
 refine zi (zk (zn (zb (zs (zd ?_)))))
 obtain ⟨x12, h13, h13a, h13b, h⟩ := zX h
 obtain ⟨x14, h15, h15a, h15b, h⟩ := zX h
 refine yU ?_
 obtain ⟨r16, h17, h⟩ := zB h
 refine yc (cmp_Compare_string_con x12 x14 _ h17) ?_
 refine yU ?_
 refine yd (zn (zb (zs (zr ?_))))
 refine zU (zl (zn ?_))
 rcases zI h with ⟨h18, h⟩ | ⟨h18, h⟩
 refine zi (zr ?_)
 refine zU (zl (yn (yn ?_)))
 cases h
 exact ⟨rfl, zE⟩
 refine zj (zs (zr ?_))
 refine zU (zl (zn ?_))
 rcases zI h with ⟨h19, h⟩ | ⟨h19, h⟩
 refine zi (zr ?_)
 refine zU (zl (yn (yn ?_)))
 cases h
 exact ⟨rfl, zE⟩
 refine zj (zr ?_)
 refine zU (zl (yn (yn ?_)))
 cases h
 exact ⟨rfl, zE⟩
 refine zj (zx (ze ?_))
 cases h
 exact ⟨rfl, zE⟩
 refine zw 13 false ?_
 refine zh ?_
 refine zU (zl (zn ?_))
 refine zj (zx (ze ?_))
 cases h
 exact ⟨rfl, zE⟩
 try simp only at h
 refine zA (yh (zn (zs (zr ?_))))
 refine zU (zl (zn (zq ?_)))
 cases h
 exact zT Try.results20
end Go.Proofs.Ytbiklagfjeileaa
set_option linter.unusedVariables false
set_option linter.unusedSimpArgs false
namespace Go.Proofs.Ytbiklagfjeileaa
open Go Go.Ab
set_option maxRecDepth 20000 in
set_option maxHeartbeats 4000000 in
theorem blocking_Filter_1_con {D : Prop} (a1 : Int) (b2 : Int) (c3 : List Int) (c4 : Int) (c5 : List (List (List UInt8))) (c6 : Int) (r7 : Bool) (h : blocking_Filter_1 a1 b2 c3 c4 c5 c6 = some r7) : Con D Try.prog 19 [(.int .i64 a1), (.int .i64 b2), .imm [.slc (List.map (PV.int .i64) c3)], .imm [.int .i64 c4], .imm [.slc (List.map (encL PV.str) c5)], .imm [.int .i64 c6]] (.bool r7) := by
 refine zP Try.call19 Try.func19 rfl Try.ntmps19 fun X w => ?_
 simp only [blocking_Filter_1] at h
 refine zs (zr ?_)
 refine zU (zl (zn (zs (zd ?_))))
 obtain ⟨x8, h9, h9a, h9b, h⟩ := zX h
 obtain ⟨x10, h11, h11a, h11b, h⟩ := zX h
 refine yU ?_
 refine yd (zn (zs (zd ?_)))
 refine yU ?_
 rcases zI h with ⟨h12, h⟩ | ⟨h12, h⟩
 refine yw 28 true ?_
 refine yg ?_
 refine yg ?_
 obtain ⟨x13, h14, h14a, h14b, h⟩ := zX h
 refine yg ?_
 refine yg ?_
 refine yg ?_
 refine yg ?_
 obtain ⟨x15, h16, h16a, h16b, h⟩ := zX h
 refine yg ?_
 refine yg ?_
 obtain ⟨r17, h18, h⟩ := zB h
 replace h := h.symm
 refine yc (blocking_common_con x13 x15 _ h18) ?_
 refine yg ?_
 refine yg ?_
 refine yg ?_
 refine yg ?_
 refine yg ?_
 refine yg ?_
 refine yg ?_
 refine yg ?_
 refine yg ?_
 refine yg ?_
 refine yg ?_
 refine yU ?_
 refine yd (zn (zq ?_))
 cases h
 exact zT Try.results19
 refine yw 28 false ?_
 refine yk ?_
 refine yU ?_
 refine yd (zn (zq ?_))
 cases h
 exact zT Try.results19
end Go.Proofs.Ytbiklagfjeileaa
set_option linter.unusedVariables false
set_option linter.unusedSimpArgs false
namespace Go.Proofs.Ytbiklagfjeileaa
open Go Go.Ab
set_option maxHeartbeats 4000000 in
theorem cmp_Or_int_con {D : Prop} (v1 : List Int) (r2 : Int) (h : cmp_Or_int v1 = some r2) : Con D Try.prog 24 [(.slc (List.map (PV.int .i64) v1))] (.int .i64 r2) := by
 refine zP Try.call24 Try.func24 rfl Try.ntmps24 fun X w => ?_
 simp only [cmp_Or_int] at h
 refine zs (zr ?_)
 refine zU (zl (zn (zs (zr ?_))))
 refine zU (zl (zn (zs (zs (zr ?_)))))
 refine zU (zl (zn (zb ?_)))
 obtain ⟨o3, h4, h⟩ := zB h
 refine zO (fun (s : Int) => ⟨[(3, .p (.int .i64 0)), (6, .p (.slc (List.map (PV.int .i64) v1))), (7, .p (.int .i64 (v1.length : Int))), (8, .p (.int .i64 s))], []⟩) (fun (o : (Unit) ⊕ (Int)) => match o with | .inl o5 => tE (cX Try.f24 X w D) (.exit 0) ⟨[(3, .p (.int .i64 0))], []⟩ | .inr o6 => tR Try.prog Try.f24 (.int .i64 o6)) h4 ?_ ?_
 clear h h4
 intro t7 x h
 simp only [cmp_Or_int_l1] at h
 refine zs (zr ?_)
 refine zU (zl (zn (zs ?_)))
 rcases zI h with ⟨h8, h⟩ | ⟨h8, h⟩
 refine zi (zk (zn (zs (zb (zs (zr ?_))))))
 obtain ⟨x9, h10, h10a, h10b, h⟩ := zX h
 refine zU (zl (zn (zs (zr ?_))))
 refine zU (zl (zn ?_))
 rcases zI h with ⟨h11, h⟩ | ⟨h11, h⟩
 refine zi (zs (zr ?_))
 refine zU (zl (zn (zq (yr (zt ?_)))))
 cases h
 exact ⟨rfl, zT Try.results24⟩
 refine zj (zk (yn (zn (zr ?_))))
 refine zU (zl ?_)
 cases h
 exact ⟨rfl, zE⟩
 refine zj (zx (ze ?_))
 cases h
 exact ⟨rfl, zE⟩
 rcases o3 with ⟨⟩ | r12
 try simp only at h
 refine zA (yh (zn (zs (zr ?_))))
 refine zU (zl (zn (zq ?_)))
 cases h
 exact zT Try.results24
 try simp only at h
 refine zZ fun s hq => ?_
 refine yr (zt ?_)
 cases h
 exact hq
end Go.Proofs.Ytbiklagfjeileaa
set_option linter.unusedVariables false
set_option linter.unusedSimpArgs false
namespace Go.Proofs.Ytbiklagfjeileaa
open Go Go.Ab
set_option maxHeartbeats 4000000 in
theorem cmp_isNaN_int_con {D : Prop} (x1 : Int) (r2 : Bool) (h : cmp_isNaN_int x1 = some r2) : Con D Try.prog 42 [(.int .i64 x1)] (.bool r2) := by
 refine zP Try.call42 Try.func42 rfl Try.ntmps42 fun X w => ?_
 simp only [cmp_isNaN_int] at h
 refine zs (zr ?_)
 refine zU (zl (zn (zs (zr ?_))))
 refine zU (zl (zn (zq ?_)))
 cases h
 exact zT Try.results42
end Go.Proofs.Ytbiklagfjeileaa
set_option linter.unusedVariables false
set_option linter.unusedSimpArgs false
namespace Go.Proofs.Ytbiklagfjeileaa
open Go Go.Ab
set_option maxHeartbeats 4000000 in
theorem cmp_Compare_int_con {D : Prop} (x1 : Int) (y2 : Int) (r3 : Int) (h : cmp_Compare_int x1 y2 = some r3) : Con D Try.prog 26 [(.int .i64 x1), (.int .i64 y2)] (.int .i64 r3) := by
 refine zP Try.call26 Try.func26 rfl Try.ntmps26 fun X w => ?_
 simp only [cmp_Compare_int] at h
 refine zs (zr ?_)
 refine zU (zl (zn (zs (zr ?_))))
 refine zU ?_
 obtain ⟨r4, h5, h⟩ := zB h
 refine zc (cmp_isNaN_int_con x1 _ h5) ?_
 refine zU (zl (zn (zs (zr ?_))))
 refine zU ?_
 obtain ⟨r6, h7, h⟩ := zB h
 refine zc (cmp_isNaN_int_con y2 _ h7) ?_
 refine zU (zl (zn (zs (zs (zr ?_)))))
 refine zU (zl (zn ?_))
 rcases zI h with ⟨h8, h⟩ | ⟨h8, h⟩
 refine zi (zs (zs (zr ?_)))
 refine zU (zl (zn ?_))
 rcases zI h with ⟨h9, h⟩ | ⟨h9, h⟩
 refine zi (zs (zr ?_))
 refine zU (zl (zn (zq (zt (zt ?_)))))
 cases h
 exact zT Try.results26
 refine zj (zk (zn (zs (zr ?_))))
 refine zU (zl (zn (zq (zt ?_))))
 cases h
 exact zT Try.results26
 refine zj (zk (zn (zs (zs (zr ?_)))))
 refine zU (zl (zn ?_))
 rcases zI h with ⟨h10, h⟩ | ⟨h10, h⟩
 refine zi (zs (zr ?_))
 refine zU (zl (zn (zq (zt ?_))))
 cases h
 exact zT Try.results26
 refine zj (zk (zn (zs (zs (zr ?_)))))
 refine zU (zl (zn ?_))
 rcases zI h with ⟨h11, h⟩ | ⟨h11, h⟩
 refine zi (zs (zr ?_))
 refine zU (zl (zn (zq (zt ?_))))
 cases h
 exact zT Try.results26
 refine zj (zk (zn (zs (zs (zr ?_)))))
 refine zU (zl (zn ?_))
 rcases zI h with ⟨h12, h⟩ | ⟨h12, h⟩
 refine zi (zs (zr ?_))
 refine zU (zl (zn (zq (zt ?_))))
 cases h
 exact zT Try.results26
 refine zj (zk (zn (zs (zr ?_))))
 refine zU (zl (zn (zq ?_)))
 cases h
 exact zT Try.results26
end Go.Proofs.Ytbiklagfjeileaa
set_option linter.unusedVariables false
set_option linter.unusedSimpArgs false
namespace Go.Proofs.Ytbiklagfjeileaa
open Go Go.Ab
set_option maxHeartbeats 4000000 in
theorem cmp_isNaN_int64_con {D : Prop} (x1 : Int) (r2 : Bool) (h : cmp_isNaN_int64 x1 = some r2) : Con D Try.prog 66 [(.int .i64 x1)] (.bool r2) := by
 refine zP Try.call66 Try.func66 rfl Try.ntmps66 fun X w => ?_
 simp only [cmp_isNaN_int64] at h
 refine zs (zr ?_)
 refine zU (zl (zn (zs (zr ?_))))
 refine zU (zl (zn (zq ?_)))
 cases h
 exact zT Try.results66
end Go.Proofs.Ytbiklagfjeileaa
set_option linter.unusedVariables false
set_option linter.unusedSimpArgs false
namespace Go.Proofs.Ytbiklagfjeileaa
open Go Go.Ab
set_option maxHeartbeats 4000000 in
theorem cmp_Compare_int64_con {D : Prop} (x1 : Int) (y2 : Int) (r3 : Int) (h : cmp_Compare_int64 x1 y2 = some r3) : Con D Try.prog 40 [(.int .i64 x1), (.int .i64 y2)] (.int .i64 r3) := by
 refine zP Try.call40 Try.func40 rfl Try.ntmps40 fun X w => ?_
 simp only [cmp_Compare_int64] at h
 refine zs (zr ?_)
 refine zU (zl (zn (zs (zr ?_))))
 refine zU ?_
 obtain ⟨r4, h5, h⟩ := zB h
 refine zc (cmp_isNaN_int64_con x1 _ h5) ?_
 refine zU (zl (zn (zs (zr ?_))))
 refine zU ?_
 obtain ⟨r6, h7, h⟩ := zB h
 refine zc (cmp_isNaN_int64_con y2 _ h7) ?_
 refine zU (zl (zn (zs (zs (zr ?_)))))
 refine zU (zl (zn ?_))
 rcases zI h with ⟨h8, h⟩ | ⟨h8, h⟩
 refine zi (zs (zs (zr ?_)))
 refine zU (zl (zn ?_))
 rcases zI h with ⟨h9, h⟩ | ⟨h9, h⟩
 refine zi (zs (zr ?_))
 refine zU (zl (zn (zq (zt (zt ?_)))))
 cases h
 exact zT Try.results40
 refine zj (zk (zn (zs (zr ?_))))
 refine zU (zl (zn (zq (zt ?_))))
 cases h
 exact zT Try.results40
 refine zj (zk (zn (zs (zs (zr ?_)))))
 refine zU (zl (zn ?_))
 rcases zI h with ⟨h10, h⟩ | ⟨h10, h⟩
 refine zi (zs (zr ?_))
 refine zU (zl (zn (zq (zt ?_))))
 cases h
 exact zT Try.results40
 refine zj (zk (zn (zs (zs (zr ?_)))))
 refine zU (zl (zn ?_))
 rcases zI h with ⟨h11, h⟩ | ⟨h11, h⟩
 refine zi (zs (zr ?_))
 refine zU (zl (zn (zq (zt ?_))))
 cases h
 exact zT Try.results40
 refine zj (zk (zn (zs (zs (zr ?_)))))
 refine zU (zl (zn ?_))
 rcases zI h with ⟨h12, h⟩ | ⟨h12, h⟩
 refine zi (zs (zr ?_))
 refine zU (zl (zn (zq (zt ?_))))
 cases h
 exact zT Try.results40
 refine zj (zk (zn (zs (zr ?_))))
 refine zU (zl (zn (zq ?_)))
 cases h
 exact zT Try.results40
end Go.Proofs.Ytbiklagfjeileaa
namespace Go.Proofs.Ytbiklagfjeileaa
open Go Go.Ab
theorem ext92 (a b : List UInt8) (w : World) : (callFunc 92 #[.string ⟨a.toArray⟩, .string ⟨b.toArray⟩]).run Try.prog w = .ok (.value (.int .i64 (Lib.compareBytes a b))) w := by
  rw [run_callFunc_extern Try.func92 (by kernel_rfl) (by kernel_rfl) (by kernel_rfl) (e := Extern.BytealgCompare.compare) (by kernel_rfl), Lib.run_compareString]
  rfl
end Go.Proofs.Ytbiklagfjeileaa
set_option linter.unusedVariables false
set_option linter.unusedSimpArgs false
namespace Go.Proofs.Ytbiklagfjeileaa
open Go Go.Ab
set_option maxHeartbeats 4000000 in
theorem bytealg_CompareString_con {D : Prop} (a1 : List UInt8) (b2 : List UInt8) (r3 : Int) (h : bytealg_CompareString a1 b2 = some r3) : Con D Try.prog 67 [(.str a1), (.str b2)] (.int .i64 r3) := by
 refine zP Try.call67 Try.func67 rfl Try.ntmps67 fun X w => ?_
 simp only [bytealg_CompareString] at h
 refine zs (zr ?_)
 refine zU (zl (zn (zs (zr ?_))))
 refine zU ?_
 refine AL_ext2 (ext92 a1 b2) (by simp only [go_sem, seval]; all_goals ((repeat' refine And.intro ?_ ?_) <;> first | rfl | (simp; done) | (simp; rfl) | (simp [*]; done) | (simp [*]; rfl))) (by simp only [go_sem, seval]; all_goals ((repeat' refine And.intro ?_ ?_) <;> first | rfl | (simp; done) | (simp; rfl) | (simp [*]; done) | (simp [*]; rfl))) rfl ?_
 refine zU (zl (zn (zq ?_)))
 cases h
 exact zT Try.results67
end Go.Proofs.Ytbiklagfjeileaa
set_option linter.unusedVariables false
set_option linter.unusedSimpArgs false
namespace Go.Proofs.Ytbiklagfjeileaa
open Go Go.Ab
set_option maxHeartbeats 4000000 in
theorem strings_Compare_con {D : Prop} (a1 : List UInt8) (b2 : List UInt8) (r3 : Int) (h : strings_Compare a1 b2 = some r3) : Con D Try.prog 41 [(.str a1), (.str b2)] (.int .i64 r3) := by
 refine zP Try.call41 Try.func41 rfl Try.ntmps41 fun X w => ?_
 simp only [strings_Compare] at h
 refine zs (zr ?_)
 refine zU (zl (zn (zs (zr ?_))))
 refine zU ?_
 obtain ⟨r4, h5, h⟩ := zB h
 refine zc (bytealg_CompareString_con a1 b2 _ h5) ?_
 refine zU (zl (zn (zq ?_)))
 cases h
 exact zT Try.results41
end Go.Proofs.Ytbiklagfjeileaa
set_option linter.unusedVariables false
set_option linter.unusedSimpArgs false
namespace Go.Proofs.Ytbiklagfjeileaa
open Go Go.Ab
set_option maxRecDepth 20000 in
set_option maxHeartbeats 4000000 in
theorem value_Compare_con {D : Prop} (a1 : Value) (b2 : Value) (r3 : Int) (h : value_Compare a1 b2 = some r3) : Con D Try.prog 25 [(encValue a1), (encValue b2)] (.int .i64 r3) := by
 refine zP Try.call25 Try.func25 rfl Try.ntmps25 fun X w => ?_
 simp only [value_Compare] at h
 refine zs (zr ?_)
 refine zU (zl (zn (zs (zd ?_))))
 refine yU ?_
 obtain ⟨r4, h5, h⟩ := zB h
 refine yc (cmp_Compare_int_con a1.Kind b2.Kind _ h5) ?_
 refine yU ?_
 obtain ⟨r6, h7, h⟩ := zB h
 refine yc (cmp_Compare_int64_con a1.Num b2.Num _ h7) ?_
 refine yU ?_
 obtain ⟨r8, h9, h⟩ := zB h
 refine yc (strings_Compare_con a1.Str b2.Str _ h9) ?_
 refine yU ?_
 obtain ⟨r10, h11, h⟩ := zB h
 refine yc (cmp_Or_int_con [r4, r6, r8] _ h11) ?_
 refine yU ?_
 refine yd (zn (zq ?_))
 cases h
 exact zT Try.results25
end Go.Proofs.Ytbiklagfjeileaa
set_option linter.unusedVariables false
set_option linter.unusedSimpArgs false
namespace Go.Proofs.Ytbiklagfjeileaa
open Go Go.Ab
set_option maxRecDepth 20000 in
set_option maxHeartbeats 4000000 in
theorem blocking_alike_1_con {D : Prop} (i1 : Int) (k2 : Int) (c3 : Table) (c4 : Int) (c5 : Int → Int → Option (Bool)) (c5_k : FuncId) (c5_cs : List PV) (c5_h : ∀ (y6 : Int) (y7 : Int) (r8 : Bool), c5 y6 y7 = some r8 → Con D Try.prog c5_k ((.int .i64 y6) :: (.int .i64 y7) :: c5_cs) (.bool r8)) (r9 : Bool) (h : blocking_alike_1 i1 k2 c3 c4 c5 = some r9) : Con D Try.prog 36 [(.int .i64 i1), (.int .i64 k2), .imm [.str c3.Name, .slc (List.map PV.str c3.Attrs), .slc (List.map encRow c3.Rows)], .imm [.int .i64 c4], .imm [.func (.func c5_k) c5_cs]] (.bool r9) := by
 refine zP Try.call36 Try.func36 rfl Try.ntmps36 fun X w => ?_
 simp only [blocking_alike_1] at h
 refine zs (zr ?_)
 refine zU (zl (zn (zs (zd ?_))))
 obtain ⟨x10, h11, h11a, h11b, h⟩ := zX h
 obtain ⟨x12, h13, h13a, h13b, h⟩ := zX h
 obtain ⟨x14, h15, h15a, h15b, h⟩ := zX h
 obtain ⟨x16, h17, h17a, h17b, h⟩ := zX h
 refine yU ?_
 refine yd (zn (zs ?_))
 obtain ⟨t18, h19, h⟩ := zB h
 refine zJ (fun (o20 : Bool) => tE (cX Try.f36 X w D) .normal ⟨[(0, .p (.int .i64 i1)), (1, .p (.int .i64 k2)), (4, .p (.imm [.func (.func c5_k) c5_cs])), (8, .loc 8 1 0 0), (9, .loc 9 1 0 0), (35, .p (.bool o20))], [(8, .arr 37 3 1 [.p (encValue x12)]), (9, .arr 37 3 1 [.p (encValue x16)])]⟩) t18 ?_ ?_
 replace h := h19
 clear h19
 refine zr ?_
 refine zU ?_
 rcases zI h with ⟨h21, h⟩ | ⟨h21, h⟩
 replace h := h.symm
 refine zw 31 true ?_
 refine zg ?_
 refine zg ?_
 refine zg ?_
 refine zU (zl ?_)
 cases h
 exact ⟨rfl, zE⟩
 refine zw 31 false ?_
 refine zh ?_
 refine zU (zl ?_)
 cases h
 exact ⟨rfl, zE⟩
 try simp only at h
 refine zA (zn ?_)
 rcases zI h with ⟨h22, h⟩ | ⟨h22, h⟩
 refine zi (zs (zr ?_))
 refine zU ?_
 obtain ⟨r23, h24, h⟩ := zB h
 refine zc (c5_h i1 k2 _ h24) ?_
 refine zU (zl (zn (zq (zt ?_))))
 cases h
 exact zT Try.results36
 refine zj (zk (zn (zs (zr ?_))))
 refine zU ?_
 obtain ⟨r25, h26, h⟩ := zB h
 refine zc (value_Compare_con x12 x16 _ h26) ?_
 refine zU (zl (zn (zq ?_)))
 cases h
 exact zT Try.results36
end Go.Proofs.Ytbiklagfjeileaa
set_option linter.unusedVariables false
set_option linter.unusedSimpArgs false
namespace Go.Proofs.Ytbiklagfjeileaa
open Go Go.Ab
set_option maxRecDepth 20000 in
set_option maxHeartbeats 4000000 in
theorem blocking_Filter_con (t1 : Table) (a2 : Int) (k3 : Int) (q4 : Int) (r5 : List Arr2_int64 × Int) (h : blocking_Filter t1 a2 k3 q4 = some r5) : Con False Try.prog 7 [(encTable t1), (.int .i64 a2), (.int .i64 k3), (.int .i64 q4)] (.tup [(.slc (List.map encArr2_int64 r5.1)), (.int .i64 r5.2)]) := by
 refine zP Try.call7 Try.func7 rfl Try.ntmps7 fun X w => ?_
 simp only [blocking_Filter] at h
 refine zs (zr ?_)
 refine zU (zl (zn (zs ?_)))
 obtain ⟨e6, h7, h⟩ := zB h
 refine zJ (fun (o8 : Int) => tE (cX Try.f7 X w False) .normal ⟨[(1, .p (.int .i64 a2)), (4, .loc 4 1 0 0), (6, .loc 6 1 0 0), (7, .loc 7 1 0 0), (10, .p (.int .i64 o8))], [(4, .arr 25 3 1 [.p (encTable t1)]), (6, .arr 3 1 1 [.p (.int .i64 k3)]), (7, .arr 3 1 1 [.p (.int .i64 q4)])]⟩) e6 ?_ ?_
 replace h := h7
 clear h7
 refine zr ?_
 refine zU ?_
 rcases zI h with ⟨h9, h⟩ | ⟨h9, h⟩
 refine zw 22 true ?_
 refine zg ?_
 refine zg ?_
 refine zU ?_
 rcases zI h with ⟨h10, h⟩ | ⟨h10, h⟩
 refine zw 26 true ?_
 refine zg ?_
 refine zg ?_
 refine zU ?_
 rcases zI h with ⟨h11, h⟩ | ⟨h11, h⟩
 refine zw 30 true ?_
 refine zg ?_
 refine zg ?_
 refine zU ?_
 obtain ⟨r12, h13, h⟩ := zB h
 refine zc (blocking_check_con t1 a2 (decide (q4 ≤ 4)) _ h13) ?_
 refine zU (zl ?_)
 cases h
 exact ⟨rfl, zE⟩
 refine zw 30 false ?_
 refine zh ?_
 refine zU ?_
 obtain ⟨r14, h15, h⟩ := zB h
 refine zc (blocking_check_con t1 a2 false _ h15) ?_
 refine zU (zl ?_)
 cases h
 exact ⟨rfl, zE⟩
 refine zw 26 false ?_
 refine zh ?_
 refine zU ?_
 refine zh ?_
 refine zU ?_
 obtain ⟨r16, h17, h⟩ := zB h
 refine zc (blocking_check_con t1 a2 false _ h17) ?_
 refine zU (zl ?_)
 cases h
 exact ⟨rfl, zE⟩
 refine zw 22 false ?_
 refine zh ?_
 refine zU ?_
 refine zh ?_
 refine zU ?_
 refine zh ?_
 refine zU ?_
 obtain ⟨r18, h19, h⟩ := zB h
 refine zc (blocking_check_con t1 a2 false _ h19) ?_
 refine zU (zl ?_)
 cases h
 exact ⟨rfl, zE⟩
 try simp only at h
 refine zA (zn (zs (zr ?_)))
 refine zU (zl (zn ?_))
 rcases zI h with ⟨h20, h⟩ | ⟨h20, h⟩
 refine zi (zs (zr ?_))
 refine zU (zl (zn (zq (zt ?_))))
 cases h
 exact zT Try.results7
 refine zj (zk (zn (zs (zr ?_))))
 obtain ⟨h21, h⟩ := ite_some h
 obtain ⟨h22, h⟩ := ite_some h
 refine zU (zl (zn (zs (zr ?_))))
 obtain ⟨h23, h⟩ := ite_some h
 refine zU (zl (zn (zs (zs (zr ?_)))))
 refine zU (zl (zn (zb ?_)))
 obtain ⟨o24, h25, h⟩ := zB h
 refine zO (fun (s : List (List (List UInt8)) × List Int × Int) => ⟨[(1, .p (.int .i64 a2)), (4, .loc 4 1 0 0), (6, .loc 6 1 0 0), (7, .loc 7 1 0 0), (11, .loc 11 1 0 0), (12, .loc 12 1 0 0), (47, .p (.slc (List.map encRow t1.Rows))), (48, .p (.int .i64 (t1.Rows.length : Int))), (49, .p (.int .i64 s.2.2))], [(4, .arr 25 3 1 [.p (encTable t1)]), (6, .arr 3 1 1 [.p (.int .i64 k3)]), (7, .arr 3 1 1 [.p (.int .i64 q4)]), (11, .arr 48 1 1 [.own 41 1 0 s.1.length]), (12, .arr 49 1 1 [.own 45 1 0 s.2.1.length]), (41, .arr 22 1 1 (List.map AV.p (List.map (encL PV.str) s.1))), (45, .arr 3 1 1 (List.map AV.p (List.map (PV.int .i64) s.2.1)))]⟩) (fun (o : (List (List (List UInt8)) × List Int) ⊕ (List Arr2_int64 × Int)) => match o with | .inl o26 => tE (cX Try.f7 X w False) (.exit 0) ⟨[(1, .p (.int .i64 a2)), (4, .loc 4 1 0 0), (6, .loc 6 1 0 0), (7, .loc 7 1 0 0), (11, .loc 11 1 0 0), (12, .loc 12 1 0 0)], [(4, .arr 25 3 1 [.p (encTable t1)]), (6, .arr 3 1 1 [.p (.int .i64 k3)]), (7, .arr 3 1 1 [.p (.int .i64 q4)]), (11, .arr 48 1 1 [.own 41 1 0 o26.1.length]), (12, .arr 49 1 1 [.own 45 1 0 o26.2.length]), (41, .arr 22 1 1 (List.map AV.p (List.map (encL PV.str) o26.1))), (45, .arr 3 1 1 (List.map AV.p (List.map (PV.int .i64) o26.2)))]⟩ | .inr o27 => tR Try.prog Try.f7 (.tup [(.slc (List.map encArr2_int64 o27.1)), (.int .i64 o27.2)])) h25 ?_ ?_
 clear h h20 h21 h22 h23 h25
 intro s x h
 obtain ⟨g28, s29, t30⟩ := s
 simp only [blocking_Filter_l1] at h
 dsimp only
 refine zs (zr ?_)
 refine zU (zl (zn (zs ?_)))
 rcases zI h with ⟨h31, h⟩ | ⟨h31, h⟩
 refine zi (zk (zn (zs (zb (zs (zr ?_))))))
 obtain ⟨x32, h33, h33a, h33b, h⟩ := zX h
 refine zU (zl (zn (zs (zr ?_))))
 obtain ⟨x34, h35, h35a, h35b, h⟩ := zX h
 refine zU (zl (zn (zs (zr ?_))))
 refine zU (zl (zn ?_))
 rcases zI h with ⟨h36, h⟩ | ⟨h36, h⟩
 refine zi (zs (zr ?_))
 refine zU ?_
 obtain ⟨r37, h38, h⟩ := zB h
 refine zc (similarity_Grams_con x34.Str q4 _ h38) ?_
 refine zU (zl (zn (zs (zs (zr ?_)))))
 refine zU (zl (zn ?_))
 rcases zI h with ⟨h39, h⟩ | ⟨h39, h⟩
 refine zi (zs (zr ?_))
 refine zU (zl (zn (zq (zt (yr (zt ?_))))))
 cases h
 exact ⟨rfl, zT Try.results7⟩
 refine zj (zk (zn (zd ?_)))
 obtain ⟨x40, h41, h41a, h41b, h⟩ := zX h
 obtain ⟨x42, h43, h43a, h43b, h⟩ := zX h
 refine yU ?_
 refine yd (yn (zn (zr ?_)))
 refine zU (zl ?_)
 cases h
 exact ⟨rfl, zE⟩
 refine zj (zk (yn (zn (zr ?_))))
 refine zU (zl ?_)
 cases h
 exact ⟨rfl, zE⟩
 refine zj (zx (ze ?_))
 cases h
 exact ⟨rfl, zE⟩
 rcases o24 with ⟨g44, s45⟩ | r46
 try simp only at h
 refine zA (yh (zn (zs ?_)))
 refine zL ⟨[(1, .p (.int .i64 a2)), (4, .loc 4 1 0 0), (6, .p (.imm [.int .i64 k3])), (7, .p (.imm [.int .i64 q4])), (11, .p (.imm [.slc (List.map (encL PV.str) g44)])), (12, .p (.imm [.slc (List.map (PV.int .i64) s45)]))], [(4, .arr 25 3 1 [.p (encTable t1)])]⟩ ?_
 refine zd ?_
 refine yU ?_
 obtain ⟨r47, h48, h⟩ := zB h
 refine yc (blocking_alike_con t1 a2 (fun (y49 : Int) (y50 : Int) => blocking_Filter_1 y49 y50 s45 k3 g44 q4) 19 [.imm [.slc (List.map (PV.int .i64) s45)], .imm [.int .i64 k3], .imm [.slc (List.map (encL PV.str) g44)], .imm [.int .i64 q4]] (fun y49 y50 r h => blocking_Filter_1_con y49 y50 s45 k3 g44 q4 r h) _ h48) ?_
 obtain ⟨r51, h52, h⟩ := zB h
 refine yc (blocking_pairs_con t1 (fun (y53 : Int) (y54 : Int) => blocking_alike_1 y53 y54 t1 a2 (fun (y55 : Int) (y56 : Int) => blocking_Filter_1 y55 y56 s45 k3 g44 q4)) 36 [.imm [.str t1.Name, .slc (List.map PV.str t1.Attrs), .slc (List.map encRow t1.Rows)], .imm [.int .i64 a2], .imm [.func (.func 19) [.imm [.slc (List.map (PV.int .i64) s45)], .imm [.int .i64 k3], .imm [.slc (List.map (encL PV.str) g44)], .imm [.int .i64 q4]]]] (fun y53 y54 r h => blocking_alike_1_con y53 y54 t1 a2 (fun (y55 : Int) (y56 : Int) => blocking_Filter_1 y55 y56 s45 k3 g44 q4) 19 [.imm [.slc (List.map (PV.int .i64) s45)], .imm [.int .i64 k3], .imm [.slc (List.map (encL PV.str) g44)], .imm [.int .i64 q4]] (fun y55 y56 r h => blocking_Filter_1_con y55 y56 s45 k3 g44 q4 r h) r h) _ h52) ?_
 refine yU ?_
 refine yd (zn (zq ?_))
 cases h
 exact zT Try.results7
 try simp only at h
 refine zZ fun s hq => ?_
 refine yr (zt ?_)
 cases h
 exact hq
end Go.Proofs.Ytbiklagfjeileaa
set_option linter.unusedVariables false
set_option linter.unusedSimpArgs false
namespace Go.Proofs.Ytbiklagfjeileaa
open Go Go.Ab
set_option maxRecDepth 20000 in
set_option maxHeartbeats 4000000 in
theorem blocking_Window_1_con {D : Prop} (i1 : Int) (k2 : Int) (c3 : Table) (c4 : Int) (r5 : Int) (h : blocking_Window_1 i1 k2 c3 c4 = some r5) : Con D Try.prog 23 [(.int .i64 i1), (.int .i64 k2), .imm [.str c3.Name, .slc (List.map PV.str c3.Attrs), .slc (List.map encRow c3.Rows)], .imm [.int .i64 c4]] (.int .i64 r5) := by
 refine zP Try.call23 Try.func23 rfl Try.ntmps23 fun X w => ?_
 simp only [blocking_Window_1] at h
 refine zs (zr ?_)
 refine zU (zl (zn (zs (zd ?_))))
 obtain ⟨x6, h7, h7a, h7b, h⟩ := zX h
 obtain ⟨x8, h9, h9a, h9b, h⟩ := zX h
 obtain ⟨x10, h11, h11a, h11b, h⟩ := zX h
 obtain ⟨x12, h13, h13a, h13b, h⟩ := zX h
 refine yU ?_
 obtain ⟨r14, h15, h⟩ := zB h
 refine yc (value_Compare_con x8 x12 _ h15) ?_
 refine yU ?_
 obtain ⟨r16, h17, h⟩ := zB h
 refine yc (cmp_Compare_int_con i1 k2 _ h17) ?_
 refine yU ?_
 obtain ⟨r18, h19, h⟩ := zB h
 refine yc (cmp_Or_int_con [r14, r16] _ h19) ?_
 refine yU ?_
 refine yd (zn (zq ?_))
 cases h
 exact zT Try.results23
end Go.Proofs.Ytbiklagfjeileaa
set_option linter.unusedVariables false
set_option linter.unusedSimpArgs false
namespace Go.Proofs.Ytbiklagfjeileaa
open Go Go.Ab
set_option maxRecDepth 20000 in
set_option maxHeartbeats 4000000 in
theorem blocking_Window_2_con {D : Prop} (i1 : Int) (k2 : Int) (c3 : List Int) (c4 : Int) (r5 : Bool) (h : blocking_Window_2 i1 k2 c3 c4 = some r5) : Con D Try.prog 27 [(.int .i64 i1), (.int .i64 k2), .imm [.slc (List.map (PV.int .i64) c3)], .imm [.int .i64 c4]] (.bool r5) := by
 refine zP Try.call27 Try.func27 rfl Try.ntmps27 fun X w => ?_
 simp only [blocking_Window_2] at h
 refine zs (zr ?_)
 refine zU (zl (zn (zs (zd ?_))))
 obtain ⟨x6, h7, h7a, h7b, h⟩ := zX h
 obtain ⟨x8, h9, h9a, h9b, h⟩ := zX h
 refine yU ?_
 refine yd (zn (zq ?_))
 cases h
 exact zT Try.results27
end Go.Proofs.Ytbiklagfjeileaa
set_option linter.unusedVariables false
set_option linter.unusedSimpArgs false
namespace Go.Proofs.Ytbiklagfjeileaa
open Go Go.Ab
set_option maxHeartbeats 4000000 in
theorem blocking_Window_con {D : Prop} (t1 : Table) (a2 : Int) (w3 : Int) (r4 : List Arr2_int64 × Int) (h : blocking_Window t1 a2 w3 = some r4) : Con D Try.prog 10 [(encTable t1), (.int .i64 a2), (.int .i64 w3)] (.tup [(.slc (List.map encArr2_int64 r4.1)), (.int .i64 r4.2)]) := by
 refine zP Try.call10 Try.func10 rfl Try.ntmps10 fun X w => ?_
 simp only [blocking_Window] at h
 refine zs (zr ?_)
 refine zU (zl (zn (zs ?_)))
 obtain ⟨e5, h6, h⟩ := zB h
 refine zJ (fun (o7 : Int) => tE (cX Try.f10 X w D) .normal ⟨[(3, .loc 3 1 0 0), (4, .loc 4 1 0 0), (5, .loc 5 1 0 0), (8, .p (.int .i64 o7))], [(3, .arr 25 3 1 [.p (encTable t1)]), (4, .arr 3 1 1 [.p (.int .i64 a2)]), (5, .arr 3 1 1 [.p (.int .i64 w3)])]⟩) e5 ?_ ?_
 replace h := h6
 clear h6
 refine zr ?_
 refine zU ?_
 rcases zI h with ⟨h8, h⟩ | ⟨h8, h⟩
 refine zw 18 true ?_
 refine zg ?_
 refine zg ?_
 refine zU ?_
 obtain ⟨r9, h10, h⟩ := zB h
 refine zc (blocking_check_con t1 a2 (decide (w3 ≤ 200)) _ h10) ?_
 refine zU (zl ?_)
 cases h
 exact ⟨rfl, zE⟩
 refine zw 18 false ?_
 refine zh ?_
 refine zU ?_
 obtain ⟨r11, h12, h⟩ := zB h
 refine zc (blocking_check_con t1 a2 false _ h12) ?_
 refine zU (zl ?_)
 cases h
 exact ⟨rfl, zE⟩
 try simp only at h
 refine zA (zn (zs (zr ?_)))
 refine zU (zl (zn ?_))
 rcases zI h with ⟨h13, h⟩ | ⟨h13, h⟩
 refine zi (zs (zr ?_))
 refine zU (zl (zn (zq (zt ?_))))
 cases h
 exact zT Try.results10
 refine zj (zk (zn (zs (zr ?_))))
 obtain ⟨h14, h⟩ := ite_some h
 obtain ⟨h15, h⟩ := ite_some h
 refine zU (zl (zn (zs (zs (zr ?_)))))
 refine zU (zl (zn (zb ?_)))
 obtain ⟨o16, h17, h⟩ := zB h
 refine zO (fun (s : List Int × Int) => ⟨[(3, .loc 3 1 0 0), (4, .loc 4 1 0 0), (5, .loc 5 1 0 0), (9, .own 29 1 0 s.1.length), (31, .p (.int .i64 ((t1.Rows.length : Nat) : Int))), (32, .p (.int .i64 s.2))], [(3, .arr 25 3 1 [.p (encTable t1)]), (4, .arr 3 1 1 [.p (.int .i64 a2)]), (5, .arr 3 1 1 [.p (.int .i64 w3)]), (29, .arr 3 1 1 (List.map AV.p (List.map (PV.int .i64) s.1)))]⟩) (fun (o18 : List Int) => tE (cX Try.f10 X w D) (.exit 0) ⟨[(3, .loc 3 1 0 0), (4, .loc 4 1 0 0), (5, .loc 5 1 0 0), (9, .own 29 1 0 o18.length)], [(3, .arr 25 3 1 [.p (encTable t1)]), (4, .arr 3 1 1 [.p (.int .i64 a2)]), (5, .arr 3 1 1 [.p (.int .i64 w3)]), (29, .arr 3 1 1 (List.map AV.p (List.map (PV.int .i64) o18)))]⟩) h17 ?_ ?_
 clear h h13 h14 h15 h17
 intro s x h
 obtain ⟨o19, t20⟩ := s
 simp only [blocking_Window_l1] at h
 dsimp only
 refine zs (zr ?_)
 refine zU (zl (zn (zs ?_)))
 rcases zI h with ⟨h21, h⟩ | ⟨h21, h⟩
 refine zi (zk (zn (zs (zb (zs (zr ?_))))))
 refine zU (zl (zn (zr ?_)))
 obtain ⟨x22, h23, h23a, h23b, h⟩ := zX h
 refine zU (zl (yn (zn (zr ?_))))
 refine zU (zl ?_)
 cases h
 exact ⟨rfl, zE⟩
 refine zj (zx (ze ?_))
 cases h
 exact ⟨rfl, zE⟩
 try simp only at h
 refine zA (yh (zn (zs (zr ?_))))
 refine zU ?_
 refine zM ⟨[(3, .loc 3 1 0 0), (5, .loc 5 1 0 0), (9, .own 29 1 0 o16.length), (40, .own 29 1 0 o16.length), (41, .func (.func 23) [.loc 3 1 0 0, .loc 4 1 0 0])], [(3, .arr 25 3 1 [.p (encTable t1)]), (4, .arr 3 1 1 [.p (.int .i64 a2)]), (5, .arr 3 1 1 [.p (.int .i64 w3)]), (29, .arr 3 1 1 (List.map AV.p (List.map (PV.int .i64) o16)))]⟩ ?_
 obtain ⟨l24, h25, h⟩ := zB h
 refine zSF srt22 (PV.int .i64) (fun (y26 : Int) (y27 : Int) => blocking_Window_1 y26 y27 t1 a2) h25 (fun y26 y27 r h => blocking_Window_1_con y26 y27 t1 a2 r h) ?_
 have h28 := srtF_len h25
 refine zM ⟨[(3, .loc 3 1 0 0), (5, .loc 5 1 0 0), (9, .own 29 1 0 l24.length), (42, .p (.tup []))], [(3, .arr 25 3 1 [.p (encTable t1)]), (5, .arr 3 1 1 [.p (.int .i64 w3)]), (29, .arr 3 1 1 (List.map AV.p (List.map (PV.int .i64) l24)))]⟩ ?_
 clear h28
 refine zl (zn (zs (zr ?_)))
 obtain ⟨h29, h⟩ := ite_some h
 obtain ⟨h30, h⟩ := ite_some h
 refine zU (zl (zn (zs (zs (zr ?_)))))
 refine zU (zl (zn (zb ?_)))
 obtain ⟨p31, h32, h⟩ := zB h
 refine zO (fun (s : List Int × Int) => ⟨[(3, .loc 3 1 0 0), (5, .loc 5 1 0 0), (11, .loc 11 1 0 0), (46, .own 29 1 0 l24.length), (47, .p (.int .i64 ((l24.length : Nat) : Int))), (48, .p (.int .i64 s.2))], [(3, .arr 25 3 1 [.p (encTable t1)]), (5, .arr 3 1 1 [.p (.int .i64 w3)]), (11, .arr 49 1 1 [.own 45 1 0 s.1.length]), (29, .arr 3 1 1 (List.map AV.p (List.map (PV.int .i64) l24))), (45, .arr 3 1 1 (List.map AV.p (List.map (PV.int .i64) s.1)))]⟩) (fun (o33 : List Int) => tE (cX Try.f10 X w D) (.exit 2) ⟨[(3, .loc 3 1 0 0), (5, .loc 5 1 0 0), (11, .loc 11 1 0 0)], [(3, .arr 25 3 1 [.p (encTable t1)]), (5, .arr 3 1 1 [.p (.int .i64 w3)]), (11, .arr 49 1 1 [.own 45 1 0 o33.length]), (45, .arr 3 1 1 (List.map AV.p (List.map (PV.int .i64) o33)))]⟩) h32 ?_ ?_
 clear h h13 h14 h15 h17 h25 h29 h30 h32
 intro s x h
 obtain ⟨p34, t35⟩ := s
 simp only [blocking_Window_l2] at h
 dsimp only
 refine zs (zr ?_)
 refine zU (zl (zn (zs ?_)))
 rcases zI h with ⟨h36, h⟩ | ⟨h36, h⟩
 refine zi (zk (zn (zs (zb (zs (zr ?_))))))
 obtain ⟨x37, h38, h38a, h38b, h⟩ := zX h
 refine zU (zl (zn (zr ?_)))
 obtain ⟨x39, h40, h40a, h40b, h⟩ := zX h
 refine zU (zl (yn (zn (zr ?_))))
 refine zU (zl ?_)
 cases h
 exact ⟨rfl, zE⟩
 refine zj (zx (ze ?_))
 cases h
 exact ⟨rfl, zE⟩
 try simp only at h
 refine zA (yh (zn (zs (zr ?_))))
 refine zU ?_
 refine zM ⟨[(58, .p (encTable t1)), (59, .p (.func (.func 27) [.imm [.slc (List.map (PV.int .i64) p31)], .imm [.int .i64 w3]]))], []⟩ ?_
 obtain ⟨r41, h42, h⟩ := zB h
 refine zc (blocking_pairs_con t1 (fun (y43 : Int) (y44 : Int) => blocking_Window_2 y43 y44 p31 w3) 27 [.imm [.slc (List.map (PV.int .i64) p31)], .imm [.int .i64 w3]] (fun y43 y44 r h => blocking_Window_2_con y43 y44 p31 w3 r h) _ h42) ?_
 refine zU (zl (zn (zq ?_)))
 cases h
 exact zT Try.results10
end Go.Proofs.Ytbiklagfjeileaa
set_option linter.unusedVariables false
set_option linter.unusedSimpArgs false
namespace Go.Proofs.Ytbiklagfjeileaa
open Go Go.Ab
set_option maxRecDepth 20000 in
set_option maxHeartbeats 4000000 in
theorem blocking_Prefix_1_con {D : Prop} (i1 : Int) (c2 : Table) (c3 : Int) (c4 : Int) (r5 : List UInt8) (h : blocking_Prefix_1 i1 c2 c3 c4 = some r5) : Con D Try.prog 28 [(.int .i64 i1), .imm [.str c2.Name, .slc (List.map PV.str c2.Attrs), .slc (List.map encRow c2.Rows)], .imm [.int .i64 c3], .imm [.int .i64 c4]] (.str r5) := by
 refine zP Try.call28 Try.func28 rfl Try.ntmps28 fun X w => ?_
 simp only [blocking_Prefix_1] at h
 refine zs (zr ?_)
 refine zU (zl (zn (zs (zd ?_))))
 obtain ⟨x6, h7, h7a, h7b, h⟩ := zX h
 obtain ⟨x8, h9, h9a, h9b, h⟩ := zX h
 refine yU ?_
 refine yd (zn (zs (zr ?_)))
 obtain ⟨h10, h⟩ := ite_some h
 obtain ⟨h11, h⟩ := ite_some h
 refine zU (zl (zn (zq ?_)))
 cases h
 exact zT Try.results28
end Go.Proofs.Ytbiklagfjeileaa
set_option linter.unusedVariables false
set_option linter.unusedSimpArgs false
namespace Go.Proofs.Ytbiklagfjeileaa
open Go Go.Ab
set_option maxHeartbeats 4000000 in
theorem blocking_Prefix_2_con {D : Prop} (i1 : Int) (k2 : Int) (c3 : Int → Option (List UInt8)) (c3_k : FuncId) (c3_cs : List PV) (c3_h : ∀ (y4 : Int) (r5 : List UInt8), c3 y4 = some r5 → Con D Try.prog c3_k ((.int .i64 y4) :: c3_cs) (.str r5)) (r6 : Bool) (h : blocking_Prefix_2 i1 k2 c3 = some r6) : Con D Try.prog 29 [(.int .i64 i1), (.int .i64 k2), .imm [.func (.func c3_k) c3_cs]] (.bool r6) := by
 refine zP Try.call29 Try.func29 rfl Try.ntmps29 fun X w => ?_
 simp only [blocking_Prefix_2] at h
 refine zs (zr ?_)
 refine zU (zl (zn (zs (zd ?_))))
 refine yU ?_
 obtain ⟨r7, h8, h⟩ := zB h
 refine yc (c3_h i1 _ h8) ?_
 refine yU ?_
 obtain ⟨r9, h10, h⟩ := zB h
 refine yc (c3_h k2 _ h10) ?_
 refine yU ?_
 refine yd (zn (zq ?_))
 cases h
 exact zT Try.results29
end Go.Proofs.Ytbiklagfjeileaa
set_option linter.unusedVariables false
set_option linter.unusedSimpArgs false
namespace Go.Proofs.Ytbiklagfjeileaa
open Go Go.Ab
set_option maxHeartbeats 4000000 in
theorem blocking_Prefix_con {D : Prop} (t1 : Table) (a2 : Int) (s3 : Int) (r4 : List Arr2_int64 × Int) (h : blocking_Prefix t1 a2 s3 = some r4) : Con D Try.prog 11 [(encTable t1), (.int .i64 a2), (.int .i64 s3)] (.tup [(.slc (List.map encArr2_int64 r4.1)), (.int .i64 r4.2)]) := by
 refine zP Try.call11 Try.func11 rfl Try.ntmps11 fun X w => ?_
 simp only [blocking_Prefix] at h
 refine zs (zr ?_)
 refine zU (zl (zn (zs ?_)))
 obtain ⟨e5, h6, h⟩ := zB h
 refine zJ (fun (o7 : Int) => tE (cX Try.f11 X w D) .normal ⟨[(3, .loc 3 1 0 0), (4, .loc 4 1 0 0), (5, .loc 5 1 0 0), (8, .p (.int .i64 o7))], [(3, .arr 25 3 1 [.p (encTable t1)]), (4, .arr 3 1 1 [.p (.int .i64 a2)]), (5, .arr 3 1 1 [.p (.int .i64 s3)])]⟩) e5 ?_ ?_
 replace h := h6
 clear h6
 refine zr ?_
 refine zU ?_
 rcases zI h with ⟨h8, h⟩ | ⟨h8, h⟩
 refine zw 14 true ?_
 refine zg ?_
 refine zg ?_
 refine zU ?_
 obtain ⟨r9, h10, h⟩ := zB h
 refine zc (blocking_check_con t1 a2 (decide (s3 ≤ 200)) _ h10) ?_
 refine zU (zl ?_)
 cases h
 exact ⟨rfl, zE⟩
 refine zw 14 false ?_
 refine zh ?_
 refine zU ?_
 obtain ⟨r11, h12, h⟩ := zB h
 refine zc (blocking_check_con t1 a2 false _ h12) ?_
 refine zU (zl ?_)
 cases h
 exact ⟨rfl, zE⟩
 try simp only at h
 refine zA (zn (zs (zr ?_)))
 refine zU (zl (zn ?_))
 rcases zI h with ⟨h13, h⟩ | ⟨h13, h⟩
 refine zi (zs (zr ?_))
 refine zU (zl (zn (zq (zt ?_))))
 cases h
 exact zT Try.results11
 refine zj (zk (zn (zs (zr ?_))))
 refine zU (zl (zn (zs ?_)))
 refine zL ⟨[(3, .p (.imm [.str t1.Name, .slc (List.map PV.str t1.Attrs), .slc (List.map encRow t1.Rows)])), (4, .p (.imm [.int .i64 a2])), (9, .p (.imm [.func (.func 28) [.imm [.str t1.Name, .slc (List.map PV.str t1.Attrs), .slc (List.map encRow t1.Rows)], .imm [.int .i64 a2], .imm [.int .i64 s3]]]))], []⟩ ?_
 refine zd ?_
 refine yU ?_
 obtain ⟨r14, h15, h⟩ := zB h
 refine yc (blocking_alike_con t1 a2 (fun (y16 : Int) (y17 : Int) => blocking_Prefix_2 y16 y17 (fun (y18 : Int) => blocking_Prefix_1 y18 t1 a2 s3)) 29 [.imm [.func (.func 28) [.imm [.str t1.Name, .slc (List.map PV.str t1.Attrs), .slc (List.map encRow t1.Rows)], .imm [.int .i64 a2], .imm [.int .i64 s3]]]] (fun y16 y17 r h => blocking_Prefix_2_con y16 y17 (fun (y18 : Int) => blocking_Prefix_1 y18 t1 a2 s3) 28 [.imm [.str t1.Name, .slc (List.map PV.str t1.Attrs), .slc (List.map encRow t1.Rows)], .imm [.int .i64 a2], .imm [.int .i64 s3]] (fun y18 r h => blocking_Prefix_1_con y18 t1 a2 s3 r h) r h) _ h15) ?_
 obtain ⟨r19, h20, h⟩ := zB h
 refine yc (blocking_pairs_con t1 (fun (y21 : Int) (y22 : Int) => blocking_alike_1 y21 y22 t1 a2 (fun (y23 : Int) (y24 : Int) => blocking_Prefix_2 y23 y24 (fun (y25 : Int) => blocking_Prefix_1 y25 t1 a2 s3))) 36 [.imm [.str t1.Name, .slc (List.map PV.str t1.Attrs), .slc (List.map encRow t1.Rows)], .imm [.int .i64 a2], .imm [.func (.func 29) [.imm [.func (.func 28) [.imm [.str t1.Name, .slc (List.map PV.str t1.Attrs), .slc (List.map encRow t1.Rows)], .imm [.int .i64 a2], .imm [.int .i64 s3]]]]]] (fun y21 y22 r h => blocking_alike_1_con y21 y22 t1 a2 (fun (y23 : Int) (y24 : Int) => blocking_Prefix_2 y23 y24 (fun (y25 : Int) => blocking_Prefix_1 y25 t1 a2 s3)) 29 [.imm [.func (.func 28) [.imm [.str t1.Name, .slc (List.map PV.str t1.Attrs), .slc (List.map encRow t1.Rows)], .imm [.int .i64 a2], .imm [.int .i64 s3]]]] (fun y23 y24 r h => blocking_Prefix_2_con y23 y24 (fun (y25 : Int) => blocking_Prefix_1 y25 t1 a2 s3) 28 [.imm [.str t1.Name, .slc (List.map PV.str t1.Attrs), .slc (List.map encRow t1.Rows)], .imm [.int .i64 a2], .imm [.int .i64 s3]] (fun y25 r h => blocking_Prefix_1_con y25 t1 a2 s3 r h) r h) r h) _ h20) ?_
 refine yU ?_
 refine yd (zn (zq ?_))
 cases h
 exact zT Try.results11
end Go.Proofs.Ytbiklagfjeileaa
set_option linter.unusedVariables false
set_option linter.unusedSimpArgs false
namespace Go.Proofs.Ytbiklagfjeileaa
open Go Go.Ab
set_option maxHeartbeats 4000000 in
theorem drossref53_Same_con {D : Prop} (a1 : List Arr2_int64) (b2 : List Arr2_int64) (r3 : Bool) (h : drossref53_Same a1 b2 = some r3) : Con D Try.prog 14 [(.slc (List.map encArr2_int64 a1)), (.slc (List.map encArr2_int64 b2))] (.bool r3) := by
 refine zP Try.call14 Try.func14 rfl Try.ntmps14 fun X w => ?_
 simp only [drossref53_Same] at h
 refine zs (zr ?_)
 refine zU (zl (zn (zs (zs (zr ?_)))))
 refine zU (zl (zn ?_))
 rcases zI h with ⟨h4, h⟩ | ⟨h4, h⟩
 refine zi (zs (zr ?_))
 refine zU (zl (zn (zq (zt ?_))))
 cases h
 exact zT Try.results14
 refine zj (zk (zn (zs (zs (zr ?_)))))
 refine zU (zl (zn (zb ?_)))
 obtain ⟨o5, h6, h⟩ := zB h
 refine zO (fun (s : Int) => ⟨[(0, .p (.slc (List.map encArr2_int64 a1))), (1, .p (.slc (List.map encArr2_int64 b2))), (5, .p (.int .i64 s))], []⟩) (fun (o : (Unit) ⊕ (Bool)) => match o with | .inl o7 => tE (cX Try.f14 X w D) (.exit 0) ⟨[], []⟩ | .inr o8 => tR Try.prog Try.f14 (.bool o8)) h6 ?_ ?_
 clear h h4 h6
 intro i9 x h
 simp only [drossref53_Same_l1] at h
 refine zs (zs (zr ?_))
 refine zU (zl (zn ?_))
 rcases zI h with ⟨h10, h⟩ | ⟨h10, h⟩
 refine zi (zk (zn (zs (zb (zs (zd ?_))))))
 obtain ⟨x11, h12, h12a, h12b, h⟩ := zX h
 obtain ⟨x13, h14, h14a, h14b, h⟩ := zX h
 refine yU ?_
 refine yd (zn ?_)
 rcases zI h with ⟨h15, h⟩ | ⟨h15, h⟩
 refine zj (zk (yn (zn (zr ?_))))
 refine zU (zl ?_)
 cases h
 exact ⟨rfl, zE⟩
 refine zi (zs (zr ?_))
 refine zU (zl (zn (zq (yr (zt ?_)))))
 cases h
 exact ⟨rfl, zT Try.results14⟩
 refine zj (zx (ze ?_))
 cases h
 exact ⟨rfl, zE⟩
 rcases o5 with ⟨⟩ | r16
 try simp only at h
 refine zA (yh (zn (zs (zr ?_))))
 refine zU (zl (zn (zq ?_)))
 cases h
 exact zT Try.results14
 try simp only at h
 refine zZ fun s hq => ?_
 refine yr (zt ?_)
 cases h
 exact hq
end Go.Proofs.Ytbiklagfjeileaa
set_option linter.unusedVariables false
set_option linter.unusedSimpArgs false
namespace Go.Proofs.Ytbiklagfjeileaa
open Go Go.Ab
set_option maxRecDepth 20000 in
set_option maxHeartbeats 4000000 in
theorem drosslaw53_awake_con  (r1 : Bool) (h : drosslaw53_awake = some r1) : Con False Try.prog 6 [] (.bool r1) := by
 refine zP Try.call6 Try.func6 rfl Try.ntmps6 fun X w => ?_
 simp only [drosslaw53_awake] at h
 refine zs (zr ?_)
 refine zU (zl (zn (zs (zr ?_))))
 refine zU ?_
 refine zM ⟨[(10, .p (.slc (List.map PV.str [[115, 109, 105, 116, 104], [115, 109, 121, 116, 104], [115, 109, 105, 116, 104, 115, 111, 110], [106, 111, 110, 101, 115]])))], []⟩ ?_
 obtain ⟨r2, h3, h⟩ := zB h
 refine zc (drossref53_Table_con [[115, 109, 105, 116, 104], [115, 109, 121, 116, 104], [115, 109, 105, 116, 104, 115, 111, 110], [106, 111, 110, 101, 115]] _ h3) ?_
 refine zU (zl (zn (zs (zr ?_))))
 refine zU ?_
 obtain ⟨r4, h5, h⟩ := zB h
 refine zc (blocking_Prefix_con r2.1 0 3 _ h5) ?_
 refine zU (zl (zn (zs (zr ?_))))
 refine zU ?_
 obtain ⟨r6, h7, h⟩ := zB h
 refine zc (blocking_Filter_con r2.1 0 1 2 _ h7) ?_
 refine zU (zl (zn (zs (zr ?_))))
 refine zU ?_
 obtain ⟨r8, h9, h⟩ := zB h
 refine zc (blocking_Window_con r2.1 0 2 _ h9) ?_
 refine zU (zl (zn (zs (zr ?_))))
 refine zU ?_
 rcases zI h with ⟨h10, h⟩ | ⟨h10, h⟩
 refine zw 30 true ?_
 refine zg ?_
 refine zg ?_
 refine zU ?_
 rcases zI h with ⟨h11, h⟩ | ⟨h11, h⟩
 refine zw 34 true ?_
 refine zg ?_
 refine zg ?_
 refine zU ?_
 rcases zI h with ⟨h12, h⟩ | ⟨h12, h⟩
 refine zw 38 true ?_
 refine zg ?_
 refine zg ?_
 refine zU ?_
 rcases zI h with ⟨h13, h⟩ | ⟨h13, h⟩
 refine zw 42 true ?_
 refine zg ?_
 refine zg ?_
 refine zg ?_
 obtain ⟨r14, h15, h⟩ := zB h
 refine zc (drossref53_Same_con r4.1 [(Arr2_int64.mk 1 5)] _ h15) ?_
 refine zU ?_
 rcases zI h with ⟨h16, h⟩ | ⟨h16, h⟩
 refine zw 48 true ?_
 refine zg ?_
 refine zg ?_
 refine zg ?_
 obtain ⟨r17, h18, h⟩ := zB h
 refine zc (drossref53_Same_con r6.1 [(Arr2_int64.mk 1 3)] _ h18) ?_
 refine zU ?_
 rcases zI h with ⟨h19, h⟩ | ⟨h19, h⟩
 refine zw 54 true ?_
 refine zg ?_
 refine zg ?_
 refine zg ?_
 refine zg ?_
 refine zg ?_
 obtain ⟨r20, h21, h⟩ := zB h
 refine zc (drossref53_Same_con r8.1 [(Arr2_int64.mk 1 5), (Arr2_int64.mk 1 7), (Arr2_int64.mk 3 5)] _ h21) ?_
 refine zU (zl (zn (zq ?_)))
 cases h
 exact zT Try.results6
 refine zw 54 false ?_
 refine zh ?_
 refine zU (zl (zn (zq ?_)))
 cases h
 exact zT Try.results6
 refine zw 48 false ?_
 refine zh ?_
 refine zU ?_
 refine zh ?_
 refine zU (zl (zn (zq ?_)))
 cases h
 exact zT Try.results6
 refine zw 42 false ?_
 refine zh ?_
 refine zU ?_
 refine zh ?_
 refine zU ?_
 refine zh ?_
 refine zU (zl (zn (zq ?_)))
 cases h
 exact zT Try.results6
 refine zw 38 false ?_
 refine zh ?_
 refine zU ?_
 refine zh ?_
 refine zU ?_
 refine zh ?_
 refine zU ?_
 refine zh ?_
 refine zU (zl (zn (zq ?_)))
 cases h
 exact zT Try.results6
 refine zw 34 false ?_
 refine zh ?_
 refine zU ?_
 refine zh ?_
 refine zU ?_
 refine zh ?_
 refine zU ?_
 refine zh ?_
 refine zU ?_
 refine zh ?_
 refine zU (zl (zn (zq ?_)))
 cases h
 exact zT Try.results6
 refine zw 30 false ?_
 refine zh ?_
 refine zU ?_
 refine zh ?_
 refine zU ?_
 refine zh ?_
 refine zU ?_
 refine zh ?_
 refine zU ?_
 refine zh ?_
 refine zU ?_
 refine zh ?_
 refine zU (zl (zn (zq ?_)))
 cases h
 exact zT Try.results6
end Go.Proofs.Ytbiklagfjeileaa
set_option linter.unusedVariables false
set_option linter.unusedSimpArgs false
namespace Go.Proofs.Ytbiklagfjeileaa
open Go Go.Ab
set_option maxRecDepth 20000 in
set_option maxHeartbeats 4000000 in
theorem blocking_Exact_1_con {D : Prop} (i1 : Int) (k2 : Int) (c3 : Table) (c4 : Int) (r5 : Bool) (h : blocking_Exact_1 i1 k2 c3 c4 = some r5) : Con D Try.prog 30 [(.int .i64 i1), (.int .i64 k2), .imm [.str c3.Name, .slc (List.map PV.str c3.Attrs), .slc (List.map encRow c3.Rows)], .imm [.int .i64 c4]] (.bool r5) := by
 refine zP Try.call30 Try.func30 rfl Try.ntmps30 fun X w => ?_
 simp only [blocking_Exact_1] at h
 refine zs (zr ?_)
 refine zU (zl (zn (zs (zd ?_))))
 obtain ⟨x6, h7, h7a, h7b, h⟩ := zX h
 obtain ⟨x8, h9, h9a, h9b, h⟩ := zX h
 obtain ⟨x10, h11, h11a, h11b, h⟩ := zX h
 obtain ⟨x12, h13, h13a, h13b, h⟩ := zX h
 refine yU ?_
 obtain ⟨r14, h15, h⟩ := zB h
 refine yc (value_Compare_con x8 x12 _ h15) ?_
 refine yU ?_
 refine yd (zn (zq ?_))
 cases h
 exact zT Try.results30
end Go.Proofs.Ytbiklagfjeileaa
set_option linter.unusedVariables false
set_option linter.unusedSimpArgs false
namespace Go.Proofs.Ytbiklagfjeileaa
open Go Go.Ab
set_option maxHeartbeats 4000000 in
theorem blocking_Exact_con {D : Prop} (t1 : Table) (a2 : Int) (r3 : List Arr2_int64 × Int) (h : blocking_Exact t1 a2 = some r3) : Con D Try.prog 12 [(encTable t1), (.int .i64 a2)] (.tup [(.slc (List.map encArr2_int64 r3.1)), (.int .i64 r3.2)]) := by
 refine zP Try.call12 Try.func12 rfl Try.ntmps12 fun X w => ?_
 simp only [blocking_Exact] at h
 refine zs (zr ?_)
 refine zU (zl (zn (zs (zs (zr ?_)))))
 refine zU ?_
 obtain ⟨r4, h5, h⟩ := zB h
 refine zc (blocking_check_con t1 a2 true _ h5) ?_
 refine zU (zl (zn (zs (zr ?_))))
 refine zU (zl (zn ?_))
 rcases zI h with ⟨h6, h⟩ | ⟨h6, h⟩
 refine zi (zs (zr ?_))
 refine zU (zl (zn (zq (zt ?_))))
 cases h
 exact zT Try.results12
 refine zj (zk (zn (zs (zr ?_))))
 refine zU ?_
 refine zM ⟨[(13, .p (encTable t1)), (14, .p (.func (.func 30) [.imm [.str t1.Name, .slc (List.map PV.str t1.Attrs), .slc (List.map encRow t1.Rows)], .imm [.int .i64 a2]]))], []⟩ ?_
 obtain ⟨r7, h8, h⟩ := zB h
 refine zc (blocking_pairs_con t1 (fun (y9 : Int) (y10 : Int) => blocking_Exact_1 y9 y10 t1 a2) 30 [.imm [.str t1.Name, .slc (List.map PV.str t1.Attrs), .slc (List.map encRow t1.Rows)], .imm [.int .i64 a2]] (fun y9 y10 r h => blocking_Exact_1_con y9 y10 t1 a2 r h) _ h8) ?_
 refine zU (zl (zn (zq ?_)))
 cases h
 exact zT Try.results12
end Go.Proofs.Ytbiklagfjeileaa
set_option linter.unusedVariables false
set_option linter.unusedSimpArgs false
namespace Go.Proofs.Ytbiklagfjeileaa
open Go Go.Ab
set_option maxHeartbeats 4000000 in
theorem drossref53_Has_con {D : Prop} (l1 : List Arr2_int64) (p2 : Arr2_int64) (r3 : Bool) (h : drossref53_Has l1 p2 = some r3) : Con D Try.prog 31 [(.slc (List.map encArr2_int64 l1)), (encArr2_int64 p2)] (.bool r3) := by
 refine zP Try.call31 Try.func31 rfl Try.ntmps31 fun X w => ?_
 simp only [drossref53_Has] at h
 refine zs (zr ?_)
 refine zU (zl (zn (zs (zs (zr ?_)))))
 refine zU (zl (zn (zb ?_)))
 obtain ⟨o4, h5, h⟩ := zB h
 refine zO (fun (s : Int) => ⟨[(0, .p (.slc (List.map encArr2_int64 l1))), (3, .loc 3 1 0 0), (5, .p (.int .i64 s))], [(3, .arr 40 2 1 [.p (encArr2_int64 p2)])]⟩) (fun (o : (Unit) ⊕ (Bool)) => match o with | .inl o6 => tE (cX Try.f31 X w D) (.exit 0) ⟨[], []⟩ | .inr o7 => tR Try.prog Try.f31 (.bool o7)) h5 ?_ ?_
 clear h h5
 intro i8 x h
 simp only [drossref53_Has_l1] at h
 refine zs (zs (zr ?_))
 refine zU (zl (zn ?_))
 rcases zI h with ⟨h9, h⟩ | ⟨h9, h⟩
 refine zi (zk (zn (zs (zb (zs (zd ?_))))))
 obtain ⟨x10, h11, h11a, h11b, h⟩ := zX h
 refine yU ?_
 refine yd (zn ?_)
 rcases zI h with ⟨h12, h⟩ | ⟨h12, h⟩
 refine zi (zs (zr ?_))
 refine zU (zl (zn (zq (yr (zt ?_)))))
 cases h
 exact ⟨rfl, zT Try.results31⟩
 refine zj (zk (yn (zn (zr ?_))))
 refine zU (zl ?_)
 cases h
 exact ⟨rfl, zE⟩
 refine zj (zx (ze ?_))
 cases h
 exact ⟨rfl, zE⟩
 rcases o4 with ⟨⟩ | r13
 try simp only at h
 refine zA (yh (zn (zs (zr ?_))))
 refine zU (zl (zn (zq ?_)))
 cases h
 exact zT Try.results31
 try simp only at h
 refine zZ fun s hq => ?_
 refine yr (zt ?_)
 cases h
 exact hq
end Go.Proofs.Ytbiklagfjeileaa
set_option linter.unusedVariables false
set_option linter.unusedSimpArgs false
namespace Go.Proofs.Ytbiklagfjeileaa
open Go Go.Ab
set_option maxHeartbeats 4000000 in
theorem drossref53_Within_con {D : Prop} (a1 : List Arr2_int64) (b2 : List Arr2_int64) (r3 : Bool) (h : drossref53_Within a1 b2 = some r3) : Con D Try.prog 13 [(.slc (List.map encArr2_int64 a1)), (.slc (List.map encArr2_int64 b2))] (.bool r3) := by
 refine zP Try.call13 Try.func13 rfl Try.ntmps13 fun X w => ?_
 simp only [drossref53_Within] at h
 refine zs (zr ?_)
 refine zU (zl (zn (zs (zs (zr ?_)))))
 refine zU (zl (zn (zb ?_)))
 obtain ⟨o4, h5, h⟩ := zB h
 refine zO (fun (s : Int) => ⟨[(0, .p (.slc (List.map encArr2_int64 a1))), (1, .p (.slc (List.map encArr2_int64 b2))), (5, .p (.int .i64 s))], []⟩) (fun (o : (Unit) ⊕ (Bool)) => match o with | .inl o6 => tE (cX Try.f13 X w D) (.exit 0) ⟨[], []⟩ | .inr o7 => tR Try.prog Try.f13 (.bool o7)) h5 ?_ ?_
 clear h h5
 intro i8 x h
 simp only [drossref53_Within_l1] at h
 refine zs (zs (zr ?_))
 refine zU (zl (zn ?_))
 rcases zI h with ⟨h9, h⟩ | ⟨h9, h⟩
 refine zi (zk (zn (zs (zb (zs (zr ?_))))))
 obtain ⟨x10, h11, h11a, h11b, h⟩ := zX h
 refine zU ?_
 obtain ⟨r12, h13, h⟩ := zB h
 refine zc (drossref53_Has_con b2 x10 _ h13) ?_
 refine zU (zl (zn ?_))
 rcases zI h with ⟨h14, h⟩ | ⟨h14, h⟩
 refine zj (zk (yn (zn (zr ?_))))
 refine zU (zl ?_)
 cases h
 exact ⟨rfl, zE⟩
 refine zi (zs (zr ?_))
 refine zU (zl (zn (zq (yr (zt ?_)))))
 cases h
 exact ⟨rfl, zT Try.results13⟩
 refine zj (zx (ze ?_))
 cases h
 exact ⟨rfl, zE⟩
 rcases o4 with ⟨⟩ | r15
 try simp only at h
 refine zA (yh (zn (zs (zr ?_))))
 refine zU (zl (zn (zq ?_)))
 cases h
 exact zT Try.results13
 try simp only at h
 refine zZ fun s hq => ?_
 refine yr (zt ?_)
 cases h
 exact hq
end Go.Proofs.Ytbiklagfjeileaa
set_option linter.unusedVariables false
set_option linter.unusedSimpArgs false
namespace Go.Proofs.Ytbiklagfjeileaa
open Go Go.Ab
set_option maxRecDepth 20000 in
set_option maxHeartbeats 4000000 in
theorem drosslaw53_BlockingNested_con (l1 : List (List UInt8)) (n2 : Arr2_uint8) (q3 : Int) (r4 : Bool) (h : drosslaw53_BlockingNested l1 n2 q3 = some r4) : Con False Try.prog 4 [(.slc (List.map PV.str l1)), (encArr2_uint8 n2), (.int .u8 q3)] (.bool r4) := by
 refine zP Try.call4 Try.func4 rfl Try.ntmps4 fun X w => ?_
 simp only [drosslaw53_BlockingNested] at h
 refine zs (zr ?_)
 refine zU (zl (zn (zs (zr ?_))))
 refine zU ?_
 obtain ⟨r5, h6, h⟩ := zB h
 refine zc (drossref53_Table_con l1 _ h6) ?_
 refine zU (zl (zn (zs ?_)))
 obtain ⟨t7, h8, h⟩ := zB h
 refine zJ (fun (o9 : Bool) => tE (cX Try.f4 X w False) .normal ⟨[(2, .p (.int .u8 q3)), (4, .loc 4 1 0 0), (7, .loc 7 1 0 0), (36, .p (.bool o9))], [(4, .arr 42 2 1 [.p (encArr2_uint8 n2)]), (7, .arr 25 3 1 [.p (encTable r5.1)])]⟩) t7 ?_ ?_
 replace h := h8
 clear h8
 refine zr ?_
 obtain ⟨r10, h11, h⟩ := zB h
 refine zc (drosslaw53_awake_con  _ h11) ?_
 refine zU ?_
 rcases zI h with ⟨h12, h⟩ | ⟨h12, h⟩
 replace h := h.symm
 refine zw 33 false ?_
 refine zg ?_
 refine zg ?_
 refine zU (zl ?_)
 cases h
 exact ⟨rfl, zE⟩
 refine zw 33 true ?_
 refine zh ?_
 refine zU (zl ?_)
 cases h
 exact ⟨rfl, zE⟩
 try simp only at h
 refine zA (zn ?_)
 rcases zI h with ⟨h13, h⟩ | ⟨h13, h⟩
 refine zi (zs (zr ?_))
 obtain ⟨r14, h15, h⟩ := zB h
 refine zc (drosslaw53_awake_con  _ h15) ?_
 refine zU (zl (zn (zq (zt ?_))))
 cases h
 exact zT Try.results4
 refine zj (zk (zn (zs (zd ?_))))
 refine yU ?_
 refine yd (zn (zs (zr ?_)))
 refine zU (zl (zn (zs (zr ?_))))
 refine zU (zl (zn (zs (zr ?_))))
 refine zU ?_
 obtain ⟨r16, h17, h⟩ := zB h
 refine zc (blocking_Window_con r5.1 0 (if (IntKind.i64.wrap (2 + (IntKind.i64.wrap (Int.tmod (if n2.x1 > n2.x0 then n2.x1 else n2.x0) 100)))) < (IntKind.i64.wrap (2 + (IntKind.i64.wrap (Int.tmod (if n2.x1 < n2.x0 then n2.x1 else n2.x0) 100)))) then (IntKind.i64.wrap (2 + (IntKind.i64.wrap (Int.tmod (if n2.x1 > n2.x0 then n2.x1 else n2.x0) 100)))) else (IntKind.i64.wrap (2 + (IntKind.i64.wrap (Int.tmod (if n2.x1 < n2.x0 then n2.x1 else n2.x0) 100))))) _ h17) ?_
 refine zU (zl (zn (zs (zr ?_))))
 refine zU ?_
 obtain ⟨r18, h19, h⟩ := zB h
 refine zc (blocking_Window_con r5.1 0 (if (IntKind.i64.wrap (2 + (IntKind.i64.wrap (Int.tmod (if n2.x1 > n2.x0 then n2.x1 else n2.x0) 100)))) > (IntKind.i64.wrap (2 + (IntKind.i64.wrap (Int.tmod (if n2.x1 < n2.x0 then n2.x1 else n2.x0) 100)))) then (IntKind.i64.wrap (2 + (IntKind.i64.wrap (Int.tmod (if n2.x1 > n2.x0 then n2.x1 else n2.x0) 100)))) else (IntKind.i64.wrap (2 + (IntKind.i64.wrap (Int.tmod (if n2.x1 < n2.x0 then n2.x1 else n2.x0) 100))))) _ h19) ?_
 refine zU (zl (zn (zs (zr ?_))))
 refine zU ?_
 obtain ⟨r20, h21, h⟩ := zB h
 refine zc (blocking_Prefix_con r5.1 0 (if (IntKind.i64.wrap (2 + (IntKind.i64.wrap (Int.tmod (if n2.x1 > n2.x0 then n2.x1 else n2.x0) 100)))) < (IntKind.i64.wrap (2 + (IntKind.i64.wrap (Int.tmod (if n2.x1 < n2.x0 then n2.x1 else n2.x0) 100)))) then (IntKind.i64.wrap (2 + (IntKind.i64.wrap (Int.tmod (if n2.x1 > n2.x0 then n2.x1 else n2.x0) 100)))) else (IntKind.i64.wrap (2 + (IntKind.i64.wrap (Int.tmod (if n2.x1 < n2.x0 then n2.x1 else n2.x0) 100))))) _ h21) ?_
 refine zU (zl (zn (zs (zr ?_))))
 refine zU ?_
 obtain ⟨r22, h23, h⟩ := zB h
 refine zc (blocking_Prefix_con r5.1 0 (if (IntKind.i64.wrap (2 + (IntKind.i64.wrap (Int.tmod (if n2.x1 > n2.x0 then n2.x1 else n2.x0) 100)))) > (IntKind.i64.wrap (2 + (IntKind.i64.wrap (Int.tmod (if n2.x1 < n2.x0 then n2.x1 else n2.x0) 100)))) then (IntKind.i64.wrap (2 + (IntKind.i64.wrap (Int.tmod (if n2.x1 > n2.x0 then n2.x1 else n2.x0) 100)))) else (IntKind.i64.wrap (2 + (IntKind.i64.wrap (Int.tmod (if n2.x1 < n2.x0 then n2.x1 else n2.x0) 100))))) _ h23) ?_
 refine zU (zl (zn (zs (zr ?_))))
 refine zU ?_
 obtain ⟨r24, h25, h⟩ := zB h
 refine zc (blocking_Filter_con r5.1 0 (IntKind.i64.wrap ((if (IntKind.i64.wrap (2 + (IntKind.i64.wrap (Int.tmod (if n2.x1 > n2.x0 then n2.x1 else n2.x0) 100)))) < (IntKind.i64.wrap (2 + (IntKind.i64.wrap (Int.tmod (if n2.x1 < n2.x0 then n2.x1 else n2.x0) 100)))) then (IntKind.i64.wrap (2 + (IntKind.i64.wrap (Int.tmod (if n2.x1 > n2.x0 then n2.x1 else n2.x0) 100)))) else (IntKind.i64.wrap (2 + (IntKind.i64.wrap (Int.tmod (if n2.x1 < n2.x0 then n2.x1 else n2.x0) 100))))) - 2)) (IntKind.i64.wrap (1 + (IntKind.i64.wrap (Int.tmod q3 4)))) _ h25) ?_
 refine zU (zl (zn (zs (zr ?_))))
 refine zU ?_
 obtain ⟨r26, h27, h⟩ := zB h
 refine zc (blocking_Filter_con r5.1 0 (IntKind.i64.wrap ((if (IntKind.i64.wrap (2 + (IntKind.i64.wrap (Int.tmod (if n2.x1 > n2.x0 then n2.x1 else n2.x0) 100)))) > (IntKind.i64.wrap (2 + (IntKind.i64.wrap (Int.tmod (if n2.x1 < n2.x0 then n2.x1 else n2.x0) 100)))) then (IntKind.i64.wrap (2 + (IntKind.i64.wrap (Int.tmod (if n2.x1 > n2.x0 then n2.x1 else n2.x0) 100)))) else (IntKind.i64.wrap (2 + (IntKind.i64.wrap (Int.tmod (if n2.x1 < n2.x0 then n2.x1 else n2.x0) 100))))) - 2)) (IntKind.i64.wrap (1 + (IntKind.i64.wrap (Int.tmod q3 4)))) _ h27) ?_
 refine zU (zl (zn (zs (zr ?_))))
 refine zU ?_
 obtain ⟨r28, h29, h⟩ := zB h
 refine zc (blocking_Exact_con r5.1 0 _ h29) ?_
 refine zU (zl (zn (zs (zs (zr ?_)))))
 refine zU ?_
 rcases zI h with ⟨h30, h⟩ | ⟨h30, h⟩
 refine zw 111 true ?_
 refine zh ?_
 refine zU ?_
 refine zh ?_
 refine zU ?_
 refine zh ?_
 refine zU ?_
 refine zh ?_
 refine zU ?_
 refine zh ?_
 refine zU ?_
 refine zh ?_
 refine zU (zl (zn ?_))
 refine zi (zs (zr ?_))
 refine zU (zl (zn (zq (zt ?_))))
 cases h
 exact zT Try.results4
 refine zw 111 false ?_
 refine zg ?_
 refine zg ?_
 refine zU ?_
 rcases zI h with ⟨h31, h⟩ | ⟨h31, h⟩
 refine zw 115 true ?_
 refine zh ?_
 refine zU ?_
 refine zh ?_
 refine zU ?_
 refine zh ?_
 refine zU ?_
 refine zh ?_
 refine zU ?_
 refine zh ?_
 refine zU (zl (zn ?_))
 refine zi (zs (zr ?_))
 refine zU (zl (zn (zq (zt ?_))))
 cases h
 exact zT Try.results4
 refine zw 115 false ?_
 refine zg ?_
 refine zg ?_
 refine zU ?_
 rcases zI h with ⟨h32, h⟩ | ⟨h32, h⟩
 refine zw 119 true ?_
 refine zh ?_
 refine zU ?_
 refine zh ?_
 refine zU ?_
 refine zh ?_
 refine zU ?_
 refine zh ?_
 refine zU (zl (zn ?_))
 refine zi (zs (zr ?_))
 refine zU (zl (zn (zq (zt ?_))))
 cases h
 exact zT Try.results4
 refine zw 119 false ?_
 refine zg ?_
 refine zg ?_
 refine zU ?_
 rcases zI h with ⟨h33, h⟩ | ⟨h33, h⟩
 refine zw 123 true ?_
 refine zh ?_
 refine zU ?_
 refine zh ?_
 refine zU ?_
 refine zh ?_
 refine zU (zl (zn ?_))
 refine zi (zs (zr ?_))
 refine zU (zl (zn (zq (zt ?_))))
 cases h
 exact zT Try.results4
 refine zw 123 false ?_
 refine zg ?_
 refine zg ?_
 refine zU ?_
 rcases zI h with ⟨h34, h⟩ | ⟨h34, h⟩
 refine zw 127 true ?_
 refine zh ?_
 refine zU ?_
 refine zh ?_
 refine zU (zl (zn ?_))
 refine zi (zs (zr ?_))
 refine zU (zl (zn (zq (zt ?_))))
 cases h
 exact zT Try.results4
 refine zw 127 false ?_
 refine zg ?_
 refine zg ?_
 refine zU ?_
 rcases zI h with ⟨h35, h⟩ | ⟨h35, h⟩
 refine zw 131 true ?_
 refine zh ?_
 refine zU (zl (zn ?_))
 refine zi (zs (zr ?_))
 refine zU (zl (zn (zq (zt ?_))))
 cases h
 exact zT Try.results4
 refine zw 131 false ?_
 refine zg ?_
 refine zg ?_
 refine zU (zl (zn ?_))
 rcases zI h with ⟨h36, h⟩ | ⟨h36, h⟩
 refine zi (zs (zr ?_))
 refine zU (zl (zn (zq (zt ?_))))
 cases h
 exact zT Try.results4
 refine zj (zk (zn (zs (zr ?_))))
 refine zU ?_
 obtain ⟨r37, h38, h⟩ := zB h
 refine zc (drossref53_Within_con r16.1 r18.1 _ h38) ?_
 refine zU ?_
 rcases zI h with ⟨h39, h⟩ | ⟨h39, h⟩
 refine zw 138 true ?_
 refine zg ?_
 refine zg ?_
 obtain ⟨r40, h41, h⟩ := zB h
 refine zc (drossref53_Within_con r22.1 r20.1 _ h41) ?_
 refine zU ?_
 rcases zI h with ⟨h42, h⟩ | ⟨h42, h⟩
 refine zw 143 true ?_
 refine zg ?_
 refine zg ?_
 obtain ⟨r43, h44, h⟩ := zB h
 refine zc (drossref53_Within_con r24.1 r26.1 _ h44) ?_
 refine zU ?_
 rcases zI h with ⟨h45, h⟩ | ⟨h45, h⟩
 refine zw 148 true ?_
 refine zg ?_
 refine zg ?_
 obtain ⟨r46, h47, h⟩ := zB h
 refine zc (drossref53_Within_con r28.1 r22.1 _ h47) ?_
 refine zU ?_
 rcases zI h with ⟨h48, h⟩ | ⟨h48, h⟩
 refine zw 153 true ?_
 refine zg ?_
 refine zg ?_
 obtain ⟨r49, h50, h⟩ := zB h
 refine zc (drossref53_Within_con r28.1 r24.1 _ h50) ?_
 refine zU (zl (zn (zq ?_)))
 cases h
 exact zT Try.results4
 refine zw 153 false ?_
 refine zh ?_
 refine zU (zl (zn (zq ?_)))
 cases h
 exact zT Try.results4
 refine zw 148 false ?_
 refine zh ?_
 refine zU ?_
 refine zh ?_
 refine zU (zl (zn (zq ?_)))
 cases h
 exact zT Try.results4
 refine zw 143 false ?_
 refine zh ?_
 refine zU ?_
 refine zh ?_
 refine zU ?_
 refine zh ?_
 refine zU (zl (zn (zq ?_)))
 cases h
 exact zT Try.results4
 refine zw 138 false ?_
 refine zh ?_
 refine zU ?_
 refine zh ?_
 refine zU ?_
 refine zh ?_
 refine zU ?_
 refine zh ?_
 refine zU (zl (zn (zq ?_)))
 cases h
 exact zT Try.results4
end Go.Proofs.Ytbiklagfjeileaa
