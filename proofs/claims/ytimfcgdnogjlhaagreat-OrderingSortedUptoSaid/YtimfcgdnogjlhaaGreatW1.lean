/- Each function of the program computes what its Lean function says, where that has a value. -/
import Derived.Shelf.Small.Strs
import Derived.Shelf.SlSortCmp.NoneTotal
import Derived.Ground.SlsfProg
import Derived.Shelf.SortM.Plain
import Derived.Shelf.SortM.SortNone
import Derived.Ground.SlgmProg
import Derived.Test.YtimfcgdnogjlhaaGreatProg
import Derived.RangeFuncBox
import Derived.RangeFuncLeaves
import Derived.Shelf.Abstract
import Derived.WalkKit
import Derived.OwnWalkIn
import Derived.TacticsInMore
import Derived.LoopNIn
import Derived.LoopIn
import Derived.Maps.AppendAt
import Derived.RangeFuncNested
import Derived.Test.YtimfcgdnogjlhaaGreatT1
import Derived.Test.YtimfcgdnogjlhaaGreatL1
import Derived.Test.YtimfcgdnogjlhaaGreatA3
import Derived.Test.YtimfcgdnogjlhaaGreatA2
set_option linter.unusedVariables false
set_option linter.unusedSimpArgs false
namespace Go.Proofs.YtimfcgdnogjlhaaGreat
open Go Go.Ab
theorem mixed : Tryz.prog.follows .mixedOrders = true := by kernel_rfl
@[reducible] noncomputable def cX (f : Func) (X : Nat → Prop) (w : World) (D : Prop) : Cx := ⟨Tryz.prog, f.ntmps, 0, X, [], fun _ => none, w, D⟩
theorem zd {N B : Nat} {X : Nat → Prop} {H0 : List (Nat × AO)} {inj0 : Inj} {w0 : World} {D : Prop} {Q : Exit → St → Prop} {st : St} {id : Nat} {l : List Oper} (h : DGo ⟨Tryz.prog, N, B, X, H0, inj0, w0, D⟩ l.toArray l st [] (DK ⟨Tryz.prog, N, B, X, H0, inj0, w0, D⟩ l.toArray Q)) (hs : slotsOk l.toArray = true := by kernel_rfl) : AWp ⟨Tryz.prog, N, B, X, H0, inj0, w0, D⟩ (.region id l.toArray true) Q st := awp_drawn_walk mixed hs h
theorem zdl (n : Nat) {N B : Nat} {X : Nat → Prop} {H0 : List (Nat × AO)} {inj0 : Inj} {w0 : World} {D : Prop} {Q : Exit → St → Prop} {st : St} {id : Nat} {l : List Oper} (h : DGo ⟨Tryz.prog, N, B, X, H0, inj0, w0, D⟩ l.toArray (l.take n) st [] (DKL ⟨Tryz.prog, N, B, X, H0, inj0, w0, D⟩ l.toArray (l.drop n) Q)) (hs : slotsOk l.toArray = true := by kernel_rfl) (hl : lastOk l.toArray n = true := by kernel_rfl) : AWp ⟨Tryz.prog, N, B, X, H0, inj0, w0, D⟩ (.region id l.toArray true) Q st := awp_drawn_last n mixed hs hl h
def encValue (x : Value) : PV := .agg [.int .i64 x.Kind, .int .i64 x.Num, .str x.Str]
@[go_sem] theorem encValue_fold (x : Value) : PV.agg [.int .i64 x.Kind, .int .i64 x.Num, .str x.Str] = encValue x := rfl
@[go_sem] theorem encValue_cells (x : Value) : (encValue x).cells = [.int .i64 x.Kind, .int .i64 x.Num, .str x.Str] := rfl
@[go_sem] theorem encValue_isAgg (x : Value) : (encValue x).isAgg = true := rfl
@[go_sem] theorem encValue_isTup (x : Value) : (encValue x).isTup = false := rfl
@[go_sem] theorem encValue_sl (l : List Value) : ((l.map encValue).all fun y => y.cells.length == 3) = true := by simp [encValue, PV.cells]
@[go_sem] theorem encValue_ok (l : List Value) : ((l.map encValue).map AV.p).all (elemOk 3) = true := elemOkAll_map _ _ _ fun _ => ⟨rfl, rfl⟩
@[go_sem] theorem encValue_flat (x : Value) : (encValue x).flat = true := rfl
def encRow (x : Row) : PV := .agg [.int .i64 x.ID, .slc (List.map encValue x.Values)]
@[go_sem] theorem encRow_fold (x : Row) : PV.agg [.int .i64 x.ID, .slc (List.map encValue x.Values)] = encRow x := rfl
@[go_sem] theorem encRow_cells (x : Row) : (encRow x).cells = [.int .i64 x.ID, .slc (List.map encValue x.Values)] := rfl
@[go_sem] theorem encRow_isAgg (x : Row) : (encRow x).isAgg = true := rfl
@[go_sem] theorem encRow_isTup (x : Row) : (encRow x).isTup = false := rfl
@[go_sem] theorem encRow_sl (l : List Row) : ((l.map encRow).all fun y => y.cells.length == 2) = true := by simp [encRow, PV.cells]
@[go_sem] theorem encRow_ok (l : List Row) : ((l.map encRow).map AV.p).all (elemOk 2) = true := elemOkAll_map _ _ _ fun _ => ⟨rfl, rfl⟩
def encDrossref03_Recipe (x : Drossref03_Recipe) : PV := .agg [.int .u8 x.Attrs, .int .u8 x.Gap, .slc (List.map (encL (PV.int .u8)) x.Rows)]
@[go_sem] theorem encDrossref03_Recipe_fold (x : Drossref03_Recipe) : PV.agg [.int .u8 x.Attrs, .int .u8 x.Gap, .slc (List.map (encL (PV.int .u8)) x.Rows)] = encDrossref03_Recipe x := rfl
@[go_sem] theorem encDrossref03_Recipe_cells (x : Drossref03_Recipe) : (encDrossref03_Recipe x).cells = [.int .u8 x.Attrs, .int .u8 x.Gap, .slc (List.map (encL (PV.int .u8)) x.Rows)] := rfl
@[go_sem] theorem encDrossref03_Recipe_isAgg (x : Drossref03_Recipe) : (encDrossref03_Recipe x).isAgg = true := rfl
@[go_sem] theorem encDrossref03_Recipe_isTup (x : Drossref03_Recipe) : (encDrossref03_Recipe x).isTup = false := rfl
@[go_sem] theorem encDrossref03_Recipe_sl (l : List Drossref03_Recipe) : ((l.map encDrossref03_Recipe).all fun y => y.cells.length == 3) = true := by simp [encDrossref03_Recipe, PV.cells]
@[go_sem] theorem encDrossref03_Recipe_ok (l : List Drossref03_Recipe) : ((l.map encDrossref03_Recipe).map AV.p).all (elemOk 3) = true := elemOkAll_map _ _ _ fun _ => ⟨rfl, rfl⟩
def encTable (x : Table) : PV := .agg [.str x.Name, .slc (List.map PV.str x.Attrs), .slc (List.map encRow x.Rows)]
@[go_sem] theorem encTable_fold (x : Table) : PV.agg [.str x.Name, .slc (List.map PV.str x.Attrs), .slc (List.map encRow x.Rows)] = encTable x := rfl
@[go_sem] theorem encTable_cells (x : Table) : (encTable x).cells = [.str x.Name, .slc (List.map PV.str x.Attrs), .slc (List.map encRow x.Rows)] := rfl
@[go_sem] theorem encTable_isAgg (x : Table) : (encTable x).isAgg = true := rfl
@[go_sem] theorem encTable_isTup (x : Table) : (encTable x).isTup = false := rfl
@[go_sem] theorem encTable_sl (l : List Table) : ((l.map encTable).all fun y => y.cells.length == 3) = true := by simp [encTable, PV.cells]
@[go_sem] theorem encTable_ok (l : List Table) : ((l.map encTable).map AV.p).all (elemOk 3) = true := elemOkAll_map _ _ _ fun _ => ⟨rfl, rfl⟩
def encOD (x : OD) : PV := .agg [.slc (List.map (PV.int .i64) x.Lhs), .slc (List.map (PV.int .i64) x.Rhs)]
@[go_sem] theorem encOD_fold (x : OD) : PV.agg [.slc (List.map (PV.int .i64) x.Lhs), .slc (List.map (PV.int .i64) x.Rhs)] = encOD x := rfl
@[go_sem] theorem encOD_cells (x : OD) : (encOD x).cells = [.slc (List.map (PV.int .i64) x.Lhs), .slc (List.map (PV.int .i64) x.Rhs)] := rfl
@[go_sem] theorem encOD_isAgg (x : OD) : (encOD x).isAgg = true := rfl
@[go_sem] theorem encOD_isTup (x : OD) : (encOD x).isTup = false := rfl
@[go_sem] theorem encOD_sl (l : List OD) : ((l.map encOD).all fun y => y.cells.length == 2) = true := by simp [encOD, PV.cells]
@[go_sem] theorem encOD_ok (l : List OD) : ((l.map encOD).map AV.p).all (elemOk 2) = true := elemOkAll_map _ _ _ fun _ => ⟨rfl, rfl⟩
def encCanonical (x : Canonical) : PV := .agg [.int .u32 x.Context, .int .i64 x.A, .int .i64 x.B]
@[go_sem] theorem encCanonical_fold (x : Canonical) : PV.agg [.int .u32 x.Context, .int .i64 x.A, .int .i64 x.B] = encCanonical x := rfl
@[go_sem] theorem encCanonical_cells (x : Canonical) : (encCanonical x).cells = [.int .u32 x.Context, .int .i64 x.A, .int .i64 x.B] := rfl
@[go_sem] theorem encCanonical_isAgg (x : Canonical) : (encCanonical x).isAgg = true := rfl
@[go_sem] theorem encCanonical_isTup (x : Canonical) : (encCanonical x).isTup = false := rfl
@[go_sem] theorem encCanonical_sl (l : List Canonical) : ((l.map encCanonical).all fun y => y.cells.length == 3) = true := by simp [encCanonical, PV.cells]
@[go_sem] theorem encCanonical_ok (l : List Canonical) : ((l.map encCanonical).map AV.p).all (elemOk 3) = true := elemOkAll_map _ _ _ fun _ => ⟨rfl, rfl⟩
@[go_sem] theorem encCanonical_flat (x : Canonical) : (encCanonical x).flat = true := rfl
def encDrossref17_Lists (x : Drossref17_Lists) : PV := .agg [.slc (List.map (PV.int .u8) x.X), .slc (List.map (PV.int .u8) x.Y)]
@[go_sem] theorem encDrossref17_Lists_fold (x : Drossref17_Lists) : PV.agg [.slc (List.map (PV.int .u8) x.X), .slc (List.map (PV.int .u8) x.Y)] = encDrossref17_Lists x := rfl
@[go_sem] theorem encDrossref17_Lists_cells (x : Drossref17_Lists) : (encDrossref17_Lists x).cells = [.slc (List.map (PV.int .u8) x.X), .slc (List.map (PV.int .u8) x.Y)] := rfl
@[go_sem] theorem encDrossref17_Lists_isAgg (x : Drossref17_Lists) : (encDrossref17_Lists x).isAgg = true := rfl
@[go_sem] theorem encDrossref17_Lists_isTup (x : Drossref17_Lists) : (encDrossref17_Lists x).isTup = false := rfl
@[go_sem] theorem encDrossref17_Lists_sl (l : List Drossref17_Lists) : ((l.map encDrossref17_Lists).all fun y => y.cells.length == 2) = true := by simp [encDrossref17_Lists, PV.cells]
@[go_sem] theorem encDrossref17_Lists_ok (l : List Drossref17_Lists) : ((l.map encDrossref17_Lists).map AV.p).all (elemOk 2) = true := elemOkAll_map _ _ _ fun _ => ⟨rfl, rfl⟩
end Go.Proofs.YtimfcgdnogjlhaaGreat
set_option linter.unusedVariables false
set_option linter.unusedSimpArgs false
namespace Go.Proofs.YtimfcgdnogjlhaaGreat
open Go Go.Ab
set_option maxHeartbeats 4000000 in
theorem drossref01_Of_con {D : Prop} (c1 : Int) (r2 : Value) (h : drossref01_Of c1 = some r2) : Con D Tryz.prog 42 [(.int .u8 c1)] (encValue r2) := by
 refine zP Tryz.call42 Tryz.func42 rfl Tryz.ntmps42 fun X w => ?_
 simp only [drossref01_Of] at h
 refine zs (zr ?_)
 refine zU (zl (zn (zs (zs (zr ?_)))))
 refine zU (zl (zn (zb (zs (zr ?_)))))
 refine zU (zl (zn ?_))
 rcases zI h with ⟨h3, h⟩ | ⟨h3, h⟩
 refine zi (zs (zr ?_))
 refine zU (zl (zn (zq (yr (zt ?_)))))
 cases h
 exact zT Tryz.results42
 refine zj (zs (zr ?_))
 refine zU (zl (zn ?_))
 rcases zI h with ⟨h4, h⟩ | ⟨h4, h⟩
 refine zi (zs (zr ?_))
 refine zU (zl (zn (zq (yr (zt ?_)))))
 cases h
 exact zT Tryz.results42
 refine zj (zs (zr ?_))
 refine zU (zl (zn ?_))
 rcases zI h with ⟨h5, h⟩ | ⟨h5, h⟩
 refine zi (zs (zr ?_))
 refine zU (zl (zn (zq (yr (zt ?_)))))
 cases h
 exact zT Tryz.results42
 refine zj (zs (zr ?_))
 refine zU (zl (zn ?_))
 rcases zI h with ⟨h6, h⟩ | ⟨h6, h⟩
 refine zi (zs (zr ?_))
 refine zU (zl (zn (zq (yr (zt ?_)))))
 cases h
 exact zT Tryz.results42
 refine zj (zs (zr ?_))
 refine zU (zl (zn ?_))
 rcases zI h with ⟨h7, h⟩ | ⟨h7, h⟩
 refine zi (zs (zr ?_))
 refine zU (zl (zn (zq (yr (zt ?_)))))
 cases h
 exact zT Tryz.results42
 refine zj (zs (zr ?_))
 refine zU (zl (zn ?_))
 rcases zI h with ⟨h8, h⟩ | ⟨h8, h⟩
 refine zi (zs (zr ?_))
 refine zU (zl (zn (zq (yr (zt ?_)))))
 cases h
 exact zT Tryz.results42
 refine zj (zs (zr ?_))
 refine zU (zl (zn ?_))
 rcases zI h with ⟨h9, h⟩ | ⟨h9, h⟩
 refine zi (zs (zr ?_))
 refine zU (zl (zn (zq (yr (zt ?_)))))
 cases h
 exact zT Tryz.results42
 refine zj (zs (zr ?_))
 refine zU (zl (zn ?_))
 rcases zI h with ⟨h10, h⟩ | ⟨h10, h⟩
 refine zi (zs (zr ?_))
 refine zU (zl (zn (zq (yr (zt ?_)))))
 cases h
 exact zT Tryz.results42
 refine zj (zs (zr ?_))
 refine zU (zl (zn ?_))
 rcases zI h with ⟨h11, h⟩ | ⟨h11, h⟩
 refine zi (zs (zr ?_))
 refine zU (zl (zn (zq (yr (zt ?_)))))
 cases h
 exact zT Tryz.results42
 refine zj (zs (zr ?_))
 refine zU (zl (zn ?_))
 rcases zI h with ⟨h12, h⟩ | ⟨h12, h⟩
 refine zi (zs (zr ?_))
 refine zU (zl (zn (zq (yr (zt ?_)))))
 cases h
 exact zT Tryz.results42
 refine zj (zs (zr ?_))
 refine zU (zl (zn ?_))
 rcases zI h with ⟨h13, h⟩ | ⟨h13, h⟩
 refine zi (zs (zr ?_))
 refine zU (zl (zn (zq (yr (zt ?_)))))
 cases h
 exact zT Tryz.results42
 refine zj (zk (yn (zn (zs (zr ?_)))))
 refine zU (zl (zn (zq ?_)))
 cases h
 exact zT Tryz.results42
end Go.Proofs.YtimfcgdnogjlhaaGreat
set_option linter.unusedVariables false
set_option linter.unusedSimpArgs false
namespace Go.Proofs.YtimfcgdnogjlhaaGreat
open Go Go.Ab
set_option maxHeartbeats 4000000 in
theorem drossref03_Wide_con {D : Prop} (x1 : Drossref03_Recipe) (n2 : Int) (r3 : Table) (h : drossref03_Wide x1 n2 = some r3) : Con D Tryz.prog 18 [(encDrossref03_Recipe x1), (.int .i64 n2)] (encTable r3) := by
 refine zP Tryz.call18 Tryz.func18 rfl Tryz.ntmps18 fun X w => ?_
 simp only [drossref03_Wide] at h
 refine zs (zr ?_)
 refine zU (zl (zn (zs (zr ?_))))
 obtain ⟨h4, h⟩ := ite_some h
 obtain ⟨h5, h⟩ := ite_some h
 refine zW 4 ?_
 obtain ⟨l6, h7, h⟩ := zB h
 replace h7 := Option.some.inj h7
 refine AL_le (st' := ⟨[(1, .p (.int .i64 n2)), (2, .loc 2 1 0 0), (4, .loc 4 1 0 0), (10, .own 10 1 0 0), (13, .own 11 1 0 n2.toNat)], [(2, .arr 24 3 1 [.p (encDrossref03_Recipe x1)]), (4, .arr 31 3 1 [.agg [.p (.str []), .nils, .nils]]), (10, .arr 9 1 1 []), (11, .arr 9 1 1 (List.map AV.p (List.map PV.str l6)))]⟩) (by simp only [go_sem, seval, ← h7]; all_goals ((repeat' refine And.intro ?_ ?_) <;> first | rfl | (simp; done) | (simp; rfl) | (simp [*]; done) | (simp [*]; rfl))) ?_
 have h7n : l6.length = 8 := by rw [← h7]; rfl
 clear h7
 obtain ⟨h8, h⟩ := ite_some h
 refine zU (zl (zn (zs (zs (zr ?_)))))
 refine zU (zl (zn (zb ?_)))
 obtain ⟨t9, h10, h⟩ := zB h
 refine zO (fun (s : List Row × Int) => ⟨[(1, .p (.int .i64 n2)), (2, .loc 2 1 0 0), (4, .loc 4 1 0 0), (5, .loc 5 1 0 0), (6, .p (.int .i64 s.2))], [(2, .arr 24 3 1 [.p (encDrossref03_Recipe x1)]), (4, .arr 31 3 1 [.agg [.p (.str []), .nils, .nils]]), (5, .arr 31 3 1 [.agg [.p (.str [114]), .own 10 1 0 ((l6.take n2.toNat)).length, .own 64 1 0 s.1.length]]), (10, .arr 9 1 1 (List.map AV.p (List.map PV.str (l6.take n2.toNat)))), (64, .arr 51 2 1 (List.map AV.p (List.map encRow s.1)))]⟩) (fun (o11 : List Row) => tE (cX Tryz.f18 X w D) (.exit 0) ⟨[(4, .loc 4 1 0 0), (5, .loc 5 1 0 0)], [(4, .arr 31 3 1 [.agg [.p (.str []), .nils, .nils]]), (5, .arr 31 3 1 [.agg [.p (.str [114]), .own 10 1 0 ((l6.take n2.toNat)).length, .own 64 1 0 o11.length]]), (10, .arr 9 1 1 (List.map AV.p (List.map PV.str (l6.take n2.toNat)))), (64, .arr 51 2 1 (List.map AV.p (List.map encRow o11)))]⟩) h10 ?_ ?_
 clear h h4 h5 h7n h8 h10
 intro s x h
 obtain ⟨t12, i13⟩ := s
 simp only [drossref03_Wide_l4] at h
 dsimp only
 refine zs (zs (zr ?_))
 refine zU (zl (zn ?_))
 rcases zI h with ⟨h14, h⟩ | ⟨h14, h⟩
 refine zi (zk (zn (zs (zb (zs (zr ?_))))))
 refine zU (zl (zn (zs (zs (zr ?_)))))
 refine zU (zl (zn (zb ?_)))
 obtain ⟨r15, h16, h⟩ := zB h
 refine zO (fun (s : List Value × Int) => ⟨[(1, .p (.int .i64 n2)), (2, .loc 2 1 0 0), (4, .loc 4 1 0 0), (5, .loc 5 1 0 0), (6, .p (.int .i64 i13)), (7, .loc 7 1 0 0), (8, .p (.int .i64 s.2))], [(2, .arr 24 3 1 [.p (encDrossref03_Recipe x1)]), (4, .arr 31 3 1 [.agg [.p (.str []), .nils, .nils]]), (5, .arr 31 3 1 [.agg [.p (.str [114]), .own 10 1 0 ((l6.take n2.toNat)).length, .own 64 1 0 t12.length]]), (7, .arr 51 2 1 [.agg [.p (.int .i64 (IntKind.i64.wrap (1 + (IntKind.i64.wrap (i13 * (IntKind.i64.wrap (1 + (IntKind.i64.wrap (Int.tmod x1.Gap 3))))))))), .own 58 1 0 s.1.length]]), (10, .arr 9 1 1 (List.map AV.p (List.map PV.str (l6.take n2.toNat)))), (58, .arr 83 3 1 (List.map AV.p (List.map encValue s.1))), (64, .arr 51 2 1 (List.map AV.p (List.map encRow t12)))]⟩) (fun (o17 : List Value) => tE (cX Tryz.f18 X w D) (.exit 2) ⟨[(1, .p (.int .i64 n2)), (2, .loc 2 1 0 0), (4, .loc 4 1 0 0), (5, .loc 5 1 0 0), (6, .p (.int .i64 i13)), (7, .loc 7 1 0 0)], [(2, .arr 24 3 1 [.p (encDrossref03_Recipe x1)]), (4, .arr 31 3 1 [.agg [.p (.str []), .nils, .nils]]), (5, .arr 31 3 1 [.agg [.p (.str [114]), .own 10 1 0 ((l6.take n2.toNat)).length, .own 64 1 0 t12.length]]), (7, .arr 51 2 1 [.agg [.p (.int .i64 (IntKind.i64.wrap (1 + (IntKind.i64.wrap (i13 * (IntKind.i64.wrap (1 + (IntKind.i64.wrap (Int.tmod x1.Gap 3))))))))), .own 58 1 0 o17.length]]), (10, .arr 9 1 1 (List.map AV.p (List.map PV.str (l6.take n2.toNat)))), (58, .arr 83 3 1 (List.map AV.p (List.map encValue o17))), (64, .arr 51 2 1 (List.map AV.p (List.map encRow t12)))]⟩) h16 ?_ ?_
 clear h h14 h16
 intro s x h
 obtain ⟨r18, k19⟩ := s
 simp only [drossref03_Wide_l3] at h
 dsimp only
 refine zs (zs (zr ?_))
 refine zU (zl (zn ?_))
 rcases zI h with ⟨h20, h⟩ | ⟨h20, h⟩
 refine zi (zk (zn (zs (zb (zs (zr ?_))))))
 refine zU (zl (zn (zs (zs (zr ?_)))))
 obtain ⟨x21, h22, h22a, h22b, h⟩ := zX h
 refine zU (zl (zn ?_))
 rcases zI h with ⟨h23, h⟩ | ⟨h23, h⟩
 refine zi (zr ?_)
 obtain ⟨x24, h25, h25a, h25b, h⟩ := zX h
 refine zU (zl (zn (zd ?_)))
 refine yU ?_
 obtain ⟨r26, h27, h⟩ := zB h
 refine yc (drossref01_Of_con x24 _ h27) ?_
 obtain ⟨h28, h⟩ := ite_some h
 refine yU ?_
 refine yd (yn (zn (zr ?_)))
 refine zU (zl ?_)
 cases h
 exact ⟨rfl, zE⟩
 refine zj (zk (zn (zd ?_)))
 refine yU ?_
 obtain ⟨r29, h30, h⟩ := zB h
 refine yc (drossref01_Of_con 0 _ h30) ?_
 obtain ⟨h31, h⟩ := ite_some h
 refine yU ?_
 refine yd (yn (zn (zr ?_)))
 refine zU (zl ?_)
 cases h
 exact ⟨rfl, zE⟩
 refine zj (zx (ze ?_))
 cases h
 exact ⟨rfl, zE⟩
 try simp only at h
 refine zA (yh (zn (zr ?_)))
 refine zW 4 ?_
 refine zM ⟨[(1, .p (.int .i64 n2)), (2, .loc 2 1 0 0), (4, .loc 4 1 0 0), (5, .loc 5 1 0 0), (6, .p (.int .i64 i13)), (61, .own 64 1 0 t12.length), (63, .own 63 1 0 1)], [(2, .arr 24 3 1 [.p (encDrossref03_Recipe x1)]), (4, .arr 31 3 1 [.agg [.p (.str []), .nils, .nils]]), (5, .arr 31 3 1 [.agg [.p (.str [114]), .own 10 1 0 ((l6.take n2.toNat)).length, .own 64 1 0 t12.length]]), (10, .arr 9 1 1 (List.map AV.p (List.map PV.str (l6.take n2.toNat)))), (63, .arr 51 2 1 [.p (.agg [.int .i64 (IntKind.i64.wrap (1 + (IntKind.i64.wrap (i13 * (IntKind.i64.wrap (1 + (IntKind.i64.wrap (Int.tmod x1.Gap 3)))))))), .slc (List.map encValue r15)])]), (64, .arr 51 2 1 (List.map AV.p (List.map encRow t12)))]⟩ ?_
 obtain ⟨h32, h⟩ := ite_some h
 refine zU (zl (yn (zn (zr ?_))))
 refine zU (zl ?_)
 cases h
 exact ⟨rfl, zE⟩
 refine zj (zx (ze ?_))
 cases h
 exact ⟨rfl, zE⟩
 try simp only at h
 refine zA (yh (zn (zs (zr ?_))))
 refine zU (zl (zn (zq ?_)))
 cases h
 exact zT Tryz.results18
end Go.Proofs.YtimfcgdnogjlhaaGreat
set_option linter.unusedVariables false
set_option linter.unusedSimpArgs false
namespace Go.Proofs.YtimfcgdnogjlhaaGreat
open Go Go.Ab
set_option maxHeartbeats 4000000 in
theorem drossref03_Table_con {D : Prop} (x1 : Drossref03_Recipe) (m2 : Int) (r3 : Table × Bool) (h : drossref03_Table x1 m2 = some r3) : Con D Tryz.prog 5 [(encDrossref03_Recipe x1), (.int .i64 m2)] (.tup [(encTable r3.1), (.bool r3.2)]) := by
 refine zP Tryz.call5 Tryz.func5 rfl Tryz.ntmps5 fun X w => ?_
 simp only [drossref03_Table] at h
 refine zs (zr ?_)
 refine zU (zl (zn (zs (zs (zr ?_)))))
 refine zU (zl (zn ?_))
 rcases zI h with ⟨h4, h⟩ | ⟨h4, h⟩
 refine zi (zs (zr ?_))
 refine zU (zl (zn (zq (zt ?_))))
 cases h
 exact zT Tryz.results5
 refine zj (zk (zn (zs (zr ?_))))
 refine zU ?_
 obtain ⟨r5, h6, h⟩ := zB h
 refine zc (drossref03_Wide_con x1 (IntKind.i64.wrap (Int.tmod x1.Attrs 6)) _ h6) ?_
 refine zU (zl (zn (zq ?_)))
 cases h
 exact zT Tryz.results5
end Go.Proofs.YtimfcgdnogjlhaaGreat
set_option linter.unusedVariables false
set_option linter.unusedSimpArgs false
namespace Go.Proofs.YtimfcgdnogjlhaaGreat
open Go Go.Ab
set_option maxRecDepth 20000 in
set_option maxHeartbeats 4000000 in
theorem table_isName_con {D : Prop} (s1 : List UInt8) (r2 : Bool) (h : table_isName s1 = some r2) : Con D Tryz.prog 76 [(.str s1)] (.bool r2) := by
 refine zP Tryz.call76 Tryz.func76 rfl Tryz.ntmps76 fun X w => ?_
 simp only [table_isName] at h
 refine zs (zr ?_)
 refine zU (zl (zn (zs (zs (zr ?_)))))
 refine zU ?_
 rcases zI h with ⟨h3, h⟩ | ⟨h3, h⟩
 refine zw 8 true ?_
 refine zh ?_
 refine zU ?_
 refine zh ?_
 refine zU (zl (zn ?_))
 refine zi (zs (zr ?_))
 refine zU (zl (zn (zq (zt ?_))))
 cases h
 exact zT Tryz.results76
 refine zw 8 false ?_
 refine zg ?_
 refine zg ?_
 refine zg ?_
 refine zU ?_
 rcases zI h with ⟨h4, h⟩ | ⟨h4, h⟩
 refine zw 13 true ?_
 refine zh ?_
 refine zU (zl (zn ?_))
 refine zi (zs (zr ?_))
 refine zU (zl (zn (zq (zt ?_))))
 cases h
 exact zT Tryz.results76
 refine zw 13 false ?_
 refine zg ?_
 refine zg ?_
 refine zU (zl (zn ?_))
 rcases zI h with ⟨h5, h⟩ | ⟨h5, h⟩
 refine zi (zs (zr ?_))
 refine zU (zl (zn (zq (zt ?_))))
 cases h
 exact zT Tryz.results76
 refine zj (zk (zn (zs (zs (zr ?_)))))
 refine zU (zl (zn (zb ?_)))
 obtain ⟨o6, h7, h⟩ := zB h
 refine zO (fun (s : Int) => ⟨[(0, .p (.str s1)), (18, .p (.int .i64 (s1.length : Int))), (19, .p (.int .i64 s))], []⟩) (fun (o : (Unit) ⊕ (Bool)) => match o with | .inl o8 => tE (cX Tryz.f76 X w D) (.exit 0) ⟨[], []⟩ | .inr o9 => tR Tryz.prog Tryz.f76 (.bool o9)) h7 ?_ ?_
 clear h h3 h4 h5 h7
 intro t10 x h
 simp only [table_isName_l1] at h
 refine zs (zr ?_)
 refine zU (zl (zn (zs ?_)))
 rcases zI h with ⟨h11, h⟩ | ⟨h11, h⟩
 refine zi (zk (zn (zs (zb (zs (zr ?_))))))
 refine zU (zl (zn (zs (zr ?_))))
 obtain ⟨c12, h13, h13a, h13b, h⟩ := zX h
 refine zU (zl (zn ?_))
 obtain ⟨l14, h15, h⟩ := zB h
 refine zJ (fun (o16 : Bool) => tE (cX Tryz.f76 X w D) .normal ⟨[(0, .p (.str s1)), (3, .p (.int .i64 t10)), (4, .p (.int .u8 ((c12.toNat : Nat) : Int))), (5, .p (.bool o16)), (18, .p (.int .i64 (s1.length : Int))), (19, .p (.int .i64 t10))], []⟩) l14 ?_ ?_
 replace h := h15
 clear h15
 refine zr ?_
 refine zU ?_
 rcases zI h with ⟨h17, h⟩ | ⟨h17, h⟩
 refine zw 27 true ?_
 refine zg ?_
 refine zg ?_
 refine zU ?_
 rcases zI h with ⟨h18, h⟩ | ⟨h18, h⟩
 refine zw 31 true ?_
 refine zh ?_
 refine zU ?_
 refine zh ?_
 refine zU (zl ?_)
 cases h
 exact ⟨rfl, zE⟩
 refine zw 31 false ?_
 refine zg ?_
 refine zg ?_
 refine zg ?_
 rcases zI h with ⟨h19, h⟩ | ⟨h19, h⟩
 refine zw 34 true ?_
 refine zg ?_
 refine zg ?_
 refine zg ?_
 refine zU ?_
 rcases zI h with ⟨h20, h⟩ | ⟨h20, h⟩
 refine zw 39 true ?_
 refine zh ?_
 refine zU (zl ?_)
 cases h
 exact ⟨rfl, zE⟩
 replace h := h.symm
 refine zw 39 false ?_
 refine zg ?_
 refine zg ?_
 refine zU (zl ?_)
 cases h
 exact ⟨rfl, zE⟩
 replace h := h.symm
 refine zw 34 false ?_
 refine zh ?_
 refine zg ?_
 refine zU ?_
 refine zg ?_
 refine zg ?_
 refine zU (zl ?_)
 cases h
 exact ⟨rfl, zE⟩
 refine zw 27 false ?_
 refine zh ?_
 refine zU ?_
 refine zg ?_
 refine zg ?_
 refine zg ?_
 rcases zI h with ⟨h21, h⟩ | ⟨h21, h⟩
 refine zw 34 true ?_
 refine zg ?_
 refine zg ?_
 refine zg ?_
 refine zU ?_
 rcases zI h with ⟨h22, h⟩ | ⟨h22, h⟩
 refine zw 39 true ?_
 refine zh ?_
 refine zU (zl ?_)
 cases h
 exact ⟨rfl, zE⟩
 replace h := h.symm
 refine zw 39 false ?_
 refine zg ?_
 refine zg ?_
 refine zU (zl ?_)
 cases h
 exact ⟨rfl, zE⟩
 replace h := h.symm
 refine zw 34 false ?_
 refine zh ?_
 refine zg ?_
 refine zU ?_
 refine zg ?_
 refine zg ?_
 refine zU (zl ?_)
 cases h
 exact ⟨rfl, zE⟩
 try simp only at h
 refine zA (zn (zs (zr ?_)))
 refine zU ?_
 rcases zI h with ⟨h23, h⟩ | ⟨h23, h⟩
 refine zw 45 false ?_
 refine zh ?_
 refine zU (zl (zn ?_))
 refine zj (zk (yn (zn (zr ?_))))
 refine zU (zl ?_)
 cases h
 exact ⟨rfl, zE⟩
 refine zw 45 true ?_
 refine zg ?_
 refine zg ?_
 refine zg ?_
 rcases zI h with ⟨h24, h⟩ | ⟨h24, h⟩
 replace h := h.symm
 refine zw 48 true ?_
 refine zh ?_
 refine zg ?_
 refine zg ?_
 refine zh ?_
 refine zg ?_
 refine zU (zl (zn ?_))
 refine zi (zs (zr ?_))
 refine zU (zl (zn (zq (yr (zt ?_)))))
 cases h
 exact ⟨rfl, zT Tryz.results76⟩
 refine zw 48 false ?_
 refine zg ?_
 refine zg ?_
 refine zg ?_
 refine zg ?_
 rcases zI h with ⟨h25, h⟩ | ⟨h25, h⟩
 replace h := h.symm
 refine zw 52 true ?_
 refine zh ?_
 refine zg ?_
 refine zU (zl (zn ?_))
 refine zi (zs (zr ?_))
 refine zU (zl (zn (zq (yr (zt ?_)))))
 cases h
 exact ⟨rfl, zT Tryz.results76⟩
 refine zw 52 false ?_
 refine zg ?_
 refine zg ?_
 refine zg ?_
 refine zU (zl (zn ?_))
 rcases zI h with ⟨h26, h⟩ | ⟨h26, h⟩
 refine zi (zs (zr ?_))
 refine zU (zl (zn (zq (yr (zt ?_)))))
 cases h
 exact ⟨rfl, zT Tryz.results76⟩
 refine zj (zk (yn (zn (zr ?_))))
 refine zU (zl ?_)
 cases h
 exact ⟨rfl, zE⟩
 refine zj (zx (ze ?_))
 cases h
 exact ⟨rfl, zE⟩
 rcases o6 with ⟨⟩ | r27
 try simp only at h
 refine zA (yh (zn (zs (zr ?_))))
 refine zU (zl (zn (zq ?_)))
 cases h
 exact zT Tryz.results76
 try simp only at h
 refine zZ fun s hq => ?_
 refine yr (zt ?_)
 cases h
 exact hq
end Go.Proofs.YtimfcgdnogjlhaaGreat
set_option linter.unusedVariables false
set_option linter.unusedSimpArgs false
namespace Go.Proofs.YtimfcgdnogjlhaaGreat
open Go Go.Ab
set_option maxHeartbeats 4000000 in
theorem slices_Index_string_con {D : Prop} (s1 : List (List UInt8)) (v2 : List UInt8) (r3 : Int) (h : slices_Index_string s1 v2 = some r3) : Con D Tryz.prog 93 [(.slc (List.map PV.str s1)), (.str v2)] (.int .i64 r3) := by
 refine zP Tryz.call93 Tryz.func93 rfl Tryz.ntmps93 fun X w => ?_
 simp only [slices_Index_string] at h
 refine zs (zr ?_)
 refine zU (zl (zn (zs (zs (zr ?_)))))
 refine zU (zl (zn (zb ?_)))
 obtain ⟨o4, h5, h⟩ := zB h
 refine zO (fun (s : Int) => ⟨[(0, .p (.slc (List.map PV.str s1))), (1, .p (.str v2)), (7, .p (.int .i64 (s1.length : Int))), (8, .p (.int .i64 s))], []⟩) (fun (o : (Unit) ⊕ (Int)) => match o with | .inl o6 => tE (cX Tryz.f93 X w D) (.exit 0) ⟨[], []⟩ | .inr o7 => tR Tryz.prog Tryz.f93 (.int .i64 o7)) h5 ?_ ?_
 clear h h5
 intro t8 x h
 simp only [slices_Index_string_l1] at h
 refine zs (zr ?_)
 refine zU (zl (zn (zs ?_)))
 rcases zI h with ⟨h9, h⟩ | ⟨h9, h⟩
 refine zi (zk (zn (zs (zb (zs (zr ?_))))))
 refine zU (zl (zn (zs (zr ?_))))
 obtain ⟨x10, h11, h11a, h11b, h⟩ := zX h
 refine zU (zl (zn ?_))
 rcases zI h with ⟨h12, h⟩ | ⟨h12, h⟩
 refine zi (zs (zr ?_))
 refine zU (zl (zn (zq (yr (zt ?_)))))
 cases h
 exact ⟨rfl, zT Tryz.results93⟩
 refine zj (zk (yn (zn (zr ?_))))
 refine zU (zl ?_)
 cases h
 exact ⟨rfl, zE⟩
 refine zj (zx (ze ?_))
 cases h
 exact ⟨rfl, zE⟩
 rcases o4 with ⟨⟩ | r13
 try simp only at h
 refine zA (yh (zn (zs (zr ?_))))
 refine zU (zl (zn (zq ?_)))
 cases h
 exact zT Tryz.results93
 try simp only at h
 refine zZ fun s hq => ?_
 refine yr (zt ?_)
 cases h
 exact hq
end Go.Proofs.YtimfcgdnogjlhaaGreat
set_option linter.unusedVariables false
set_option linter.unusedSimpArgs false
namespace Go.Proofs.YtimfcgdnogjlhaaGreat
open Go Go.Ab
set_option maxHeartbeats 4000000 in
theorem slices_Contains_string_con {D : Prop} (s1 : List (List UInt8)) (v2 : List UInt8) (r3 : Bool) (h : slices_Contains_string s1 v2 = some r3) : Con D Tryz.prog 77 [(.slc (List.map PV.str s1)), (.str v2)] (.bool r3) := by
 refine zP Tryz.call77 Tryz.func77 rfl Tryz.ntmps77 fun X w => ?_
 simp only [slices_Contains_string] at h
 refine zs (zr ?_)
 refine zU (zl (zn (zs (zr ?_))))
 refine zU ?_
 obtain ⟨r4, h5, h⟩ := zB h
 refine zc (slices_Index_string_con s1 v2 _ h5) ?_
 refine zU (zl (zn (zq ?_)))
 cases h
 exact zT Tryz.results77
end Go.Proofs.YtimfcgdnogjlhaaGreat
set_option linter.unusedVariables false
set_option linter.unusedSimpArgs false
namespace Go.Proofs.YtimfcgdnogjlhaaGreat
open Go Go.Ab
set_option maxHeartbeats 4000000 in
theorem slices_IndexFunc_Value_con {D : Prop} (s1 : List Value) (f2 : Value → Option (Bool)) (f2_k : FuncId) (f2_cs : List PV) (f2_h : ∀ (y3 : Value) (r4 : Bool), f2 y3 = some r4 → Con D Tryz.prog f2_k ((encValue y3) :: f2_cs) (.bool r4)) (r5 : Int) (h : slices_IndexFunc_Value s1 f2 = some r5) : Con D Tryz.prog 117 [(.slc (List.map encValue s1)), .func (.func f2_k) f2_cs] (.int .i64 r5) := by
 refine zP Tryz.call117 Tryz.func117 rfl Tryz.ntmps117 fun X w => ?_
 simp only [slices_IndexFunc_Value] at h
 refine zs (zr ?_)
 refine zU (zl (zn (zs (zs (zr ?_)))))
 refine zU (zl (zn (zb ?_)))
 obtain ⟨o6, h7, h⟩ := zB h
 refine zO (fun (s : Int) => ⟨[(0, .p (.slc (List.map encValue s1))), (1, .p (.func (.func f2_k) f2_cs)), (7, .p (.int .i64 (s1.length : Int))), (8, .p (.int .i64 s))], []⟩) (fun (o : (Unit) ⊕ (Int)) => match o with | .inl o8 => tE (cX Tryz.f117 X w D) (.exit 0) ⟨[], []⟩ | .inr o9 => tR Tryz.prog Tryz.f117 (.int .i64 o9)) h7 ?_ ?_
 clear h h7
 intro t10 x h
 simp only [slices_IndexFunc_Value_l1] at h
 refine zs (zr ?_)
 refine zU (zl (zn (zs ?_)))
 rcases zI h with ⟨h11, h⟩ | ⟨h11, h⟩
 refine zi (zk (zn (zs (zb (zs (zr ?_))))))
 refine zU (zl (zn (zs (zr ?_))))
 obtain ⟨x12, h13, h13a, h13b, h⟩ := zX h
 refine zU ?_
 obtain ⟨r14, h15, h⟩ := zB h
 refine zc (f2_h x12 _ h15) ?_
 refine zl (zn ?_)
 rcases zI h with ⟨h16, h⟩ | ⟨h16, h⟩
 refine zi (zs (zr ?_))
 refine zU (zl (zn (zq (yr (zt ?_)))))
 cases h
 exact ⟨rfl, zT Tryz.results117⟩
 refine zj (zk (yn (zn (zr ?_))))
 refine zU (zl ?_)
 cases h
 exact ⟨rfl, zE⟩
 refine zj (zx (ze ?_))
 cases h
 exact ⟨rfl, zE⟩
 rcases o6 with ⟨⟩ | r17
 try simp only at h
 refine zA (yh (zn (zs (zr ?_))))
 refine zU (zl (zn (zq ?_)))
 cases h
 exact zT Tryz.results117
 try simp only at h
 refine zZ fun s hq => ?_
 refine yr (zt ?_)
 cases h
 exact hq
end Go.Proofs.YtimfcgdnogjlhaaGreat
set_option linter.unusedVariables false
set_option linter.unusedSimpArgs false
namespace Go.Proofs.YtimfcgdnogjlhaaGreat
open Go Go.Ab
set_option maxHeartbeats 4000000 in
theorem slices_ContainsFunc_Value_con {D : Prop} (s1 : List Value) (f2 : Value → Option (Bool)) (f2_k : FuncId) (f2_cs : List PV) (f2_h : ∀ (y3 : Value) (r4 : Bool), f2 y3 = some r4 → Con D Tryz.prog f2_k ((encValue y3) :: f2_cs) (.bool r4)) (r5 : Bool) (h : slices_ContainsFunc_Value s1 f2 = some r5) : Con D Tryz.prog 94 [(.slc (List.map encValue s1)), .func (.func f2_k) f2_cs] (.bool r5) := by
 refine zP Tryz.call94 Tryz.func94 rfl Tryz.ntmps94 fun X w => ?_
 simp only [slices_ContainsFunc_Value] at h
 refine zs (zr ?_)
 refine zU (zl (zn (zs (zr ?_))))
 refine zU ?_
 obtain ⟨r6, h7, h⟩ := zB h
 refine zc (slices_IndexFunc_Value_con s1 f2 f2_k f2_cs f2_h _ h7) ?_
 refine zU (zl (zn (zq ?_)))
 cases h
 exact zT Tryz.results94
end Go.Proofs.YtimfcgdnogjlhaaGreat
set_option linter.unusedVariables false
set_option linter.unusedSimpArgs false
namespace Go.Proofs.YtimfcgdnogjlhaaGreat
open Go Go.Ab
set_option maxHeartbeats 4000000 in
theorem value_Valid_con {D : Prop} (v1 : Value) (r2 : Bool) (h : value_Valid v1 = some r2) : Con D Tryz.prog 96 [(encValue v1)] (.bool r2) := by
 refine zP Tryz.call96 Tryz.func96 rfl Tryz.ntmps96 fun X w => ?_
 simp only [value_Valid] at h
 refine zs (zr ?_)
 refine zU (zl (zn (zs (zs (zr ?_)))))
 refine zU (zl (zn (zb (zs (zr ?_)))))
 refine zU (zl (zn ?_))
 rcases zI h with ⟨h3, h⟩ | ⟨h3, h⟩
 refine zi (zs (zr ?_))
 refine zU ?_
 rcases zI h with ⟨h4, h⟩ | ⟨h4, h⟩
 replace h := h.symm
 refine zw 10 true ?_
 refine zg ?_
 refine zg ?_
 refine zg ?_
 refine zU (zl (zn (zq (yr (zt ?_)))))
 cases h
 exact zT Tryz.results96
 refine zw 10 false ?_
 refine zh ?_
 refine zU (zl (zn (zq (yr (zt ?_)))))
 cases h
 exact zT Tryz.results96
 refine zj (zs (zr ?_))
 refine zU (zl (zn ?_))
 rcases zI h with ⟨h5, h⟩ | ⟨h5, h⟩
 refine zi (zs (zr ?_))
 refine zU (zl (zn (zq (yr (zt ?_)))))
 cases h
 exact zT Tryz.results96
 refine zj (zs (zr ?_))
 refine zU (zl (zn ?_))
 rcases zI h with ⟨h6, h⟩ | ⟨h6, h⟩
 refine zi (zs (zr ?_))
 refine zU ?_
 rcases zI h with ⟨h7, h⟩ | ⟨h7, h⟩
 replace h := h.symm
 refine zw 25 true ?_
 refine zg ?_
 refine zg ?_
 refine zg ?_
 refine zg ?_
 refine zU (zl (zn (zq (yr (zt ?_)))))
 cases h
 exact zT Tryz.results96
 refine zw 25 false ?_
 refine zh ?_
 refine zU (zl (zn (zq (yr (zt ?_)))))
 cases h
 exact zT Tryz.results96
 refine zj (zs (zr ?_))
 refine zU (zl (zn ?_))
 rcases zI h with ⟨h8, h⟩ | ⟨h8, h⟩
 refine zi (zs (zr ?_))
 refine zU ?_
 rcases zI h with ⟨h9, h⟩ | ⟨h9, h⟩
 replace h := h.symm
 refine zw 36 true ?_
 refine zg ?_
 refine zg ?_
 refine zg ?_
 refine zU (zl (zn (zq (yr (zt ?_)))))
 cases h
 exact zT Tryz.results96
 refine zw 36 false ?_
 refine zh ?_
 refine zU (zl (zn (zq (yr (zt ?_)))))
 cases h
 exact zT Tryz.results96
 refine zj (zk (yn (zn (zs (zr ?_)))))
 refine zU (zl (zn (zq ?_)))
 cases h
 exact zT Tryz.results96
end Go.Proofs.YtimfcgdnogjlhaaGreat
set_option linter.unusedVariables false
set_option linter.unusedSimpArgs false
namespace Go.Proofs.YtimfcgdnogjlhaaGreat
open Go Go.Ab
set_option maxHeartbeats 4000000 in
theorem table_validValues_1_con {D : Prop} (v1 : Value) (r2 : Bool) (h : table_validValues_1 v1 = some r2) : Con D Tryz.prog 95 [(encValue v1)] (.bool r2) := by
 refine zP Tryz.call95 Tryz.func95 rfl Tryz.ntmps95 fun X w => ?_
 simp only [table_validValues_1] at h
 refine zs (zr ?_)
 refine zU (zl (zn (zs (zr ?_))))
 refine zU ?_
 obtain ⟨r3, h4, h⟩ := zB h
 refine zc (value_Valid_con v1 _ h4) ?_
 refine zU (zl (zn (zq ?_)))
 cases h
 exact zT Tryz.results95
end Go.Proofs.YtimfcgdnogjlhaaGreat
set_option linter.unusedVariables false
set_option linter.unusedSimpArgs false
namespace Go.Proofs.YtimfcgdnogjlhaaGreat
open Go Go.Ab
set_option maxHeartbeats 4000000 in
theorem table_validValues_con {D : Prop} (l1 : List Value) (r2 : Bool) (h : table_validValues l1 = some r2) : Con D Tryz.prog 78 [(.slc (List.map encValue l1))] (.bool r2) := by
 refine zP Tryz.call78 Tryz.func78 rfl Tryz.ntmps78 fun X w => ?_
 simp only [table_validValues] at h
 refine zs (zr ?_)
 refine zU (zl (zn (zs (zr ?_))))
 refine zU ?_
 obtain ⟨r3, h4, h⟩ := zB h
 refine zc (slices_ContainsFunc_Value_con l1 (fun (y5 : Value) => table_validValues_1 y5) 95 [] (fun y5 r h => table_validValues_1_con y5 r h) _ h4) ?_
 refine zU (zl (zn (zq ?_)))
 cases h
 exact zT Tryz.results78
end Go.Proofs.YtimfcgdnogjlhaaGreat
set_option linter.unusedVariables false
set_option linter.unusedSimpArgs false
namespace Go.Proofs.YtimfcgdnogjlhaaGreat
open Go Go.Ab
set_option maxHeartbeats 4000000 in
theorem table_Valid_con {D : Prop} (t1 : Table) (r2 : Int) (h : table_Valid t1 = some r2) : Con D Tryz.prog 52 [(encTable t1)] (.int .i64 r2) := by
 refine zP Tryz.call52 Tryz.func52 rfl Tryz.ntmps52 fun X w => ?_
 simp only [table_Valid] at h
 refine zs (zr ?_)
 refine zU (zl (zn (zs (zs (zr ?_)))))
 refine zU ?_
 obtain ⟨r3, h4, h⟩ := zB h
 refine zc (table_isName_con t1.Name _ h4) ?_
 refine zU (zl (zn ?_))
 rcases zI h with ⟨h5, h⟩ | ⟨h5, h⟩
 refine zj (zk (zn (zs (zs (zr ?_)))))
 refine zU ?_
 rcases zI h with ⟨h6, h⟩ | ⟨h6, h⟩
 refine zw 16 true ?_
 refine zh ?_
 refine zU (zl (zn ?_))
 refine zi (zs (zr ?_))
 refine zU (zl (zn (zq (zt ?_))))
 cases h
 exact zT Tryz.results52
 refine zw 16 false ?_
 refine zg ?_
 refine zg ?_
 refine zg ?_
 refine zg ?_
 refine zU (zl (zn ?_))
 rcases zI h with ⟨h7, h⟩ | ⟨h7, h⟩
 refine zi (zs (zr ?_))
 refine zU (zl (zn (zq (zt ?_))))
 cases h
 exact zT Tryz.results52
 refine zj (zk (zn (zs (zs (zr ?_)))))
 refine zU (zl (zn (zb ?_)))
 obtain ⟨o8, h9, h⟩ := zB h
 refine zO (fun (s : Int) => ⟨[(1, .loc 1 1 0 0), (23, .p (.slc (List.map PV.str t1.Attrs))), (24, .p (.int .i64 (t1.Attrs.length : Int))), (25, .p (.int .i64 s))], [(1, .arr 31 3 1 [.p (encTable t1)])]⟩) (fun (o : (Unit) ⊕ (Int)) => match o with | .inl o10 => tE (cX Tryz.f52 X w D) (.exit 0) ⟨[(1, .loc 1 1 0 0)], [(1, .arr 31 3 1 [.p (encTable t1)])]⟩ | .inr o11 => tR Tryz.prog Tryz.f52 (.int .i64 o11)) h9 ?_ ?_
 clear h h4 h5 h6 h7 h9
 intro t12 x h
 simp only [table_Valid_l1] at h
 refine zs (zr ?_)
 refine zU (zl (zn (zs ?_)))
 rcases zI h with ⟨h13, h⟩ | ⟨h13, h⟩
 refine zi (zk (zn (zs (zb (zs (zr ?_))))))
 obtain ⟨x14, h15, h15a, h15b, h⟩ := zX h
 refine zU (zl (zn (zs (zr ?_))))
 refine zU ?_
 obtain ⟨r16, h17, h⟩ := zB h
 refine zc (table_isName_con x14 _ h17) ?_
 refine zU ?_
 rcases zI h with ⟨h18, h⟩ | ⟨h18, h⟩
 refine zw 33 false ?_
 refine zg ?_
 refine zg ?_
 refine zg ?_
 obtain ⟨h19, h⟩ := ite_some h
 obtain ⟨h20, h⟩ := ite_some h
 refine zg ?_
 refine zg ?_
 obtain ⟨r21, h22, h⟩ := zB h
 refine zc (slices_Contains_string_con (t1.Attrs.take (t12.toNat)) x14 _ h22) ?_
 refine zU (zl (zn ?_))
 rcases zI h with ⟨h23, h⟩ | ⟨h23, h⟩
 refine zi (zs (zr ?_))
 refine zU (zl (zn (zq (yr (zt ?_)))))
 cases h
 exact ⟨rfl, zT Tryz.results52⟩
 refine zj (zk (yn (zn (zr ?_))))
 refine zU (zl ?_)
 cases h
 exact ⟨rfl, zE⟩
 refine zw 33 true ?_
 refine zh ?_
 refine zU (zl (zn ?_))
 refine zi (zs (zr ?_))
 refine zU (zl (zn (zq (yr (zt ?_)))))
 cases h
 exact ⟨rfl, zT Tryz.results52⟩
 refine zj (zx (ze ?_))
 cases h
 exact ⟨rfl, zE⟩
 rcases o8 with ⟨⟩ | r24
 try simp only at h
 refine zA (yh (zn (zs (zr ?_))))
 refine zU (zl (zn (zs (zs (zr ?_)))))
 refine zU (zl (zn (zb ?_)))
 obtain ⟨o25, h26, h⟩ := zB h
 refine zO (fun (s : Int × Int) => ⟨[(1, .loc 1 1 0 0), (5, .p (.int .i64 s.1)), (43, .p (.slc (List.map encRow t1.Rows))), (44, .p (.int .i64 (t1.Rows.length : Int))), (45, .p (.int .i64 s.2))], [(1, .arr 31 3 1 [.p (encTable t1)])]⟩) (fun (o : (Unit) ⊕ (Int)) => match o with | .inl o27 => tE (cX Tryz.f52 X w D) (.exit 2) ⟨[], []⟩ | .inr o28 => tR Tryz.prog Tryz.f52 (.int .i64 o28)) h26 ?_ ?_
 clear h h4 h5 h6 h7 h9 h26
 intro s x h
 obtain ⟨l29, t30⟩ := s
 simp only [table_Valid_l2] at h
 dsimp only
 refine zs (zr ?_)
 refine zU (zl (zn (zs ?_)))
 rcases zI h with ⟨h31, h⟩ | ⟨h31, h⟩
 refine zi (zk (zn (zs (zb (zs (zr ?_))))))
 obtain ⟨x32, h33, h33a, h33b, h⟩ := zX h
 refine zU (zl (zn (zs (zb (zs (zr ?_))))))
 refine zU (zl (zn ?_))
 rcases zI h with ⟨h34, h⟩ | ⟨h34, h⟩
 refine zi (zs (zr ?_))
 refine zU (zl (zn (zq (yr (zt (yr (zt ?_)))))))
 cases h
 exact ⟨rfl, zT Tryz.results52⟩
 refine zj (zs (zr ?_))
 refine zU (zl (zn ?_))
 rcases zI h with ⟨h35, h⟩ | ⟨h35, h⟩
 refine zi (zs (zr ?_))
 refine zU (zl (zn (zq (yr (zt (yr (zt ?_)))))))
 cases h
 exact ⟨rfl, zT Tryz.results52⟩
 refine zj (zs (zr ?_))
 refine zU ?_
 obtain ⟨r36, h37, h⟩ := zB h
 refine zc (table_validValues_con x32.Values _ h37) ?_
 refine zU (zl (zn ?_))
 rcases zI h with ⟨h38, h⟩ | ⟨h38, h⟩
 refine zj (zk (yn (zn (zr ?_))))
 refine zU (zl (yn (zn (zr ?_))))
 refine zU (zl ?_)
 cases h
 exact ⟨rfl, zE⟩
 refine zi (zs (zr ?_))
 refine zU (zl (zn (zq (yr (zt (yr (zt ?_)))))))
 cases h
 exact ⟨rfl, zT Tryz.results52⟩
 refine zj (zx (ze ?_))
 cases h
 exact ⟨rfl, zE⟩
 rcases o25 with ⟨⟩ | r39
 try simp only at h
 refine zA (yh (zn (zs (zr ?_))))
 refine zU (zl (zn (zq ?_)))
 cases h
 exact zT Tryz.results52
 try simp only at h
 refine zZ fun s hq => ?_
 refine yr (zt ?_)
 cases h
 exact hq
 try simp only at h
 refine zZ fun s hq => ?_
 refine yr (zt ?_)
 cases h
 exact hq
 refine zi (zs (zr ?_))
 refine zU (zl (zn (zq (zt ?_))))
 cases h
 exact zT Tryz.results52
end Go.Proofs.YtimfcgdnogjlhaaGreat
set_option linter.unusedVariables false
set_option linter.unusedSimpArgs false
namespace Go.Proofs.YtimfcgdnogjlhaaGreat
open Go Go.Ab
set_option maxHeartbeats 4000000 in
theorem ordering_check_con {D : Prop} (t1 : Table) (o2 : Int → Option (Bool)) (o2_k : FuncId) (o2_cs : List PV) (o2_h : ∀ (y3 : Int) (r4 : Bool), o2 y3 = some r4 → Con D Tryz.prog o2_k ((.int .i64 y3) :: o2_cs) (.bool r4)) (r5 : Int) (h : ordering_check t1 o2 = some r5) : Con D Tryz.prog 24 [(encTable t1), .func (.func o2_k) o2_cs] (.int .i64 r5) := by
 refine zP Tryz.call24 Tryz.func24 rfl Tryz.ntmps24 fun X w => ?_
 simp only [ordering_check] at h
 refine zs (zr ?_)
 refine zU (zl (zn (zs (zs (zr ?_)))))
 refine zU ?_
 obtain ⟨r6, h7, h⟩ := zB h
 refine zc (table_Valid_con t1 _ h7) ?_
 refine zU (zl (zn (zs (zr ?_))))
 refine zU (zl (zn ?_))
 rcases zI h with ⟨h8, h⟩ | ⟨h8, h⟩
 refine zi (zs (zr ?_))
 refine zU (zl (zn (zq (zt ?_))))
 cases h
 exact zT Tryz.results24
 refine zj (zk (zn (zs (zs (zr ?_)))))
 refine zU ?_
 obtain ⟨r9, h10, h⟩ := zB h
 refine zc (o2_h (t1.Attrs.length : Int) _ h10) ?_
 refine zU (zl (zn ?_))
 rcases zI h with ⟨h11, h⟩ | ⟨h11, h⟩
 refine zj (zk (zn (zs (zr ?_))))
 refine zU (zl (zn (zq ?_)))
 cases h
 exact zT Tryz.results24
 refine zi (zs (zr ?_))
 refine zU (zl (zn (zq (zt ?_))))
 cases h
 exact zT Tryz.results24
end Go.Proofs.YtimfcgdnogjlhaaGreat
set_option linter.unusedVariables false
set_option linter.unusedSimpArgs false
namespace Go.Proofs.YtimfcgdnogjlhaaGreat
open Go Go.Ab
set_option maxHeartbeats 4000000 in
theorem slices_IndexFunc_int_con {D : Prop} (s1 : List Int) (f2 : Int → Option (Bool)) (f2_k : FuncId) (f2_cs : List PV) (f2_h : ∀ (y3 : Int) (r4 : Bool), f2 y3 = some r4 → Con D Tryz.prog f2_k ((.int .i64 y3) :: f2_cs) (.bool r4)) (r5 : Int) (h : slices_IndexFunc_int s1 f2 = some r5) : Con D Tryz.prog 79 [(.slc (List.map (PV.int .i64) s1)), .func (.func f2_k) f2_cs] (.int .i64 r5) := by
 refine zP Tryz.call79 Tryz.func79 rfl Tryz.ntmps79 fun X w => ?_
 simp only [slices_IndexFunc_int] at h
 refine zs (zr ?_)
 refine zU (zl (zn (zs (zs (zr ?_)))))
 refine zU (zl (zn (zb ?_)))
 obtain ⟨o6, h7, h⟩ := zB h
 refine zO (fun (s : Int) => ⟨[(0, .p (.slc (List.map (PV.int .i64) s1))), (1, .p (.func (.func f2_k) f2_cs)), (7, .p (.int .i64 (s1.length : Int))), (8, .p (.int .i64 s))], []⟩) (fun (o : (Unit) ⊕ (Int)) => match o with | .inl o8 => tE (cX Tryz.f79 X w D) (.exit 0) ⟨[], []⟩ | .inr o9 => tR Tryz.prog Tryz.f79 (.int .i64 o9)) h7 ?_ ?_
 clear h h7
 intro t10 x h
 simp only [slices_IndexFunc_int_l1] at h
 refine zs (zr ?_)
 refine zU (zl (zn (zs ?_)))
 rcases zI h with ⟨h11, h⟩ | ⟨h11, h⟩
 refine zi (zk (zn (zs (zb (zs (zr ?_))))))
 refine zU (zl (zn (zs (zr ?_))))
 obtain ⟨x12, h13, h13a, h13b, h⟩ := zX h
 refine zU ?_
 obtain ⟨r14, h15, h⟩ := zB h
 refine zc (f2_h x12 _ h15) ?_
 refine zl (zn ?_)
 rcases zI h with ⟨h16, h⟩ | ⟨h16, h⟩
 refine zi (zs (zr ?_))
 refine zU (zl (zn (zq (yr (zt ?_)))))
 cases h
 exact ⟨rfl, zT Tryz.results79⟩
 refine zj (zk (yn (zn (zr ?_))))
 refine zU (zl ?_)
 cases h
 exact ⟨rfl, zE⟩
 refine zj (zx (ze ?_))
 cases h
 exact ⟨rfl, zE⟩
 rcases o6 with ⟨⟩ | r17
 try simp only at h
 refine zA (yh (zn (zs (zr ?_))))
 refine zU (zl (zn (zq ?_)))
 cases h
 exact zT Tryz.results79
 try simp only at h
 refine zZ fun s hq => ?_
 refine yr (zt ?_)
 cases h
 exact hq
end Go.Proofs.YtimfcgdnogjlhaaGreat
set_option linter.unusedVariables false
set_option linter.unusedSimpArgs false
namespace Go.Proofs.YtimfcgdnogjlhaaGreat
open Go Go.Ab
set_option maxHeartbeats 4000000 in
theorem slices_ContainsFunc_int_con {D : Prop} (s1 : List Int) (f2 : Int → Option (Bool)) (f2_k : FuncId) (f2_cs : List PV) (f2_h : ∀ (y3 : Int) (r4 : Bool), f2 y3 = some r4 → Con D Tryz.prog f2_k ((.int .i64 y3) :: f2_cs) (.bool r4)) (r5 : Bool) (h : slices_ContainsFunc_int s1 f2 = some r5) : Con D Tryz.prog 53 [(.slc (List.map (PV.int .i64) s1)), .func (.func f2_k) f2_cs] (.bool r5) := by
 refine zP Tryz.call53 Tryz.func53 rfl Tryz.ntmps53 fun X w => ?_
 simp only [slices_ContainsFunc_int] at h
 refine zs (zr ?_)
 refine zU (zl (zn (zs (zr ?_))))
 refine zU ?_
 obtain ⟨r6, h7, h⟩ := zB h
 refine zc (slices_IndexFunc_int_con s1 f2 f2_k f2_cs f2_h _ h7) ?_
 refine zU (zl (zn (zq ?_)))
 cases h
 exact zT Tryz.results53
end Go.Proofs.YtimfcgdnogjlhaaGreat
set_option linter.unusedVariables false
set_option linter.unusedSimpArgs false
namespace Go.Proofs.YtimfcgdnogjlhaaGreat
open Go Go.Ab
set_option maxHeartbeats 4000000 in
theorem ordering_list_1_con {D : Prop} (a1 : Int) (c2 : Int) (r3 : Bool) (h : ordering_list_1 a1 c2 = some r3) : Con D Tryz.prog 54 [(.int .i64 a1), .imm [.int .i64 c2]] (.bool r3) := by
 refine zP Tryz.call54 Tryz.func54 rfl Tryz.ntmps54 fun X w => ?_
 simp only [ordering_list_1] at h
 refine zs (zr ?_)
 refine zU (zl (zn (zs (zr ?_))))
 refine zU ?_
 rcases zI h with ⟨h4, h⟩ | ⟨h4, h⟩
 refine zw 6 true ?_
 refine zh ?_
 refine zU (zl (zn (zq ?_)))
 cases h
 exact zT Tryz.results54
 replace h := h.symm
 refine zw 6 false ?_
 refine zg ?_
 refine zg ?_
 refine zg ?_
 refine zU (zl (zn (zq ?_)))
 cases h
 exact zT Tryz.results54
end Go.Proofs.YtimfcgdnogjlhaaGreat
set_option linter.unusedVariables false
set_option linter.unusedSimpArgs false
namespace Go.Proofs.YtimfcgdnogjlhaaGreat
open Go Go.Ab
set_option maxHeartbeats 4000000 in
theorem ordering_list_con {D : Prop} (n1 : Int) (l2 : List Int) (r3 : Bool) (h : ordering_list n1 l2 = some r3) : Con D Tryz.prog 26 [(.int .i64 n1), (.slc (List.map (PV.int .i64) l2))] (.bool r3) := by
 refine zP Tryz.call26 Tryz.func26 rfl Tryz.ntmps26 fun X w => ?_
 simp only [ordering_list] at h
 refine zs (zr ?_)
 refine zU (zl (zn (zs (zr ?_))))
 refine zU ?_
 rcases zI h with ⟨h4, h⟩ | ⟨h4, h⟩
 refine zw 8 true ?_
 refine zg ?_
 refine zg ?_
 obtain ⟨r5, h6, h⟩ := zB h
 replace h := h.symm
 refine zc (slices_ContainsFunc_int_con l2 (fun (y7 : Int) => ordering_list_1 y7 n1) 54 [.imm [.int .i64 n1]] (fun y7 r h => ordering_list_1_con y7 n1 r h) _ h6) ?_
 refine zg ?_
 refine zU (zl (zn (zq ?_)))
 cases h
 exact zT Tryz.results26
 refine zw 8 false ?_
 refine zh ?_
 refine zU (zl (zn (zq ?_)))
 cases h
 exact zT Tryz.results26
end Go.Proofs.YtimfcgdnogjlhaaGreat
set_option linter.unusedVariables false
set_option linter.unusedSimpArgs false
namespace Go.Proofs.YtimfcgdnogjlhaaGreat
open Go Go.Ab
set_option maxHeartbeats 4000000 in
theorem ordering_Valid_con {D : Prop} (n1 : Int) (d2 : OD) (r3 : Bool) (h : ordering_Valid n1 d2 = some r3) : Con D Tryz.prog 34 [(.int .i64 n1), (encOD d2)] (.bool r3) := by
 refine zP Tryz.call34 Tryz.func34 rfl Tryz.ntmps34 fun X w => ?_
 simp only [ordering_Valid] at h
 refine zs (zr ?_)
 refine zU (zl (zn (zs (zr ?_))))
 refine zU ?_
 obtain ⟨r4, h5, h⟩ := zB h
 refine zc (ordering_list_con n1 d2.Lhs _ h5) ?_
 refine zU ?_
 rcases zI h with ⟨h6, h⟩ | ⟨h6, h⟩
 refine zw 9 true ?_
 refine zg ?_
 refine zg ?_
 refine zg ?_
 obtain ⟨r7, h8, h⟩ := zB h
 refine zc (ordering_list_con n1 d2.Rhs _ h8) ?_
 refine zU (zl (zn (zq ?_)))
 cases h
 exact zT Tryz.results34
 refine zw 9 false ?_
 refine zh ?_
 refine zU (zl (zn (zq ?_)))
 cases h
 exact zT Tryz.results34
end Go.Proofs.YtimfcgdnogjlhaaGreat
set_option linter.unusedVariables false
set_option linter.unusedSimpArgs false
namespace Go.Proofs.YtimfcgdnogjlhaaGreat
open Go Go.Ab
set_option maxHeartbeats 4000000 in
theorem ordering_Violation_1_con {D : Prop} (n1 : Int) (c2 : OD) (r3 : Bool) (h : ordering_Violation_1 n1 c2 = some r3) : Con D Tryz.prog 44 [(.int .i64 n1), .imm [.slc (List.map (PV.int .i64) c2.Lhs), .slc (List.map (PV.int .i64) c2.Rhs)]] (.bool r3) := by
 refine zP Tryz.call44 Tryz.func44 rfl Tryz.ntmps44 fun X w => ?_
 simp only [ordering_Violation_1] at h
 refine zs (zr ?_)
 refine zU (zl (zn (zs (zr ?_))))
 refine zU ?_
 obtain ⟨r4, h5, h⟩ := zB h
 refine zc (ordering_Valid_con n1 c2 _ h5) ?_
 refine zU (zl (zn (zq ?_)))
 cases h
 exact zT Tryz.results44
end Go.Proofs.YtimfcgdnogjlhaaGreat
set_option linter.unusedVariables false
set_option linter.unusedSimpArgs false
namespace Go.Proofs.YtimfcgdnogjlhaaGreat
open Go Go.Ab
set_option maxHeartbeats 4000000 in
theorem cmp_Or_int_con {D : Prop} (v1 : List Int) (r2 : Int) (h : cmp_Or_int v1 = some r2) : Con D Tryz.prog 30 [(.slc (List.map (PV.int .i64) v1))] (.int .i64 r2) := by
 refine zP Tryz.call30 Tryz.func30 rfl Tryz.ntmps30 fun X w => ?_
 simp only [cmp_Or_int] at h
 refine zs (zr ?_)
 refine zU (zl (zn (zs (zr ?_))))
 refine zU (zl (zn (zs (zs (zr ?_)))))
 refine zU (zl (zn (zb ?_)))
 obtain ⟨o3, h4, h⟩ := zB h
 refine zO (fun (s : Int) => ⟨[(3, .p (.int .i64 0)), (6, .p (.slc (List.map (PV.int .i64) v1))), (7, .p (.int .i64 (v1.length : Int))), (8, .p (.int .i64 s))], []⟩) (fun (o : (Unit) ⊕ (Int)) => match o with | .inl o5 => tE (cX Tryz.f30 X w D) (.exit 0) ⟨[(3, .p (.int .i64 0))], []⟩ | .inr o6 => tR Tryz.prog Tryz.f30 (.int .i64 o6)) h4 ?_ ?_
 clear h h4
 intro t7 x h
 simp only [cmp_Or_int_l1] at h
 refine zs (zr ?_)
 refine zU (zl (zn (zs ?_)))
 rcases zI h with ⟨h8, h⟩ | ⟨h8, h⟩
 refine zi (zk (zn (zs (zb (zs (zr ?_))))))
 obtain ⟨x9, h10, h10a, h10b, h⟩ := zX h
 refine zU (zl (zn (zs (zr ?_))))
 refine zU (zl (zn ?_))
 rcases zI h with ⟨h11, h⟩ | ⟨h11, h⟩
 refine zi (zs (zr ?_))
 refine zU (zl (zn (zq (yr (zt ?_)))))
 cases h
 exact ⟨rfl, zT Tryz.results30⟩
 refine zj (zk (yn (zn (zr ?_))))
 refine zU (zl ?_)
 cases h
 exact ⟨rfl, zE⟩
 refine zj (zx (ze ?_))
 cases h
 exact ⟨rfl, zE⟩
 rcases o3 with ⟨⟩ | r12
 try simp only at h
 refine zA (yh (zn (zs (zr ?_))))
 refine zU (zl (zn (zq ?_)))
 cases h
 exact zT Tryz.results30
 try simp only at h
 refine zZ fun s hq => ?_
 refine yr (zt ?_)
 cases h
 exact hq
end Go.Proofs.YtimfcgdnogjlhaaGreat
set_option linter.unusedVariables false
set_option linter.unusedSimpArgs false
namespace Go.Proofs.YtimfcgdnogjlhaaGreat
open Go Go.Ab
set_option maxHeartbeats 4000000 in
theorem cmp_isNaN_int64_con {D : Prop} (x1 : Int) (r2 : Bool) (h : cmp_isNaN_int64 x1 = some r2) : Con D Tryz.prog 58 [(.int .i64 x1)] (.bool r2) := by
 refine zP Tryz.call58 Tryz.func58 rfl Tryz.ntmps58 fun X w => ?_
 simp only [cmp_isNaN_int64] at h
 refine zs (zr ?_)
 refine zU (zl (zn (zs (zr ?_))))
 refine zU (zl (zn (zq ?_)))
 cases h
 exact zT Tryz.results58
end Go.Proofs.YtimfcgdnogjlhaaGreat
set_option linter.unusedVariables false
set_option linter.unusedSimpArgs false
namespace Go.Proofs.YtimfcgdnogjlhaaGreat
open Go Go.Ab
set_option maxHeartbeats 4000000 in
theorem cmp_Compare_int64_con {D : Prop} (x1 : Int) (y2 : Int) (r3 : Int) (h : cmp_Compare_int64 x1 y2 = some r3) : Con D Tryz.prog 32 [(.int .i64 x1), (.int .i64 y2)] (.int .i64 r3) := by
 refine zP Tryz.call32 Tryz.func32 rfl Tryz.ntmps32 fun X w => ?_
 simp only [cmp_Compare_int64] at h
 refine zs (zr ?_)
 refine zU (zl (zn (zs (zr ?_))))
 refine zU ?_
 obtain ⟨r4, h5, h⟩ := zB h
 refine zc (cmp_isNaN_int64_con x1 _ h5) ?_
 refine zU (zl (zn (zs (zr ?_))))
 refine zU ?_
 obtain ⟨r6, h7, h⟩ := zB h
 refine zc (cmp_isNaN_int64_con y2 _ h7) ?_
 refine zU (zl (zn (zs (zs (zr ?_)))))
 refine zU (zl (zn ?_))
 rcases zI h with ⟨h8, h⟩ | ⟨h8, h⟩
 refine zi (zs (zs (zr ?_)))
 refine zU (zl (zn ?_))
 rcases zI h with ⟨h9, h⟩ | ⟨h9, h⟩
 refine zi (zs (zr ?_))
 refine zU (zl (zn (zq (zt (zt ?_)))))
 cases h
 exact zT Tryz.results32
 refine zj (zk (zn (zs (zr ?_))))
 refine zU (zl (zn (zq (zt ?_))))
 cases h
 exact zT Tryz.results32
 refine zj (zk (zn (zs (zs (zr ?_)))))
 refine zU (zl (zn ?_))
 rcases zI h with ⟨h10, h⟩ | ⟨h10, h⟩
 refine zi (zs (zr ?_))
 refine zU (zl (zn (zq (zt ?_))))
 cases h
 exact zT Tryz.results32
 refine zj (zk (zn (zs (zs (zr ?_)))))
 refine zU (zl (zn ?_))
 rcases zI h with ⟨h11, h⟩ | ⟨h11, h⟩
 refine zi (zs (zr ?_))
 refine zU (zl (zn (zq (zt ?_))))
 cases h
 exact zT Tryz.results32
 refine zj (zk (zn (zs (zs (zr ?_)))))
 refine zU (zl (zn ?_))
 rcases zI h with ⟨h12, h⟩ | ⟨h12, h⟩
 refine zi (zs (zr ?_))
 refine zU (zl (zn (zq (zt ?_))))
 cases h
 exact zT Tryz.results32
 refine zj (zk (zn (zs (zr ?_))))
 refine zU (zl (zn (zq ?_)))
 cases h
 exact zT Tryz.results32
end Go.Proofs.YtimfcgdnogjlhaaGreat
set_option linter.unusedVariables false
set_option linter.unusedSimpArgs false
namespace Go.Proofs.YtimfcgdnogjlhaaGreat
open Go Go.Ab
set_option maxHeartbeats 4000000 in
theorem cmp_isNaN_int_con {D : Prop} (x1 : Int) (r2 : Bool) (h : cmp_isNaN_int x1 = some r2) : Con D Tryz.prog 83 [(.int .i64 x1)] (.bool r2) := by
 refine zP Tryz.call83 Tryz.func83 rfl Tryz.ntmps83 fun X w => ?_
 simp only [cmp_isNaN_int] at h
 refine zs (zr ?_)
 refine zU (zl (zn (zs (zr ?_))))
 refine zU (zl (zn (zq ?_)))
 cases h
 exact zT Tryz.results83
end Go.Proofs.YtimfcgdnogjlhaaGreat
set_option linter.unusedVariables false
set_option linter.unusedSimpArgs false
namespace Go.Proofs.YtimfcgdnogjlhaaGreat
open Go Go.Ab
set_option maxHeartbeats 4000000 in
theorem cmp_Compare_int_con {D : Prop} (x1 : Int) (y2 : Int) (r3 : Int) (h : cmp_Compare_int x1 y2 = some r3) : Con D Tryz.prog 61 [(.int .i64 x1), (.int .i64 y2)] (.int .i64 r3) := by
 refine zP Tryz.call61 Tryz.func61 rfl Tryz.ntmps61 fun X w => ?_
 simp only [cmp_Compare_int] at h
 refine zs (zr ?_)
 refine zU (zl (zn (zs (zr ?_))))
 refine zU ?_
 obtain ⟨r4, h5, h⟩ := zB h
 refine zc (cmp_isNaN_int_con x1 _ h5) ?_
 refine zU (zl (zn (zs (zr ?_))))
 refine zU ?_
 obtain ⟨r6, h7, h⟩ := zB h
 refine zc (cmp_isNaN_int_con y2 _ h7) ?_
 refine zU (zl (zn (zs (zs (zr ?_)))))
 refine zU (zl (zn ?_))
 rcases zI h with ⟨h8, h⟩ | ⟨h8, h⟩
 refine zi (zs (zs (zr ?_)))
 refine zU (zl (zn ?_))
 rcases zI h with ⟨h9, h⟩ | ⟨h9, h⟩
 refine zi (zs (zr ?_))
 refine zU (zl (zn (zq (zt (zt ?_)))))
 cases h
 exact zT Tryz.results61
 refine zj (zk (zn (zs (zr ?_))))
 refine zU (zl (zn (zq (zt ?_))))
 cases h
 exact zT Tryz.results61
 refine zj (zk (zn (zs (zs (zr ?_)))))
 refine zU (zl (zn ?_))
 rcases zI h with ⟨h10, h⟩ | ⟨h10, h⟩
 refine zi (zs (zr ?_))
 refine zU (zl (zn (zq (zt ?_))))
 cases h
 exact zT Tryz.results61
 refine zj (zk (zn (zs (zs (zr ?_)))))
 refine zU (zl (zn ?_))
 rcases zI h with ⟨h11, h⟩ | ⟨h11, h⟩
 refine zi (zs (zr ?_))
 refine zU (zl (zn (zq (zt ?_))))
 cases h
 exact zT Tryz.results61
 refine zj (zk (zn (zs (zs (zr ?_)))))
 refine zU (zl (zn ?_))
 rcases zI h with ⟨h12, h⟩ | ⟨h12, h⟩
 refine zi (zs (zr ?_))
 refine zU (zl (zn (zq (zt ?_))))
 cases h
 exact zT Tryz.results61
 refine zj (zk (zn (zs (zr ?_))))
 refine zU (zl (zn (zq ?_)))
 cases h
 exact zT Tryz.results61
end Go.Proofs.YtimfcgdnogjlhaaGreat
namespace Go.Proofs.YtimfcgdnogjlhaaGreat
open Go Go.Ab
theorem ext107 (a b : List UInt8) (w : World) : (callFunc 107 #[.string ⟨a.toArray⟩, .string ⟨b.toArray⟩]).run Tryz.prog w = .ok (.value (.int .i64 (Lib.compareBytes a b))) w := by
  rw [run_callFunc_extern Tryz.func107 (by kernel_rfl) (by kernel_rfl) (by kernel_rfl) (e := Extern.BytealgCompare.compare) (by kernel_rfl), Lib.run_compareString]
  rfl
end Go.Proofs.YtimfcgdnogjlhaaGreat
set_option linter.unusedVariables false
set_option linter.unusedSimpArgs false
namespace Go.Proofs.YtimfcgdnogjlhaaGreat
open Go Go.Ab
set_option maxHeartbeats 4000000 in
theorem bytealg_CompareString_con {D : Prop} (a1 : List UInt8) (b2 : List UInt8) (r3 : Int) (h : bytealg_CompareString a1 b2 = some r3) : Con D Tryz.prog 84 [(.str a1), (.str b2)] (.int .i64 r3) := by
 refine zP Tryz.call84 Tryz.func84 rfl Tryz.ntmps84 fun X w => ?_
 simp only [bytealg_CompareString] at h
 refine zs (zr ?_)
 refine zU (zl (zn (zs (zr ?_))))
 refine zU ?_
 refine AL_ext2 (ext107 a1 b2) (by simp only [go_sem, seval]; all_goals ((repeat' refine And.intro ?_ ?_) <;> first | rfl | (simp; done) | (simp; rfl) | (simp [*]; done) | (simp [*]; rfl))) (by simp only [go_sem, seval]; all_goals ((repeat' refine And.intro ?_ ?_) <;> first | rfl | (simp; done) | (simp; rfl) | (simp [*]; done) | (simp [*]; rfl))) rfl ?_
 refine zU (zl (zn (zq ?_)))
 cases h
 exact zT Tryz.results84
end Go.Proofs.YtimfcgdnogjlhaaGreat
set_option linter.unusedVariables false
set_option linter.unusedSimpArgs false
namespace Go.Proofs.YtimfcgdnogjlhaaGreat
open Go Go.Ab
set_option maxHeartbeats 4000000 in
theorem strings_Compare_con {D : Prop} (a1 : List UInt8) (b2 : List UInt8) (r3 : Int) (h : strings_Compare a1 b2 = some r3) : Con D Tryz.prog 62 [(.str a1), (.str b2)] (.int .i64 r3) := by
 refine zP Tryz.call62 Tryz.func62 rfl Tryz.ntmps62 fun X w => ?_
 simp only [strings_Compare] at h
 refine zs (zr ?_)
 refine zU (zl (zn (zs (zr ?_))))
 refine zU ?_
 obtain ⟨r4, h5, h⟩ := zB h
 refine zc (bytealg_CompareString_con a1 b2 _ h5) ?_
 refine zU (zl (zn (zq ?_)))
 cases h
 exact zT Tryz.results62
end Go.Proofs.YtimfcgdnogjlhaaGreat
set_option linter.unusedVariables false
set_option linter.unusedSimpArgs false
namespace Go.Proofs.YtimfcgdnogjlhaaGreat
open Go Go.Ab
set_option maxRecDepth 20000 in
set_option maxHeartbeats 4000000 in
theorem value_Compare_con {D : Prop} (a1 : Value) (b2 : Value) (r3 : Int) (h : value_Compare a1 b2 = some r3) : Con D Tryz.prog 37 [(encValue a1), (encValue b2)] (.int .i64 r3) := by
 refine zP Tryz.call37 Tryz.func37 rfl Tryz.ntmps37 fun X w => ?_
 simp only [value_Compare] at h
 refine zs (zr ?_)
 refine zU (zl (zn (zs (zd ?_))))
 refine yU ?_
 obtain ⟨r4, h5, h⟩ := zB h
 refine yc (cmp_Compare_int_con a1.Kind b2.Kind _ h5) ?_
 refine yU ?_
 obtain ⟨r6, h7, h⟩ := zB h
 refine yc (cmp_Compare_int64_con a1.Num b2.Num _ h7) ?_
 refine yU ?_
 obtain ⟨r8, h9, h⟩ := zB h
 refine yc (strings_Compare_con a1.Str b2.Str _ h9) ?_
 refine yU ?_
 obtain ⟨r10, h11, h⟩ := zB h
 refine yc (cmp_Or_int_con [r4, r6, r8] _ h11) ?_
 refine yU ?_
 refine yd (zn (zq ?_))
 cases h
 exact zT Tryz.results37
end Go.Proofs.YtimfcgdnogjlhaaGreat
set_option linter.unusedVariables false
set_option linter.unusedSimpArgs false
namespace Go.Proofs.YtimfcgdnogjlhaaGreat
open Go Go.Ab
set_option maxRecDepth 20000 in
set_option maxHeartbeats 4000000 in
theorem ordering_compare_con {D : Prop} (a1 : Row) (b2 : Row) (l3 : List Int) (r4 : Int) (h : ordering_compare a1 b2 l3 = some r4) : Con D Tryz.prog 31 [(encRow a1), (encRow b2), (.slc (List.map (PV.int .i64) l3))] (.int .i64 r4) := by
 refine zP Tryz.call31 Tryz.func31 rfl Tryz.ntmps31 fun X w => ?_
 simp only [ordering_compare] at h
 refine zs (zr ?_)
 refine zU (zl (zn (zs (zs (zr ?_)))))
 refine zU (zl (zn (zb ?_)))
 obtain ⟨o5, h6, h⟩ := zB h
 refine zO (fun (s : Int) => ⟨[(3, .loc 3 1 0 0), (4, .loc 4 1 0 0), (10, .p (.slc (List.map (PV.int .i64) l3))), (11, .p (.int .i64 (l3.length : Int))), (12, .p (.int .i64 s))], [(3, .arr 51 2 1 [.p (encRow a1)]), (4, .arr 51 2 1 [.p (encRow b2)])]⟩) (fun (o : (Unit) ⊕ (Int)) => match o with | .inl o7 => tE (cX Tryz.f31 X w D) (.exit 0) ⟨[], []⟩ | .inr o8 => tR Tryz.prog Tryz.f31 (.int .i64 o8)) h6 ?_ ?_
 clear h h6
 intro t9 x h
 simp only [ordering_compare_l1] at h
 refine zs (zr ?_)
 refine zU (zl (zn (zs ?_)))
 rcases zI h with ⟨h10, h⟩ | ⟨h10, h⟩
 refine zi (zk (zn (zs (zb (zs (zr ?_))))))
 obtain ⟨x11, h12, h12a, h12b, h⟩ := zX h
 refine zU (zl (zn (zs (zd ?_))))
 obtain ⟨x13, h14, h14a, h14b, h⟩ := zX h
 obtain ⟨x15, h16, h16a, h16b, h⟩ := zX h
 refine yU ?_
 obtain ⟨r17, h18, h⟩ := zB h
 refine yc (value_Compare_con x13 x15 _ h18) ?_
 refine yU ?_
 refine yd (zn (zs (zr ?_)))
 refine zU (zl (zn ?_))
 rcases zI h with ⟨h19, h⟩ | ⟨h19, h⟩
 refine zi (zs (zr ?_))
 refine zU (zl (zn (zq (yr (zt ?_)))))
 cases h
 exact ⟨rfl, zT Tryz.results31⟩
 refine zj (zk (yn (zn (zr ?_))))
 refine zU (zl ?_)
 cases h
 exact ⟨rfl, zE⟩
 refine zj (zx (ze ?_))
 cases h
 exact ⟨rfl, zE⟩
 rcases o5 with ⟨⟩ | r20
 try simp only at h
 refine zA (yh (zn (zs (zr ?_))))
 refine zU (zl (zn (zq ?_)))
 cases h
 exact zT Tryz.results31
 try simp only at h
 refine zZ fun s hq => ?_
 refine yr (zt ?_)
 cases h
 exact hq
end Go.Proofs.YtimfcgdnogjlhaaGreat
set_option linter.unusedVariables false
set_option linter.unusedSimpArgs false
namespace Go.Proofs.YtimfcgdnogjlhaaGreat
open Go Go.Ab
set_option maxRecDepth 20000 in
set_option maxHeartbeats 4000000 in
theorem ordering_kind_con {D : Prop} (a1 : Row) (b2 : Row) (d3 : OD) (r4 : Int) (h : ordering_kind a1 b2 d3 = some r4) : Con D Tryz.prog 45 [(encRow a1), (encRow b2), (encOD d3)] (.int .i64 r4) := by
 refine zP Tryz.call45 Tryz.func45 rfl Tryz.ntmps45 fun X w => ?_
 simp only [ordering_kind] at h
 refine zs (zr ?_)
 refine zU (zl (zn (zs (zd ?_))))
 refine yU ?_
 obtain ⟨r5, h6, h⟩ := zB h
 refine yc (ordering_compare_con a1 b2 d3.Lhs _ h6) ?_
 refine yU ?_
 obtain ⟨r7, h8, h⟩ := zB h
 refine yc (ordering_compare_con a1 b2 d3.Rhs _ h8) ?_
 refine yU ?_
 refine yd (zn (zs (zb ?_)))
 obtain ⟨t9, h10, h⟩ := zB h
 refine zJ (fun (o11 : Bool) => tE (cX Tryz.f45 X w D) .normal ⟨[(7, .p (.int .i64 r5)), (8, .p (.int .i64 r7)), (19, .p (.bool o11))], []⟩) t9 ?_ ?_
 replace h := h10
 clear h10
 refine zr ?_
 refine zU ?_
 rcases zI h with ⟨h12, h⟩ | ⟨h12, h⟩
 replace h := h.symm
 refine zw 22 true ?_
 refine zg ?_
 refine zg ?_
 refine zU (zl ?_)
 cases h
 exact ⟨rfl, zE⟩
 refine zw 22 false ?_
 refine zh ?_
 refine zU (zl ?_)
 cases h
 exact ⟨rfl, zE⟩
 try simp only at h
 refine zA (zn ?_)
 rcases zI h with ⟨h13, h⟩ | ⟨h13, h⟩
 refine zi (zs (zr ?_))
 refine zU (zl (zn (zq (yr (zt ?_)))))
 cases h
 exact zT Tryz.results45
 refine zj (zs (zr ?_))
 refine zU (zl (zn ?_))
 rcases zI h with ⟨h14, h⟩ | ⟨h14, h⟩
 refine zi (zs (zr ?_))
 refine zU (zl (zn (zq (yr (zt ?_)))))
 cases h
 exact zT Tryz.results45
 refine zj (zk (yn (zn (zs (zr ?_)))))
 refine zU (zl (zn (zq ?_)))
 cases h
 exact zT Tryz.results45
end Go.Proofs.YtimfcgdnogjlhaaGreat
set_option linter.unusedVariables false
set_option linter.unusedSimpArgs false
namespace Go.Proofs.YtimfcgdnogjlhaaGreat
open Go Go.Ab
set_option maxHeartbeats 4000000 in
theorem ordering_Violation_con {D : Prop} (t1 : Table) (d2 : OD) (r3 : Int × Int × Int × Bool) (h : ordering_Violation t1 d2 = some r3) : Con D Tryz.prog 20 [(encTable t1), (encOD d2)] (.tup [(.int .i64 r3.1), (.int .i64 r3.2.1), (.int .i64 r3.2.2.1), (.bool r3.2.2.2)]) := by
 refine zP Tryz.call20 Tryz.func20 rfl Tryz.ntmps20 fun X w => ?_
 simp only [ordering_Violation] at h
 refine zs (zr ?_)
 refine zU (zl (zn (zs (zs (zr ?_)))))
 refine zU ?_
 obtain ⟨r4, h5, h⟩ := zB h
 refine zc (ordering_check_con t1 (fun (y6 : Int) => ordering_Violation_1 y6 d2) 44 [.imm [.slc (List.map (PV.int .i64) d2.Lhs), .slc (List.map (PV.int .i64) d2.Rhs)]] (fun y6 r h => ordering_Violation_1_con y6 d2 r h) _ h5) ?_
 refine zU (zl (zn ?_))
 rcases zI h with ⟨h7, h⟩ | ⟨h7, h⟩
 refine zi (zs (zr ?_))
 refine zU (zl (zn (zq (zt ?_))))
 cases h
 exact zT Tryz.results20
 refine zj (zk (zn (zs (zs (zr ?_)))))
 refine zU (zl (zn (zb ?_)))
 obtain ⟨o8, h9, h⟩ := zB h
 refine zO (fun (s : Int) => ⟨[(2, .loc 2 1 0 0), (3, .loc 3 1 0 0), (18, .p (.slc (List.map encRow t1.Rows))), (19, .p (.int .i64 (t1.Rows.length : Int))), (20, .p (.int .i64 s))], [(2, .arr 31 3 1 [.p (encTable t1)]), (3, .arr 37 2 1 [.p (encOD d2)])]⟩) (fun (o : (Unit) ⊕ (Int × Int × Int × Bool)) => match o with | .inl o10 => tE (cX Tryz.f20 X w D) (.exit 0) ⟨[], []⟩ | .inr o11 => tR Tryz.prog Tryz.f20 (.tup [(.int .i64 o11.1), (.int .i64 o11.2.1), (.int .i64 o11.2.2.1), (.bool o11.2.2.2)])) h9 ?_ ?_
 clear h h5 h7 h9
 intro t12 x h
 simp only [ordering_Violation_l4] at h
 refine zs (zr ?_)
 refine zU (zl (zn (zs ?_)))
 rcases zI h with ⟨h13, h⟩ | ⟨h13, h⟩
 refine zi (zk (zn (zs (zb (zs (zr ?_))))))
 obtain ⟨x14, h15, h15a, h15b, h⟩ := zX h
 refine zU (zl (zn (zs (zr ?_))))
 obtain ⟨h16, h⟩ := ite_some h
 obtain ⟨h17, h⟩ := ite_some h
 refine zU (zl (zn (zb ?_)))
 obtain ⟨o18, h19, h⟩ := zB h
 refine zO (fun (s : Int) => ⟨[(2, .loc 2 1 0 0), (3, .loc 3 1 0 0), (9, .loc 9 1 0 0), (18, .p (.slc (List.map encRow t1.Rows))), (19, .p (.int .i64 (t1.Rows.length : Int))), (20, .p (.int .i64 t12)), (29, .p (.slc (List.map encRow ((t1.Rows.drop (IntKind.i64.wrap (t12 + 1)).toNat).take (t1.Rows.length - (IntKind.i64.wrap (t12 + 1)).toNat))))), (30, .p (.int .i64 (((t1.Rows.drop (IntKind.i64.wrap (t12 + 1)).toNat).take (t1.Rows.length - (IntKind.i64.wrap (t12 + 1)).toNat)).length : Int))), (31, .p (.int .i64 s))], [(2, .arr 31 3 1 [.p (encTable t1)]), (3, .arr 37 2 1 [.p (encOD d2)]), (9, .arr 51 2 1 [.p (encRow x14)])]⟩) (fun (o : (Unit) ⊕ (Int × Int × Int × Bool)) => match o with | .inl o20 => tE (cX Tryz.f20 X w D) (.exit 2) ⟨[(2, .loc 2 1 0 0), (3, .loc 3 1 0 0), (18, .p (.slc (List.map encRow t1.Rows))), (19, .p (.int .i64 (t1.Rows.length : Int))), (20, .p (.int .i64 t12))], [(2, .arr 31 3 1 [.p (encTable t1)]), (3, .arr 37 2 1 [.p (encOD d2)])]⟩ | .inr o21 => tR Tryz.prog Tryz.f20 (.tup [(.int .i64 o21.1), (.int .i64 o21.2.1), (.int .i64 o21.2.2.1), (.bool o21.2.2.2)])) h19 ?_ ?_
 clear h h13 h15 h15a h15b h16 h17 h19
 intro t22 x h
 simp only [ordering_Violation_l3] at h
 refine zs (zr ?_)
 refine zU (zl (zn (zs ?_)))
 rcases zI h with ⟨h23, h⟩ | ⟨h23, h⟩
 refine zi (zk (zn (zs (zb (zs (zr ?_))))))
 obtain ⟨x24, h25, h25a, h25b, h⟩ := zX h
 refine zU (zl (zn (zs (zr ?_))))
 refine zU ?_
 obtain ⟨r26, h27, h⟩ := zB h
 refine zc (ordering_kind_con x14 x24 d2 _ h27) ?_
 refine zU (zl (zn (zs (zr ?_))))
 refine zU (zl (zn ?_))
 rcases zI h with ⟨h28, h⟩ | ⟨h28, h⟩
 refine zi (zs (zd ?_))
 refine yU ?_
 refine yd (zn (zq (yr (zt ?_))))
 cases h
 exact ⟨rfl, zT Tryz.results20⟩
 refine zj (zk (yn (zn (zr ?_))))
 refine zU (zl ?_)
 cases h
 exact ⟨rfl, zE⟩
 refine zj (zx (ze ?_))
 cases h
 exact ⟨rfl, zE⟩
 rcases o18 with ⟨⟩ | r29
 try simp only at h
 refine zA (yh (yn (zn (zr ?_))))
 refine zU (zl ?_)
 cases h
 exact ⟨rfl, zE⟩
 try simp only at h
 refine zZ fun s hq => ?_
 refine yr (yr (zt ?_))
 cases h
 refine ⟨rfl, ?_⟩
 exact hq
 refine zj (zx (ze ?_))
 cases h
 exact ⟨rfl, zE⟩
 rcases o8 with ⟨⟩ | r30
 try simp only at h
 refine zA (yh (zn (zs (zr ?_))))
 refine zU (zl (zn (zq ?_)))
 cases h
 exact zT Tryz.results20
 try simp only at h
 refine zZ fun s hq => ?_
 refine yr (zt ?_)
 cases h
 exact hq
end Go.Proofs.YtimfcgdnogjlhaaGreat
set_option linter.unusedVariables false
set_option linter.unusedSimpArgs false
namespace Go.Proofs.YtimfcgdnogjlhaaGreat
open Go Go.Ab
set_option maxHeartbeats 4000000 in
theorem ordering_Holds_1_con {D : Prop} (n1 : Int) (c2 : OD) (r3 : Bool) (h : ordering_Holds_1 n1 c2 = some r3) : Con D Tryz.prog 33 [(.int .i64 n1), .imm [.slc (List.map (PV.int .i64) c2.Lhs), .slc (List.map (PV.int .i64) c2.Rhs)]] (.bool r3) := by
 refine zP Tryz.call33 Tryz.func33 rfl Tryz.ntmps33 fun X w => ?_
 simp only [ordering_Holds_1] at h
 refine zs (zr ?_)
 refine zU (zl (zn (zs (zr ?_))))
 refine zU ?_
 obtain ⟨r4, h5, h⟩ := zB h
 refine zc (ordering_Valid_con n1 c2 _ h5) ?_
 refine zU (zl (zn (zq ?_)))
 cases h
 exact zT Tryz.results33
end Go.Proofs.YtimfcgdnogjlhaaGreat
set_option linter.unusedVariables false
set_option linter.unusedSimpArgs false
namespace Go.Proofs.YtimfcgdnogjlhaaGreat
open Go Go.Ab
set_option maxHeartbeats 4000000 in
theorem ordering_Holds_con {D : Prop} (t1 : Table) (d2 : OD) (r3 : Bool × Int) (h : ordering_Holds t1 d2 = some r3) : Con D Tryz.prog 11 [(encTable t1), (encOD d2)] (.tup [(.bool r3.1), (.int .i64 r3.2)]) := by
 refine zP Tryz.call11 Tryz.func11 rfl Tryz.ntmps11 fun X w => ?_
 simp only [ordering_Holds] at h
 refine zs (zr ?_)
 refine zU (zl (zn (zs (zs (zr ?_)))))
 refine zU ?_
 obtain ⟨r4, h5, h⟩ := zB h
 refine zc (ordering_check_con t1 (fun (y6 : Int) => ordering_Holds_1 y6 d2) 33 [.imm [.slc (List.map (PV.int .i64) d2.Lhs), .slc (List.map (PV.int .i64) d2.Rhs)]] (fun y6 r h => ordering_Holds_1_con y6 d2 r h) _ h5) ?_
 refine zU (zl (zn (zs (zr ?_))))
 refine zU (zl (zn ?_))
 rcases zI h with ⟨h7, h⟩ | ⟨h7, h⟩
 refine zi (zs (zr ?_))
 refine zU (zl (zn (zq (zt ?_))))
 cases h
 exact zT Tryz.results11
 refine zj (zk (zn (zs (zr ?_))))
 refine zU ?_
 obtain ⟨r8, h9, h⟩ := zB h
 refine zc (ordering_Violation_con t1 d2 _ h9) ?_
 refine zU (zl (zn (zs (zr ?_))))
 refine zU (zl (zn (zq ?_)))
 cases h
 exact zT Tryz.results11
end Go.Proofs.YtimfcgdnogjlhaaGreat
set_option linter.unusedVariables false
set_option linter.unusedSimpArgs false
namespace Go.Proofs.YtimfcgdnogjlhaaGreat
open Go Go.Ab
set_option maxHeartbeats 4000000 in
theorem drossref01_List_con {D : Prop} (c1 : List Int) (r2 : List Value) (h : drossref01_List c1 = some r2) : Con D Tryz.prog 43 [(.slc (List.map (PV.int .u8) c1))] (.slc (List.map encValue r2)) := by
 refine zP Tryz.call43 Tryz.func43 rfl Tryz.ntmps43 fun X w => ?_
 simp only [drossref01_List] at h
 refine zs (zr ?_)
 refine zU (zl (zn (zs (zr ?_))))
 refine zU (zl (zn (zs (zs (zr ?_)))))
 refine zU (zl (zn (zb ?_)))
 obtain ⟨o3, h4, h⟩ := zB h
 refine zO (fun (s : List Value × Int) => ⟨[(0, .p (.slc (List.map (PV.int .u8) c1))), (3, .own 18 1 0 s.1.length), (4, .p (.int .i64 s.2))], [(18, .arr 83 3 1 (List.map AV.p (List.map encValue s.1)))]⟩) (fun (o5 : List Value) => tE (cX Tryz.f43 X w D) (.exit 0) ⟨[(3, .own 18 1 0 o5.length)], [(18, .arr 83 3 1 (List.map AV.p (List.map encValue o5)))]⟩) h4 ?_ ?_
 clear h h4
 intro s x h
 obtain ⟨o6, i7⟩ := s
 simp only [drossref01_List_l1] at h
 dsimp only
 refine zs (zs (zr ?_))
 refine zU (zl (zn ?_))
 rcases zI h with ⟨h8, h⟩ | ⟨h8, h⟩
 refine zi (zk (zn (zs (zb (zr ?_)))))
 obtain ⟨x9, h10, h10a, h10b, h⟩ := zX h
 refine zU ?_
 obtain ⟨r11, h12, h⟩ := zB h
 refine zc (drossref01_Of_con x9 _ h12) ?_
 obtain ⟨h13, h⟩ := ite_some h
 refine zU (zl (yn (zn (zr ?_))))
 refine zU (zl ?_)
 cases h
 exact ⟨rfl, zE⟩
 refine zj (zx (ze ?_))
 cases h
 exact ⟨rfl, zE⟩
 try simp only at h
 refine zA (yh (zn (zs (zr ?_))))
 refine zU (zl (zn (zq ?_)))
 cases h
 exact zT Tryz.results43
end Go.Proofs.YtimfcgdnogjlhaaGreat
set_option linter.unusedVariables false
set_option linter.unusedSimpArgs false
namespace Go.Proofs.YtimfcgdnogjlhaaGreat
open Go Go.Ab
set_option maxRecDepth 20000 in
set_option maxHeartbeats 4000000 in
theorem drosslaw17_example_con {D : Prop} (r1 : Table) (h : drosslaw17_example = some r1) : Con D Tryz.prog 19 [] (encTable r1) := by
 refine zP Tryz.call19 Tryz.func19 rfl Tryz.ntmps19 fun X w => ?_
 simp only [drosslaw17_example] at h
 refine zs (zr ?_)
 refine zU (zl (zn (zs (zr ?_))))
 refine zU (zl (zn (zs (zs (zr ?_)))))
 refine zU (zl (zn (zb ?_)))
 refine zL ⟨[(0, .loc 0 1 0 0), (1, .loc 1 1 0 0), (9, .own 9 1 0 3), (10, .p (.int .i64 3)), (11, .p (.int .i64 0))], [(0, .arr 31 3 1 [.agg [.p (.str []), .nils, .nils]]), (1, .arr 31 3 1 [.agg [.p (.str [116]), .own 4 1 0 2, .nils]]), (4, .arr 9 1 1 [.p (.str [97]), .p (.str [98])]), (9, .arr 25 1 1 [.p (.slc (List.map (PV.int .u8) [1, 1])), .p (.slc (List.map (PV.int .u8) [2, 11])), .p (.slc (List.map (PV.int .u8) [11, 2]))])]⟩ ?_
 obtain ⟨l2, h3, h⟩ := zB h
 replace h3 := Option.some.inj h3
 refine awp_le (st' := ⟨[(0, .loc 0 1 0 0), (1, .loc 1 1 0 0), (9, .own 9 1 0 l2.length), (10, .p (.int .i64 3)), (11, .p (.int .i64 0))], [(0, .arr 31 3 1 [.agg [.p (.str []), .nils, .nils]]), (1, .arr 31 3 1 [.agg [.p (.str [116]), .own 4 1 0 2, .nils]]), (4, .arr 9 1 1 [.p (.str [97]), .p (.str [98])]), (9, .arr 25 1 1 (List.map AV.p (List.map (encL (PV.int .u8)) l2)))]⟩) (by simp only [go_sem, seval, ← h3]; all_goals ((repeat' refine And.intro ?_ ?_) <;> first | rfl | (simp; done) | (simp; rfl) | (simp [*]; done) | (simp [*]; rfl))) ?_
 have h3n : l2.length = 3 := by rw [← h3]; rfl
 clear h3
 obtain ⟨t4, h5, h⟩ := zB h
 refine zO (fun (s : List Row × Int) => ⟨[(0, .loc 0 1 0 0), (1, .loc 1 1 0 0), (9, .own 9 1 0 l2.length), (10, .p (.int .i64 3)), (11, .p (.int .i64 s.2))], [(0, .arr 31 3 1 [.agg [.p (.str []), .nils, .nils]]), (1, .arr 31 3 1 [.agg [.p (.str [116]), .own 4 1 0 ([[97], [98]]).length, .own 24 1 0 s.1.length]]), (4, .arr 9 1 1 (List.map AV.p (List.map PV.str [[97], [98]]))), (9, .arr 25 1 1 (List.map AV.p (List.map (encL (PV.int .u8)) l2))), (24, .arr 51 2 1 (List.map AV.p (List.map encRow s.1)))]⟩) (fun (o6 : List Row) => tE (cX Tryz.f19 X w D) (.exit 0) ⟨[(0, .loc 0 1 0 0), (1, .loc 1 1 0 0)], [(0, .arr 31 3 1 [.agg [.p (.str []), .nils, .nils]]), (1, .arr 31 3 1 [.agg [.p (.str [116]), .own 4 1 0 ([[97], [98]]).length, .own 24 1 0 o6.length]]), (4, .arr 9 1 1 (List.map AV.p (List.map PV.str [[97], [98]]))), (24, .arr 51 2 1 (List.map AV.p (List.map encRow o6)))]⟩) h5 ?_ ?_
 clear h h3n h5
 intro s x h
 obtain ⟨t7, t8⟩ := s
 simp only [drosslaw17_example_l1] at h
 dsimp only
 refine zs (zr ?_)
 refine zU (zl (zn (zs ?_)))
 rcases zI h with ⟨h9, h⟩ | ⟨h9, h⟩
 refine zi (zk (zn (zs (zb (zs (zr ?_))))))
 obtain ⟨x10, h11, h11a, h11b, h⟩ := zX h
 refine zU (zl (zn (zd ?_)))
 refine yU ?_
 obtain ⟨r12, h13, h⟩ := zB h
 refine yc (drossref01_List_con x10 _ h13) ?_
 obtain ⟨h14, h⟩ := ite_some h
 refine yU ?_
 refine yd (yn (zn (zr ?_)))
 refine zU (zl ?_)
 cases h
 exact ⟨rfl, zE⟩
 refine zj (zx (ze ?_))
 cases h
 exact ⟨rfl, zE⟩
 try simp only at h
 refine zA (yh (zn (zs (zr ?_))))
 refine zU (zl (zn (zq ?_)))
 cases h
 exact zT Tryz.results19
end Go.Proofs.YtimfcgdnogjlhaaGreat
set_option linter.unusedVariables false
set_option linter.unusedSimpArgs false
namespace Go.Proofs.YtimfcgdnogjlhaaGreat
open Go Go.Ab
set_option maxHeartbeats 4000000 in
theorem slices_Index_int_con {D : Prop} (s1 : List Int) (v2 : Int) (r3 : Int) (h : slices_Index_int s1 v2 = some r3) : Con D Tryz.prog 90 [(.slc (List.map (PV.int .i64) s1)), (.int .i64 v2)] (.int .i64 r3) := by
 refine zP Tryz.call90 Tryz.func90 rfl Tryz.ntmps90 fun X w => ?_
 simp only [slices_Index_int] at h
 refine zs (zr ?_)
 refine zU (zl (zn (zs (zs (zr ?_)))))
 refine zU (zl (zn (zb ?_)))
 obtain ⟨o4, h5, h⟩ := zB h
 refine zO (fun (s : Int) => ⟨[(0, .p (.slc (List.map (PV.int .i64) s1))), (1, .p (.int .i64 v2)), (7, .p (.int .i64 (s1.length : Int))), (8, .p (.int .i64 s))], []⟩) (fun (o : (Unit) ⊕ (Int)) => match o with | .inl o6 => tE (cX Tryz.f90 X w D) (.exit 0) ⟨[], []⟩ | .inr o7 => tR Tryz.prog Tryz.f90 (.int .i64 o7)) h5 ?_ ?_
 clear h h5
 intro t8 x h
 simp only [slices_Index_int_l1] at h
 refine zs (zr ?_)
 refine zU (zl (zn (zs ?_)))
 rcases zI h with ⟨h9, h⟩ | ⟨h9, h⟩
 refine zi (zk (zn (zs (zb (zs (zr ?_))))))
 refine zU (zl (zn (zs (zr ?_))))
 obtain ⟨x10, h11, h11a, h11b, h⟩ := zX h
 refine zU (zl (zn ?_))
 rcases zI h with ⟨h12, h⟩ | ⟨h12, h⟩
 refine zi (zs (zr ?_))
 refine zU (zl (zn (zq (yr (zt ?_)))))
 cases h
 exact ⟨rfl, zT Tryz.results90⟩
 refine zj (zk (yn (zn (zr ?_))))
 refine zU (zl ?_)
 cases h
 exact ⟨rfl, zE⟩
 refine zj (zx (ze ?_))
 cases h
 exact ⟨rfl, zE⟩
 rcases o4 with ⟨⟩ | r13
 try simp only at h
 refine zA (yh (zn (zs (zr ?_))))
 refine zU (zl (zn (zq ?_)))
 cases h
 exact zT Tryz.results90
 try simp only at h
 refine zZ fun s hq => ?_
 refine yr (zt ?_)
 cases h
 exact hq
end Go.Proofs.YtimfcgdnogjlhaaGreat
set_option linter.unusedVariables false
set_option linter.unusedSimpArgs false
namespace Go.Proofs.YtimfcgdnogjlhaaGreat
open Go Go.Ab
set_option maxHeartbeats 4000000 in
theorem slices_Contains_int_con {D : Prop} (s1 : List Int) (v2 : Int) (r3 : Bool) (h : slices_Contains_int s1 v2 = some r3) : Con D Tryz.prog 71 [(.slc (List.map (PV.int .i64) s1)), (.int .i64 v2)] (.bool r3) := by
 refine zP Tryz.call71 Tryz.func71 rfl Tryz.ntmps71 fun X w => ?_
 simp only [slices_Contains_int] at h
 refine zs (zr ?_)
 refine zU (zl (zn (zs (zr ?_))))
 refine zU ?_
 obtain ⟨r4, h5, h⟩ := zB h
 refine zc (slices_Index_int_con s1 v2 _ h5) ?_
 refine zU (zl (zn (zq ?_)))
 cases h
 exact zT Tryz.results71
end Go.Proofs.YtimfcgdnogjlhaaGreat
set_option linter.unusedVariables false
set_option linter.unusedSimpArgs false
namespace Go.Proofs.YtimfcgdnogjlhaaGreat
open Go Go.Ab
set_option maxHeartbeats 4000000 in
theorem ordering_once_con {D : Prop} (l1 : List Int) (r2 : List Int) (h : ordering_once l1 = some r2) : Con D Tryz.prog 46 [(.slc (List.map (PV.int .i64) l1))] (.slc (List.map (PV.int .i64) r2)) := by
 refine zP Tryz.call46 Tryz.func46 rfl Tryz.ntmps46 fun X w => ?_
 simp only [ordering_once] at h
 refine zs (zr ?_)
 refine zU (zl (zn (zs (zr ?_))))
 refine zU (zl (zn (zs (zs (zr ?_)))))
 refine zU (zl (zn (zb ?_)))
 obtain ⟨o3, h4, h⟩ := zB h
 refine zO (fun (s : List Int × Int) => ⟨[(3, .own 19 1 0 s.1.length), (6, .p (.slc (List.map (PV.int .i64) l1))), (7, .p (.int .i64 (l1.length : Int))), (8, .p (.int .i64 s.2))], [(19, .arr 3 1 1 (List.map AV.p (List.map (PV.int .i64) s.1)))]⟩) (fun (o5 : List Int) => tE (cX Tryz.f46 X w D) (.exit 0) ⟨[(3, .own 19 1 0 o5.length)], [(19, .arr 3 1 1 (List.map AV.p (List.map (PV.int .i64) o5)))]⟩) h4 ?_ ?_
 clear h h4
 intro s x h
 obtain ⟨o6, t7⟩ := s
 simp only [ordering_once_l1] at h
 dsimp only
 refine zs (zr ?_)
 refine zU (zl (zn (zs ?_)))
 rcases zI h with ⟨h8, h⟩ | ⟨h8, h⟩
 refine zi (zk (zn (zs (zb (zs (zr ?_))))))
 obtain ⟨x9, h10, h10a, h10b, h⟩ := zX h
 refine zU (zl (zn (zs (zr ?_))))
 refine zU ?_
 obtain ⟨r11, h12, h⟩ := zB h
 refine zc (slices_Contains_int_con o6 x9 _ h12) ?_
 refine zU (zl (zn ?_))
 rcases zI h with ⟨h13, h⟩ | ⟨h13, h⟩
 refine zj (zk (yn (zn (zr ?_))))
 refine zU (zl ?_)
 cases h
 exact ⟨rfl, zE⟩
 refine zi (zr ?_)
 obtain ⟨h14, h⟩ := ite_some h
 refine zU (zl (yn (zn (zr ?_))))
 refine zU (zl ?_)
 cases h
 exact ⟨rfl, zE⟩
 refine zj (zx (ze ?_))
 cases h
 exact ⟨rfl, zE⟩
 try simp only at h
 refine zA (yh (zn (zs (zr ?_))))
 refine zU (zl (zn (zq ?_)))
 cases h
 exact zT Tryz.results46
end Go.Proofs.YtimfcgdnogjlhaaGreat
set_option linter.unusedVariables false
set_option linter.unusedSimpArgs false
namespace Go.Proofs.YtimfcgdnogjlhaaGreat
open Go Go.Ab
set_option maxHeartbeats 4000000 in
theorem slices_Index_Canonical_con {D : Prop} (s1 : List Canonical) (v2 : Canonical) (r3 : Int) (h : slices_Index_Canonical s1 v2 = some r3) : Con D Tryz.prog 72 [(.slc (List.map encCanonical s1)), (encCanonical v2)] (.int .i64 r3) := by
 refine zP Tryz.call72 Tryz.func72 rfl Tryz.ntmps72 fun X w => ?_
 simp only [slices_Index_Canonical] at h
 refine zs (zr ?_)
 refine zU (zl (zn (zs (zs (zr ?_)))))
 refine zU (zl (zn (zb ?_)))
 obtain ⟨o4, h5, h⟩ := zB h
 refine zO (fun (s : Int) => ⟨[(0, .p (.slc (List.map encCanonical s1))), (3, .loc 3 1 0 0), (7, .p (.int .i64 (s1.length : Int))), (8, .p (.int .i64 s))], [(3, .arr 56 3 1 [.p (encCanonical v2)])]⟩) (fun (o : (Unit) ⊕ (Int)) => match o with | .inl o6 => tE (cX Tryz.f72 X w D) (.exit 0) ⟨[], []⟩ | .inr o7 => tR Tryz.prog Tryz.f72 (.int .i64 o7)) h5 ?_ ?_
 clear h h5
 intro t8 x h
 simp only [slices_Index_Canonical_l1] at h
 refine zs (zr ?_)
 refine zU (zl (zn (zs ?_)))
 rcases zI h with ⟨h9, h⟩ | ⟨h9, h⟩
 refine zi (zk (zn (zs (zb (zs (zr ?_))))))
 refine zU (zl (zn (zs (zd ?_))))
 obtain ⟨x10, h11, h11a, h11b, h⟩ := zX h
 refine yU ?_
 refine yd (zn ?_)
 rcases zI h with ⟨h12, h⟩ | ⟨h12, h⟩
 refine zi (zs (zr ?_))
 refine zU (zl (zn (zq (yr (zt ?_)))))
 cases h
 exact ⟨rfl, zT Tryz.results72⟩
 refine zj (zk (yn (zn (zr ?_))))
 refine zU (zl ?_)
 cases h
 exact ⟨rfl, zE⟩
 refine zj (zx (ze ?_))
 cases h
 exact ⟨rfl, zE⟩
 rcases o4 with ⟨⟩ | r13
 try simp only at h
 refine zA (yh (zn (zs (zr ?_))))
 refine zU (zl (zn (zq ?_)))
 cases h
 exact zT Tryz.results72
 try simp only at h
 refine zZ fun s hq => ?_
 refine yr (zt ?_)
 cases h
 exact hq
end Go.Proofs.YtimfcgdnogjlhaaGreat
set_option linter.unusedVariables false
set_option linter.unusedSimpArgs false
namespace Go.Proofs.YtimfcgdnogjlhaaGreat
open Go Go.Ab
set_option maxHeartbeats 4000000 in
theorem slices_Contains_Canonical_con {D : Prop} (s1 : List Canonical) (v2 : Canonical) (r3 : Bool) (h : slices_Contains_Canonical s1 v2 = some r3) : Con D Tryz.prog 48 [(.slc (List.map encCanonical s1)), (encCanonical v2)] (.bool r3) := by
 refine zP Tryz.call48 Tryz.func48 rfl Tryz.ntmps48 fun X w => ?_
 simp only [slices_Contains_Canonical] at h
 refine zs (zr ?_)
 refine zU (zl (zn (zs (zr ?_))))
 refine zU ?_
 obtain ⟨r4, h5, h⟩ := zB h
 refine zc (slices_Index_Canonical_con s1 v2 _ h5) ?_
 refine zU (zl (zn (zq ?_)))
 cases h
 exact zT Tryz.results48
end Go.Proofs.YtimfcgdnogjlhaaGreat
namespace Go.Proofs
open Go Go.Ab Go.Shelf
def YtimfcgdnogjlhaaGreat.sort56_ren : Go.Shelf.Ren := ⟨fun | 6 => 56 | 15 => 82 | 14 => 81 | 28 => 105 | 29 => 106 | 20 => 97 | 21 => 98 | 22 => 99 | 23 => 100 | 24 => 101 | 25 => 102 | 26 => 103 | 27 => 104 | 46 => 118 | 47 => 119 | 48 => 120 | 49 => 121 | 50 => 122 | 57 => 126 | n => n, fun | 22 => 29 | 24 => 51 | 25 => 79 | 3 => 3 | 39 => 120 | 0 => 0 | 53 => 53 | 55 => 139 | 4 => 4 | 46 => 132 | 45 => 131 | 50 => 46 | 5 => 5 | 9 => 9 | 66 => 147 | 70 => 151 | 76 => 155 | 77 => 156 | n => n, fun | n => n⟩
theorem YtimfcgdnogjlhaaGreat.sort56 : Go.Proofs.SlLaysF0.n6 Tryz.prog YtimfcgdnogjlhaaGreat.sort56_ren := {
  mixed := by kernel_rfl
  f6 := ⟨Tryz.f56.name, by decide, Tryz.func56.trans (congrArg some (by kernel_rfl))⟩
  f14 := ⟨Tryz.f81.name, by decide, Tryz.func81.trans (congrArg some (by kernel_rfl))⟩
  f15 := Tryz.func82.trans (congrArg some (by kernel_rfl))
  f20 := ⟨Tryz.f97.name, by decide, Tryz.func97.trans (congrArg some (by kernel_rfl))⟩
  f21 := ⟨Tryz.f98.name, by decide, Tryz.func98.trans (congrArg some (by kernel_rfl))⟩
  f22 := ⟨Tryz.f99.name, by decide, Tryz.func99.trans (congrArg some (by kernel_rfl))⟩
  f23 := ⟨Tryz.f100.name, by decide, Tryz.func100.trans (congrArg some (by kernel_rfl))⟩
  f24 := ⟨Tryz.f101.name, by decide, Tryz.func101.trans (congrArg some (by kernel_rfl))⟩
  f25 := ⟨Tryz.f102.name, by decide, Tryz.func102.trans (congrArg some (by kernel_rfl))⟩
  f26 := ⟨Tryz.f103.name, by decide, Tryz.func103.trans (congrArg some (by kernel_rfl))⟩
  f27 := ⟨Tryz.f104.name, by decide, Tryz.func104.trans (congrArg some (by kernel_rfl))⟩
  f28 := Tryz.func105.trans (congrArg some (by kernel_rfl))
  f29 := Tryz.func106.trans (congrArg some (by kernel_rfl))
  f46 := ⟨Tryz.f118.name, by decide, Tryz.func118.trans (congrArg some (by kernel_rfl))⟩
  f47 := Tryz.func119.trans (congrArg some (by kernel_rfl))
  f48 := Tryz.func120.trans (congrArg some (by kernel_rfl))
  f49 := ⟨Tryz.f121.name, by decide, Tryz.func121.trans (congrArg some (by kernel_rfl))⟩
  f50 := ⟨Tryz.f122.name, by decide, Tryz.func122.trans (congrArg some (by kernel_rfl))⟩
  f57 := ⟨Tryz.f126.name, by decide, Tryz.func126.trans (congrArg some (by kernel_rfl))⟩
  t0 := Tryz.underlying0
  a0 := Tryz.isAgg0
  z0 := Tryz.sizeOf0
  v0 := Tryz.zeroValue0
  t3 := Tryz.underlying3
  a3 := Tryz.isAgg3
  z3 := Tryz.sizeOf3
  v3 := Tryz.zeroValue3
  t4 := Tryz.underlying4
  a4 := Tryz.isAgg4
  z4 := Tryz.sizeOf4
  v4 := Tryz.zeroValue4
  t5 := Tryz.underlying5
  a5 := Tryz.isAgg5
  z5 := Tryz.sizeOf5
  v5 := Tryz.zeroValue5
  t9 := Tryz.underlying9
  a9 := Tryz.isAgg9
  z9 := Tryz.sizeOf9
  v9 := Tryz.zeroValue9
  t22 := Tryz.underlying29
  a22 := Tryz.isAgg29
  z22 := Tryz.sizeOf29
  v22 := Tryz.zeroValue29
  t25 := Tryz.underlying79
  a25 := Tryz.isAgg79
  z25 := Tryz.sizeOf79
  v25 := Tryz.zeroValue79
  t39 := Tryz.underlying120
  a39 := Tryz.isAgg120
  z39 := Tryz.sizeOf120
  v39 := Tryz.zeroValue120
  t45 := Tryz.underlying131
  a45 := Tryz.isAgg131
  z45 := Tryz.sizeOf131
  v45 := Tryz.zeroValue131
  t46 := Tryz.underlying132
  a46 := Tryz.isAgg132
  z46 := Tryz.sizeOf132
  v46 := Tryz.zeroValue132
  t50 := Tryz.underlying46
  a50 := Tryz.isAgg46
  z50 := Tryz.sizeOf46
  v50 := Tryz.zeroValue46
  t53 := Tryz.underlying53
  a53 := Tryz.isAgg53
  z53 := Tryz.sizeOf53
  v53 := Tryz.zeroValue53
  t55 := Tryz.underlying139
  a55 := Tryz.isAgg139
  z55 := Tryz.sizeOf139
  v55 := Tryz.zeroValue139
  t66 := Tryz.underlying147
  a66 := Tryz.isAgg147
  z66 := Tryz.sizeOf147
  v66 := Tryz.zeroValue147
  t70 := Tryz.underlying151
  a70 := Tryz.isAgg151
  z70 := Tryz.sizeOf151
  v70 := Tryz.zeroValue151
  t76 := Tryz.underlying155
  a76 := Tryz.isAgg155
  z76 := Tryz.sizeOf155
  v76 := Tryz.zeroValue155
  t77 := Tryz.underlying156
  a77 := Tryz.isAgg156
  z77 := Tryz.sizeOf156
  v77 := Tryz.zeroValue156 }
def YtimfcgdnogjlhaaGreat.sort74_ren : Go.Shelf.Ren := ⟨fun | 5 => 74 | 8 => 82 | 7 => 92 | 19 => 105 | 20 => 106 | 10 => 108 | 11 => 109 | 12 => 110 | 13 => 111 | 14 => 112 | 15 => 113 | 16 => 114 | 17 => 115 | 18 => 116 | 30 => 123 | 31 => 119 | 32 => 120 | 33 => 124 | 34 => 125 | 35 => 83 | 40 => 127 | n => n, fun | 23 => 35 | 25 => 3 | 3 => 3 | 32 => 120 | 22 => 35 | 0 => 0 | 44 => 53 | 46 => 139 | 4 => 4 | 36 => 132 | 35 => 131 | 41 => 46 | 5 => 5 | 9 => 9 | 53 => 147 | 57 => 151 | 63 => 155 | 64 => 156 | n => n, fun | n => n⟩
theorem YtimfcgdnogjlhaaGreat.sort74 : Go.Proofs.SlLaysM.n5 Tryz.prog YtimfcgdnogjlhaaGreat.sort74_ren := {
  mixed := by kernel_rfl
  f5 := ⟨Tryz.f74.name, by decide, Tryz.func74.trans (congrArg some (by kernel_rfl))⟩
  f7 := ⟨Tryz.f92.name, by decide, Tryz.func92.trans (congrArg some (by kernel_rfl))⟩
  f8 := Tryz.func82.trans (congrArg some (by kernel_rfl))
  f10 := ⟨Tryz.f108.name, by decide, Tryz.func108.trans (congrArg some (by kernel_rfl))⟩
  f11 := ⟨Tryz.f109.name, by decide, Tryz.func109.trans (congrArg some (by kernel_rfl))⟩
  f12 := ⟨Tryz.f110.name, by decide, Tryz.func110.trans (congrArg some (by kernel_rfl))⟩
  f13 := ⟨Tryz.f111.name, by decide, Tryz.func111.trans (congrArg some (by kernel_rfl))⟩
  f14 := ⟨Tryz.f112.name, by decide, Tryz.func112.trans (congrArg some (by kernel_rfl))⟩
  f15 := ⟨Tryz.f113.name, by decide, Tryz.func113.trans (congrArg some (by kernel_rfl))⟩
  f16 := ⟨Tryz.f114.name, by decide, Tryz.func114.trans (congrArg some (by kernel_rfl))⟩
  f17 := ⟨Tryz.f115.name, by decide, Tryz.func115.trans (congrArg some (by kernel_rfl))⟩
  f18 := ⟨Tryz.f116.name, by decide, Tryz.func116.trans (congrArg some (by kernel_rfl))⟩
  f19 := Tryz.func105.trans (congrArg some (by kernel_rfl))
  f20 := Tryz.func106.trans (congrArg some (by kernel_rfl))
  f30 := ⟨Tryz.f123.name, by decide, Tryz.func123.trans (congrArg some (by kernel_rfl))⟩
  f31 := Tryz.func119.trans (congrArg some (by kernel_rfl))
  f32 := Tryz.func120.trans (congrArg some (by kernel_rfl))
  f33 := ⟨Tryz.f124.name, by decide, Tryz.func124.trans (congrArg some (by kernel_rfl))⟩
  f34 := ⟨Tryz.f125.name, by decide, Tryz.func125.trans (congrArg some (by kernel_rfl))⟩
  f35 := ⟨Tryz.f83.name, by decide, Tryz.func83.trans (congrArg some (by kernel_rfl))⟩
  f40 := ⟨Tryz.f127.name, by decide, Tryz.func127.trans (congrArg some (by kernel_rfl))⟩
  t0 := Tryz.underlying0
  a0 := Tryz.isAgg0
  z0 := Tryz.sizeOf0
  v0 := Tryz.zeroValue0
  t3 := Tryz.underlying3
  a3 := Tryz.isAgg3
  z3 := Tryz.sizeOf3
  v3 := Tryz.zeroValue3
  t4 := Tryz.underlying4
  a4 := Tryz.isAgg4
  z4 := Tryz.sizeOf4
  v4 := Tryz.zeroValue4
  t5 := Tryz.underlying5
  a5 := Tryz.isAgg5
  z5 := Tryz.sizeOf5
  v5 := Tryz.zeroValue5
  t9 := Tryz.underlying9
  a9 := Tryz.isAgg9
  z9 := Tryz.sizeOf9
  v9 := Tryz.zeroValue9
  t22 := Tryz.underlying35
  a22 := Tryz.isAgg35
  z22 := Tryz.sizeOf35
  v22 := Tryz.zeroValue35
  t23 := Tryz.underlying35
  a23 := Tryz.isAgg35
  z23 := Tryz.sizeOf35
  v23 := Tryz.zeroValue35
  t25 := Tryz.underlying3
  a25 := Tryz.isAgg3
  z25 := Tryz.sizeOf3
  v25 := Tryz.zeroValue3
  t32 := Tryz.underlying120
  a32 := Tryz.isAgg120
  z32 := Tryz.sizeOf120
  v32 := Tryz.zeroValue120
  t35 := Tryz.underlying131
  a35 := Tryz.isAgg131
  z35 := Tryz.sizeOf131
  v35 := Tryz.zeroValue131
  t36 := Tryz.underlying132
  a36 := Tryz.isAgg132
  z36 := Tryz.sizeOf132
  v36 := Tryz.zeroValue132
  t41 := Tryz.underlying46
  a41 := Tryz.isAgg46
  z41 := Tryz.sizeOf46
  v41 := Tryz.zeroValue46
  t44 := Tryz.underlying53
  a44 := Tryz.isAgg53
  z44 := Tryz.sizeOf53
  v44 := Tryz.zeroValue53
  t46 := Tryz.underlying139
  a46 := Tryz.isAgg139
  z46 := Tryz.sizeOf139
  v46 := Tryz.zeroValue139
  t53 := Tryz.underlying147
  a53 := Tryz.isAgg147
  z53 := Tryz.sizeOf147
  v53 := Tryz.zeroValue147
  t57 := Tryz.underlying151
  a57 := Tryz.isAgg151
  z57 := Tryz.sizeOf151
  v57 := Tryz.zeroValue151
  t63 := Tryz.underlying155
  a63 := Tryz.isAgg155
  z63 := Tryz.sizeOf155
  v63 := Tryz.zeroValue155
  t64 := Tryz.underlying156
  a64 := Tryz.isAgg156
  z64 := Tryz.sizeOf156
  v64 := Tryz.zeroValue156 }
theorem YtimfcgdnogjlhaaGreat.srt56 : SrtQ Tryz.prog 56 2 := ⟨Tryz.call56, fun enc hk h1 cf hO g cb blk off cap d w eg hc hH hb hs => AnyQ.slices_SortFunc_eq YtimfcgdnogjlhaaGreat.sort56 2 Tryz.isAgg51 Tryz.sizeOf51 enc hk h1 cf hO g cb blk off cap d w eg hc hH hb hs, fun p cap fv w => AnyF.slices_SortFunc_none YtimfcgdnogjlhaaGreat.sort56 p cap fv w⟩
theorem YtimfcgdnogjlhaaGreat.srt74 : SrtI Tryz.prog 74 := ⟨Tryz.call74, fun blk off cap zs w hH hb hs => AnyM.slices_Sort_int YtimfcgdnogjlhaaGreat.sort74 blk off cap zs w hH hb hs, fun p cap w => AnyM.slices_Sort_int_none YtimfcgdnogjlhaaGreat.sort74 p cap w⟩
end Go.Proofs
namespace Go.Proofs
open Go Go.RowKit Go.Shelf
attribute [local go_sem] Oper.semAt_some

def YtimfcgdnogjlhaaGreat.upto {α : Type} (f : Nat → α) (k : Nat) : List α := (List.range k).map f
theorem YtimfcgdnogjlhaaGreat.upto_succ {α : Type} (f : Nat → α) (k : Nat) : YtimfcgdnogjlhaaGreat.upto f (k + 1) = YtimfcgdnogjlhaaGreat.upto f k ++ [f k] := by simp [YtimfcgdnogjlhaaGreat.upto, List.range_succ]
theorem YtimfcgdnogjlhaaGreat.upto_length {α : Type} (f : Nat → α) (k : Nat) : (YtimfcgdnogjlhaaGreat.upto f k).length = k := by simp [YtimfcgdnogjlhaaGreat.upto]
theorem YtimfcgdnogjlhaaGreat.upto_all (zs : List Int) : YtimfcgdnogjlhaaGreat.upto (fun j => zs[j]?.getD 0) zs.length = zs := by
  apply List.ext_getElem
  · simp [YtimfcgdnogjlhaaGreat.upto]
  · intro i h1 h2
    simp [YtimfcgdnogjlhaaGreat.upto, h2]

set_option maxRecDepth 100000 in
set_option maxHeartbeats 2000000 in
theorem YtimfcgdnogjlhaaGreat.values1_in (F : Fence) (n : Nat) (h7 : F.fn 75) (hro : F.round = none) (hn : 1 ≤ n) (l Bs bo n₀ b off len cap : Nat) (zs : List Int) (hreach : len * 8 ≤ 140737488351232) (hb : b < n₀) (J Jx : List Int → World → Prop)
    (hY : ∀ pre x W, J pre W → pre.length < len → YieldAt F (n - 1) Tryz.prog l #[.int .i64 x] W fun e W' =>
      (e = .returned (.bool true) ∧ J (pre ++ [x]) W' ∧ Below n₀ W W') ∨ (e = .returned (.bool false) ∧ Jx (pre ++ [x]) W'))
    (W : World) (hBs : W.cell? ⟨Bs, bo, none⟩ = some (.slice (some ⟨b, off, none⟩) len cap)) (hc : ∀ j, j < len → W.cell? ⟨b, off + j, none⟩ = some (.int .i64 (zs[j]?.getD 0))) (h0 : J [] W) :
    CallsIn F n Tryz.prog 75 #[.func (.yield l) #[] #[], .pointer (some ⟨Bs, bo, none⟩)] W fun e W' => (∃ v, e = .returned v) ∧
      ((∃ ys, ys = YtimfcgdnogjlhaaGreat.upto (fun j => zs[j]?.getD 0) len ∧ J ys W') ∨ (∃ pre, (∃ k, k ≤ len ∧ pre = YtimfcgdnogjlhaaGreat.upto (fun j => zs[j]?.getD 0) k) ∧ Jx pre W')) := by
  refine callsIn_of_wp Tryz.func75 rfl h7 ?_ hro
  simp only [Tryz.ntmps75, List.size_toArray, List.length_cons, List.length_nil, Nat.reduceAdd, Nat.reduceSub, Array.replicate_succ, Array.replicate_zero, List.push_toArray, List.append_toArray, List.nil_append, List.cons_append]
  gi_wp2
  gi_loopw [7] (fun i wr => ∃ k : Nat, k ≤ len ∧ i = .int .i64 k ∧ J (YtimfcgdnogjlhaaGreat.upto (fun j => zs[j]?.getD 0) k) wr ∧ Below n₀ W wr)
    (fun i _ => len - (intOf i).toNat)
  case atStart => exact ⟨0, Nat.zero_le _, rfl, h0, Below.refl _ _⟩
  case round =>
    obtain ⟨k, hk, rfl, hJs, hnx⟩ := hrel
    have hcx : k < len → wr.cell? ⟨b, off + k, none⟩ = some (.int .i64 (zs[k]?.getD 0)) := fun h => (hnx.cell (p := ⟨b, off + k, none⟩) hb).trans (hc k h)
    by_cases hlt : k < len
    · obtain ⟨fn, tmps, assign, body, hy, hR⟩ := hY _ (zs[k]?.getD 0) wr hJs (by rw [YtimfcgdnogjlhaaGreat.upto_length]; exact hlt)
      have hcx' := hcx hlt
      gi_wp2
      refine hR.mono ?_
      rintro e W3 (⟨rfl, hJ3, hk3⟩ | ⟨rfl, hJx3⟩)
      · gi_wp2
        go_roundw
        case rel => exact ⟨k + 1, by omega, by simp, by rw [YtimfcgdnogjlhaaGreat.upto_succ]; exact hJ3, hnx.trans hk3⟩
        case measure => simp [intOf]; omega
      · gi_wp2
        refine bodyPost_ret (results_none rfl _ _ _) rfl ?_
        exact ⟨⟨_, rfl⟩, .inr ⟨_, ⟨k + 1, by omega, (YtimfcgdnogjlhaaGreat.upto_succ _ _).symm⟩, hJx3⟩⟩
    · obtain rfl : k = len := by omega
      gi_wp2
      go_end0
      exact ⟨⟨_, rfl⟩, .inl ⟨_, rfl, hJs⟩⟩

theorem YtimfcgdnogjlhaaGreat.upto_take (zs : List Int) {k : Nat} (hk : k ≤ zs.length) : YtimfcgdnogjlhaaGreat.upto (fun j => zs[j]?.getD 0) k = zs.take k := by
  apply List.ext_getElem
  · simp [YtimfcgdnogjlhaaGreat.upto, hk]
  · intro i h1 h2
    have : i < zs.length := by simp [YtimfcgdnogjlhaaGreat.upto] at h1; omega
    simp [YtimfcgdnogjlhaaGreat.upto, this]

set_option maxRecDepth 100000 in
set_option maxHeartbeats 1000000 in
theorem YtimfcgdnogjlhaaGreat.values1_nil_in (F : Fence) (n : Nat) (h7 : F.fn 75) (hro : F.round = none) (l Bs bo : Nat) (a : Option Addr) (cap : Nat) (J : List Int → World → Prop) (W : World) (hBs : W.cell? ⟨Bs, bo, none⟩ = some (.slice a 0 cap)) (h0 : J [] W) :
    CallsIn F n Tryz.prog 75 #[.func (.yield l) #[] #[], .pointer (some ⟨Bs, bo, none⟩)] W fun e W' => (∃ v, e = .returned v) ∧ J [] W' := by
  refine callsIn_of_wp Tryz.func75 rfl h7 ?_ hro
  simp only [Tryz.ntmps75, List.size_toArray, List.length_cons, List.length_nil, Nat.reduceAdd, Nat.reduceSub, Array.replicate_succ, Array.replicate_zero, List.push_toArray, List.append_toArray, List.nil_append, List.cons_append]
  gi_wp2
  gi_loopw [7] (fun i wr => i = .int .i64 0 ∧ J [] wr) (fun _ _ => 0)
  case atStart => exact ⟨rfl, h0⟩
  case round =>
    obtain ⟨rfl, hJs⟩ := hrel
    gi_wp2
    go_end0
    exact ⟨⟨_, rfl⟩, hJs⟩

theorem YtimfcgdnogjlhaaGreat.values_stops (F : Fence) (n : Nat) (h7 : F.fn 75) (hro : F.round = none) (hn : 1 ≤ n) (Bs bo n₀ : Nat) (sv : Go.Value) (zs : List Int) (hreach : zs.length * 8 ≤ 140737488351232) (w : World) (hBs : Bs < w.heap.size) (hn₀ : n₀ ≤ w.heap.size)
    (hc : w.cell? ⟨Bs, bo, none⟩ = some sv) (hI : Ab.IntsAt n₀ w sv zs) :
    SeqStopsK F n Tryz.prog 75 #[.pointer (some ⟨Bs, bo, none⟩)] (fun x : Int => #[Go.Value.int .i64 x]) (Below n₀) (fun ys => ys = zs) (fun pre => pre <+: zs) zs.length w := fun l J Jx W hW _ _ hY h0 => by
  have hc' := (hW.cell (p := ⟨Bs, bo, none⟩) hBs).trans hc
  rcases hI.below (hW.mono hn₀) with ⟨a, cap, rfl, rfl⟩ | ⟨b, off, cap, rfl, hb, hcs⟩
  · exact (YtimfcgdnogjlhaaGreat.values1_nil_in F n h7 hro l Bs bo a cap J W hc' h0).mono fun e W' ⟨he, hj⟩ => ⟨he, .inl ⟨_, rfl, hj⟩⟩
  · refine (YtimfcgdnogjlhaaGreat.values1_in F n h7 hro hn l Bs bo n₀ b off zs.length cap zs hreach hb J Jx hY W hc' hcs h0).mono ?_
    rintro e W' ⟨he, ⟨ys, rfl, hj⟩ | ⟨pre, ⟨k, hk, rfl⟩, hj⟩⟩
    · exact ⟨he, .inl ⟨_, YtimfcgdnogjlhaaGreat.upto_all zs, hj⟩⟩
    · exact ⟨he, .inr ⟨_, by rw [YtimfcgdnogjlhaaGreat.upto_take zs hk]; exact List.take_prefix _ _, hj⟩⟩

theorem YtimfcgdnogjlhaaGreat.infoE : (Tryz.prog.info? 3).map (fun i => (i.zero, i.size, i.bytes)) = some (some (.int .i64 0), 1, 8) := by kernel_rfl

set_option maxRecDepth 100000 in
set_option maxHeartbeats 2000000 in
theorem YtimfcgdnogjlhaaGreat.apseq_in (F : Fence) (n : Nat) (h3 : F.fn 91) (h5 : F.fn 75) (hro : F.round = none) (hn : 2 ≤ n) (Bs bo : Nat) (sv : Go.Value) (zs : List Int) (hlen : zs.length ≤ maxLen) (hbytes : zs.length * 8 ≤ 140737488351232) (w : World)
    (hBs : Bs < w.heap.size) (hcs : w.cell? ⟨Bs, bo, none⟩ = some sv) (hI : Ab.IntsAt w.heap.size w sv zs) :
    CallsIn F n Tryz.prog 91 #[.slice none 0 0, .func (.func 75) #[] #[.pointer (some ⟨Bs, bo, none⟩)]] w fun e W' => ∃ v, e = .returned v ∧ W'.ownsRow w.heap.size 3 1 v zs.length (zs.map (Go.Value.int .i64)) ∧ (v = .slice none 0 0 ↔ zs = []) ∧ Below w.heap.size w W' := by
  have h1 : 1 ≤ n := by omega
  obtain ⟨i0, hi, hz0, hz1, hz2⟩ := info_parts YtimfcgdnogjlhaaGreat.infoE
  refine callsIn_of_wp_marks Tryz.func91 rfl h3 ?_ hro
  simp only [Tryz.ntmps91, List.size_toArray, List.length_cons, List.length_nil, Nat.reduceAdd, Nat.reduceSub, Array.replicate_succ, Array.replicate_zero, List.push_toArray, List.append_toArray, List.nil_append, List.cons_append]
  gi_wp2
  have bO := Boxed.new w 35 (.slice none 0 0)
  have hB0 : Below w.heap.size w (w.alloc (.cells #[.slice none 0 0] 35)) := (Below.refl _ w).alloc (Nat.le_refl _) _
  refine wpIn_rangeFunc_ownG hro h1 (gf := 75) (lb := #[.pointer (some ⟨Bs, bo, none⟩)]) rfl h5 (enters_of Tryz.func75 (by kernel_rfl) rfl)
    (YtimfcgdnogjlhaaGreat.values_stops F (n - 1) h5 hro (by omega) Bs bo w.heap.size sv zs hbytes (w.alloc (.cells #[.slice none 0 0] 35)) (by simp; omega) (by simp) ((hB0.cell (p := ⟨Bs, bo, none⟩) hBs).trans hcs) (hI.below hB0)) belowK_t (belowK_b (by simp)) (Below.refl _ _) (fun _ => rfl)
    (fun pre W => (∃ v, Boxed W w.heap.size 35 v ∧ W.ownsRow w.heap.size 3 1 v pre.length (pre.map (Go.Value.int .i64)) ∧ (v = .slice none 0 0 ↔ pre = [])) ∧ Below w.heap.size w W)
    (fun _ _ _ => False)
    (OwnFrom.and (Own.from (holdsRow_own w.heap.size w.heap.size 35 3 1 (fun pre => pre.length) (fun pre => pre.map (Go.Value.int .i64)) (fun pre v => v = .slice none 0 0 ↔ pre = [])) _) (ownFrom_below (Nat.le_refl _) (by simp)))
    (fun _ _ _ _ _ hs _ _ => hs)
    ⟨⟨_, bO, World.ownsRow_nil _ _ _ _, by simp⟩, hB0⟩
    (fun x => { tmps := #[.slice none 0 0, .func (.func 75) #[] #[.pointer (some ⟨Bs, bo, none⟩)], .pointer (some ⟨w.heap.size, 0, none⟩), undef, .slice none 0 0, .int .i64 x, .func (.func 75) #[] #[.pointer (some ⟨Bs, bo, none⟩)], .int .i64 x, undef, undef, undef, undef, undef], defers := [] }) ?assign ?body ?done ?stop
  case assign =>
    intro l x W K hK
    gi_wp2
    exact hK
  case body =>
    rintro l pre x W ⟨⟨v, hv, hrow, hnil⟩, hB⟩ hlt
    have hc := hv.cell
    gi_wp2_with (gi_at_builtin; refine wpListIn_append_own _ rfl _ _ 35 rfl w.heap.size 3 i0 (.int .i64 0) 1 8 Tryz.underlying35 hi hz0 hz1 hz2 rfl (by decide) _ _ _ rfl (hrow.alloc _) ⟨W.heap.size, 0, none⟩ 1 1 [.int .i64 x] rfl rfl (cell_one_new _ _ _) (by simp [Go.Value.oneCell']) (by omega) (by omega) (by have := hB.size; simp; omega) ?_; intro v' w1 hown' hgrow _; obtain ⟨g', cap', rfl⟩ := ownsRow_succ hown'; obtain ⟨hv1, hv2, hr2, hk2, hb2⟩ := hv.appended (by decide) hrow hB.size (Nat.le_refl _) hown' hgrow; have hc1 := hv1.cell; have hf1 := hv1.frozen)
    exact ⟨hk2.from _, hb2, ⟨_, hv2, by simpa using hr2, by simp⟩, hB.trans hb2⟩
  case done =>
    rintro D ys W hD rfl ⟨⟨v, hv, hrow, hnil⟩, hB⟩ hK
    have hc := hv.cell
    gi_wp2
    refine ⟨by simp, .inl ⟨_, _, rfl, run_takeDeferred hK, ?_⟩⟩
    exact ⟨_, results_tmp rfl _ _ _, v, rfl, ownsRow_putObj hrow _ hK rfl, hnil, hB.trans (belowK_b (w := w) (Nat.le_refl _) W D _ _ (by simp at hD; omega) hK rfl rfl)⟩
  case stop =>
    rintro D c pre W _ _ h _
    exact h.elim

set_option maxHeartbeats 1000000 in
theorem YtimfcgdnogjlhaaGreat.collect (Bs bo : Nat) (sv : Go.Value) (zs : List Int) (w : World) (hlen : zs.length ≤ 1000000000000) (hBs : Bs < w.heap.size) (hcs : w.cell? ⟨Bs, bo, none⟩ = some sv) (hI : Ab.IntsAt w.heap.size w sv zs) :
    Calls Tryz.prog 73 #[.func (.func 75) #[] #[.pointer (some ⟨Bs, bo, none⟩)]] w fun e W' => ∃ v, e = .returned v ∧ W'.ownsRow w.heap.size 3 1 v zs.length (zs.map (Go.Value.int .i64)) ∧ (v = .slice none 0 0 ↔ zs = []) ∧ Below w.heap.size w W' := by
  refine (callsIn_wide (n := 5)).1 ?_
  have cA := YtimfcgdnogjlhaaGreat.apseq_in Fence.wide 4 trivial trivial rfl (by omega) Bs bo sv zs (by unfold maxLen; omega) (by omega) w hBs hcs hI
  have hfA : Fence.wide.fn 91 := trivial
  refine callsIn_of_wp Tryz.func73 rfl trivial ?_ rfl
  simp only [Tryz.ntmps73, List.size_toArray, List.length_cons, List.length_nil, Nat.reduceAdd, Nat.reduceSub, Array.replicate_succ, Array.replicate_zero, List.push_toArray, List.append_toArray, List.nil_append, List.cons_append]
  gi_wp2_with (gi_at_call 91; refine cA.mono ?_; rintro e w' ⟨v, rfl, hrow, hnil, hb⟩)
  go_ret
  exact ⟨v, rfl, hrow, hnil, hb⟩
theorem YtimfcgdnogjlhaaGreat.coll73 : Ab.Coll Tryz.prog 73 75 3 := ⟨fun args w => enters_of Tryz.func73 (by kernel_rfl) rfl args w, YtimfcgdnogjlhaaGreat.collect⟩
end Go.Proofs
namespace Go.Proofs
open Go Go.RowKit Go.Shelf
attribute [local go_sem] Oper.semAt_some

/-- two cells -/
structure S2.VP where
  a : Go.Value
  b : Go.Value
  ha : a.oneCell' = true
  hb : b.oneCell' = true
def S2.VP.cells (x : S2.VP) : List Go.Value := [x.a, x.b]
def S2.upto {α : Type} (f : Nat → α) (k : Nat) : List α := (List.range k).map f
theorem S2.upto_succ {α : Type} (f : Nat → α) (k : Nat) : S2.upto f (k + 1) = S2.upto f k ++ [f k] := by simp [S2.upto, List.range_succ]
theorem S2.upto_length {α : Type} (f : Nat → α) (k : Nat) : (S2.upto f k).length = k := by simp [S2.upto]

set_option maxRecDepth 100000 in
set_option maxHeartbeats 2000000 in
theorem S2.values1_in (F : Fence) (n : Nat) (h7 : F.fn 57) (hro : F.round = none) (hn : 1 ≤ n) (l Bs bo n₀ b off len cap : Nat) (zs : Nat → S2.VP) (hreach : len ≤ 1000000000000) (hb : b < n₀) (J Jx : List S2.VP → World → Prop)
    (hY : ∀ pre x W, J pre W → pre.length < len → YieldAt F (n - 1) Tryz.prog l #[.agg #[x.a, x.b]] W fun e W' =>
      (e = .returned (.bool true) ∧ J (pre ++ [x]) W' ∧ Below n₀ W W') ∨ (e = .returned (.bool false) ∧ Jx (pre ++ [x]) W'))
    (hJ : ∀ pre W o, J pre W → J pre (W.alloc o))
    (W : World) (hBs : W.cell? ⟨Bs, bo, none⟩ = some (.slice (some ⟨b, off, none⟩) len cap)) (hc1 : ∀ j, j < len → W.cell? ⟨b, off + j * 2, none⟩ = some (zs j).a) (hc2 : ∀ j, j < len → W.cell? ⟨b, off + j * 2 + 1, none⟩ = some (zs j).b) (hn0 : n₀ ≤ W.heap.size) (h0 : J [] W) :
    CallsIn F n Tryz.prog 57 #[.func (.yield l) #[] #[], .pointer (some ⟨Bs, bo, none⟩)] W fun e W' => (∃ v, e = .returned v) ∧
      ((∃ ys, ys = S2.upto zs len ∧ J ys W') ∨ (∃ pre, (∃ k, k ≤ len ∧ pre = S2.upto zs k) ∧ Jx pre W')) := by
  refine callsIn_of_wp Tryz.func57 rfl h7 ?_ hro
  simp only [Tryz.ntmps57, List.size_toArray, List.length_cons, List.length_nil, Nat.reduceAdd, Nat.reduceSub, Array.replicate_succ, Array.replicate_zero, List.push_toArray, List.append_toArray, List.nil_append, List.cons_append]
  gi_wp2
  gi_loopw [7] (fun i wr => ∃ k : Nat, k ≤ len ∧ i = .int .i64 k ∧ J (S2.upto zs k) wr ∧ Below n₀ W wr)
    (fun i _ => len - (intOf i).toNat)
  case atStart => exact ⟨0, Nat.zero_le _, rfl, h0, Below.refl _ _⟩
  case round =>
    obtain ⟨k, hk, rfl, hJs, hnx⟩ := hrel
    have hcx1 : k < len → wr.cell? ⟨b, off + k * 2, none⟩ = some (zs k).a := fun h => (hnx.cell (p := ⟨b, off + k * 2, none⟩) hb).trans (hc1 k h)
    have hcx2 : k < len → wr.cell? ⟨b, off + k * 2 + 1, none⟩ = some (zs k).b := fun h => (hnx.cell (p := ⟨b, off + k * 2 + 1, none⟩) hb).trans (hc2 k h)
    by_cases hlt : k < len
    · have hcx1' := hcx1 hlt
      have hcx2' := hcx2 hlt
      have hal : Below n₀ W (wr.alloc (.cells #[(zs k).a, (zs k).b] 51)) := hnx.alloc (Nat.le_trans hn0 hnx.size) _
      obtain ⟨fn, tmps, assign, body, hy, hR⟩ := hY _ (zs k) (wr.alloc (.cells #[(zs k).a, (zs k).b] 51)) (hJ _ _ _ hJs) (by rw [S2.upto_length]; exact hlt)
      have hs1 : ∀ (a : Addr) (w : World), Sem.run Tryz.prog (store a (zs k).a) w = stored Tryz.prog w a (zs k).a .plain := fun a w => run_store _ w a _ _ (zs k).ha
      have hs2 : ∀ (a : Addr) (w : World), Sem.run Tryz.prog (store a (zs k).b) w = stored Tryz.prog w a (zs k).b .plain := fun a w => run_store _ w a _ _ (zs k).hb
      gi_wp2
      refine hR.mono ?_
      rintro e W3 (⟨rfl, hJ3, hk3⟩ | ⟨rfl, hJx3⟩)
      · gi_wp2
        go_roundw
        case rel => exact ⟨k + 1, by omega, by simp, by rw [S2.upto_succ]; exact hJ3, hal.trans hk3⟩
        case measure => simp [intOf]; omega
      · gi_wp2
        refine bodyPost_ret (results_none rfl _ _ _) rfl ?_
        exact ⟨⟨_, rfl⟩, .inr ⟨_, ⟨k + 1, by omega, (S2.upto_succ _ _).symm⟩, hJx3⟩⟩
    · obtain rfl : k = len := by omega
      gi_wp2
      go_end0
      exact ⟨⟨_, rfl⟩, .inl ⟨_, rfl, hJs⟩⟩

set_option maxRecDepth 100000 in
set_option maxHeartbeats 1000000 in
theorem S2.values1_nil_in (F : Fence) (n : Nat) (h7 : F.fn 57) (hro : F.round = none) (l Bs bo : Nat) (a : Option Addr) (cap : Nat) (J : List S2.VP → World → Prop) (W : World) (hBs : W.cell? ⟨Bs, bo, none⟩ = some (.slice a 0 cap)) (h0 : J [] W) :
    CallsIn F n Tryz.prog 57 #[.func (.yield l) #[] #[], .pointer (some ⟨Bs, bo, none⟩)] W fun e W' => (∃ v, e = .returned v) ∧ J [] W' := by
  refine callsIn_of_wp Tryz.func57 rfl h7 ?_ hro
  simp only [Tryz.ntmps57, List.size_toArray, List.length_cons, List.length_nil, Nat.reduceAdd, Nat.reduceSub, Array.replicate_succ, Array.replicate_zero, List.push_toArray, List.append_toArray, List.nil_append, List.cons_append]
  gi_wp2
  gi_loopw [7] (fun i wr => i = .int .i64 0 ∧ J [] wr) (fun _ _ => 0)
  case atStart => exact ⟨rfl, h0⟩
  case round =>
    obtain ⟨rfl, hJs⟩ := hrel
    gi_wp2
    go_end0
    exact ⟨⟨_, rfl⟩, hJs⟩

theorem S2.values_stops (F : Fence) (n : Nat) (h7 : F.fn 57) (hro : F.round = none) (hn : 1 ≤ n) (Bs bo n₀ m : Nat) (sv : Go.Value) (zs : Nat → S2.VP) (hreach : m ≤ 1000000000000) (w : World) (hBs : Bs < w.heap.size) (hn₀ : n₀ ≤ w.heap.size)
    (hc : w.cell? ⟨Bs, bo, none⟩ = some sv) (hI : Ab.CellsAt n₀ w sv m ((S2.upto zs m).flatMap S2.VP.cells)) :
    SeqStopsK F n Tryz.prog 57 #[.pointer (some ⟨Bs, bo, none⟩)] (fun x : S2.VP => #[.agg #[x.a, x.b]]) (Below n₀) (fun ys => ys = S2.upto zs m) (fun pre => ∃ k, k ≤ m ∧ pre = S2.upto zs k) m w := fun l J Jx W hW hA _ hY h0 => by
  have hc' := (hW.cell (p := ⟨Bs, bo, none⟩) hBs).trans hc
  rcases hI.below (hW.mono hn₀) with ⟨a, cap, rfl, rfl⟩ | ⟨b, off, cap, rfl, hb, hcs⟩
  · exact (S2.values1_nil_in F n h7 hro l Bs bo a cap J W hc' h0).mono fun e W' ⟨he, hj⟩ => ⟨he, .inl ⟨_, rfl, hj⟩⟩
  · have hget : ∀ k j, j < k → ((S2.upto zs k).flatMap S2.VP.cells)[j * 2]? = some (zs j).a ∧ ((S2.upto zs k).flatMap S2.VP.cells)[j * 2 + 1]? = some (zs j).b := by
      intro k
      induction k with
      | zero => intro j hj; omega
      | succ k ih =>
        intro j hj
        have hl : ((S2.upto zs k).flatMap S2.VP.cells).length = k * 2 := by
          clear ih hj hcs hc hc' hI hY
          induction k with
          | zero => rfl
          | succ k ih => rw [S2.upto_succ, List.flatMap_append, List.length_append, ih]; simp [S2.VP.cells]; omega
        rw [S2.upto_succ, List.flatMap_append]
        by_cases h : j < k
        · rw [List.getElem?_append_left (by omega), List.getElem?_append_left (by omega)]; exact ih j h
        · obtain rfl : j = k := by omega
          rw [List.getElem?_append_right (by omega), List.getElem?_append_right (by omega), hl]
          simp [S2.VP.cells, show j * 2 + 1 - j * 2 = 1 by omega]
    have hJ : ∀ pre W2 o, J pre W2 → J pre (W2.alloc o) := fun pre W2 o h => hA pre W2 _ none h (World.grownBy_alloc _ _ _) (fun r e => by cases e)
    refine (S2.values1_in F n h7 hro hn l Bs bo n₀ b off m cap zs hreach hb J Jx hY hJ W hc' (fun j hj => hcs _ _ (hget m j hj).1) (fun j hj => by rw [Nat.add_assoc]; exact hcs _ _ (hget m j hj).2) (Nat.le_trans hn₀ hW.size) h0).mono ?_
    rintro e W' ⟨he, ⟨ys, rfl, hj⟩ | ⟨pre, hk, hj⟩⟩
    · exact ⟨he, .inl ⟨_, rfl, hj⟩⟩
    · exact ⟨he, .inr ⟨_, hk, hj⟩⟩
theorem S2.infoE : (Tryz.prog.info? 51).map (fun i => (i.zero.map (fun z => z.cells.size), i.size, i.bytes)) = some (some 2, 2, 32) := by kernel_rfl
theorem S2.infoP : ∃ i0 z, Tryz.prog.info? 51 = some i0 ∧ i0.zero = some z ∧ i0.size = 2 ∧ i0.bytes = 32 ∧ z.cells.size = 2 := by
  have h := S2.infoE
  cases hi : Tryz.prog.info? 51 with
  | none => rw [hi] at h; cases h
  | some i =>
    rw [hi] at h
    simp only [Option.map_some, Option.some.injEq, Prod.mk.injEq] at h
    obtain ⟨h1, h2, h3⟩ := h
    cases hz : i.zero with
    | none => rw [hz] at h1; cases h1
    | some z =>
      rw [hz] at h1
      exact ⟨i, z, rfl, hz, h2, h3, by simpa using h1⟩

theorem S2.two_new (w : World) (x y : Go.Value) (t : TypeId) : ∀ j u, [x, y][j]? = some u → (w.alloc (.cells #[x, y] t)).cell? ((⟨w.heap.size, 0, none⟩ : Addr).add j) = some u := by
  intro j u hu
  have hh : (w.alloc (.cells #[x, y] t)).heap[w.heap.size]? = some (.cells #[x, y] t (0, 0)) := Array.getElem?_push_size
  rw [Addr.add_lit, Nat.zero_add, cell_of_row _ w.heap.size j _ t (0, 0) hh]
  simpa using hu
theorem S2.two_one (x : S2.VP) : ∀ u ∈ [x.a, x.b], u.oneCell' = true := by
  intro u hu
  rcases List.mem_cons.1 hu with rfl | hu
  · exact x.ha
  · rcases List.mem_cons.1 hu with rfl | hu
    · exact x.hb
    · cases hu

set_option maxRecDepth 100000 in
set_option maxHeartbeats 2000000 in
theorem S2.apseq_in (F : Fence) (n : Nat) (h3 : F.fn 80) (h5 : F.fn 57) (hro : F.round = none) (hn : 2 ≤ n) (Bs bo m : Nat) (sv : Go.Value) (zs : Nat → S2.VP) (hlen : m ≤ 1000000000000) (w : World)
    (hBs : Bs < w.heap.size) (hcs : w.cell? ⟨Bs, bo, none⟩ = some sv) (hI : Ab.CellsAt w.heap.size w sv m ((S2.upto zs m).flatMap S2.VP.cells)) :
    CallsIn F n Tryz.prog 80 #[.slice none 0 0, .func (.func 57) #[] #[.pointer (some ⟨Bs, bo, none⟩)]] w fun e W' => ∃ v, e = .returned v ∧ W'.ownsRow w.heap.size 51 2 v m ((S2.upto zs m).flatMap S2.VP.cells) ∧ Below w.heap.size w W' := by
  have h1 : 1 ≤ n := by omega
  obtain ⟨i0, z0, hi, hz0, hz1, hz2, hz3⟩ := S2.infoP
  refine callsIn_of_wp_marks Tryz.func80 rfl h3 ?_ hro
  simp only [Tryz.ntmps80, List.size_toArray, List.length_cons, List.length_nil, Nat.reduceAdd, Nat.reduceSub, Array.replicate_succ, Array.replicate_zero, List.push_toArray, List.append_toArray, List.nil_append, List.cons_append]
  gi_wp2
  have bO := Boxed.new w 29 (.slice none 0 0)
  have hB0 : Below w.heap.size w (w.alloc (.cells #[.slice none 0 0] 29)) := (Below.refl _ w).alloc (Nat.le_refl _) _
  have hIo : OwnFrom (w.alloc (.cells #[.slice none 0 0] 29)).heap.size (fun (pre : List S2.VP) W => (∃ v, Boxed W w.heap.size 29 v ∧ W.ownsRow w.heap.size 51 2 v pre.length (pre.flatMap S2.VP.cells) ∧ (v = .slice none 0 0 ↔ pre = [])) ∧ Below w.heap.size w W) := OwnFrom.and (Own.from (holdsRow_own w.heap.size w.heap.size 29 51 2 (fun pre => pre.length) (fun pre => pre.flatMap S2.VP.cells) (fun pre v => v = .slice none 0 0 ↔ pre = [])) _) (ownFrom_below (Nat.le_refl _) (by simp))
  refine wpIn_rangeFunc_ownH hro h1 (gf := 57) (lb := #[.pointer (some ⟨Bs, bo, none⟩)]) rfl h5 (enters_of Tryz.func57 (by kernel_rfl) rfl)
    (S2.values_stops F (n - 1) h5 hro (by omega) Bs bo w.heap.size m sv zs hlen (w.alloc (.cells #[.slice none 0 0] 29)) (by simp; omega) (by simp) ((hB0.cell (p := ⟨Bs, bo, none⟩) hBs).trans hcs) (hI.below hB0)) belowK_t (belowK_b (by simp)) (Below.refl _ _) (fun _ => rfl)
    (fun pre W => (∃ v, Boxed W w.heap.size 29 v ∧ W.ownsRow w.heap.size 51 2 v pre.length (pre.flatMap S2.VP.cells) ∧ (v = .slice none 0 0 ↔ pre = [])) ∧ Below w.heap.size w W)
    (fun _ _ _ => False)
    hIo
    (fun _ _ _ _ _ hs _ _ => hs)
    ⟨⟨_, bO, World.ownsRow_nil _ _ _ _, by simp⟩, hB0⟩
    (fun x a' W => ∃ q, W.heap[q]? = some (.cells #[x.a, x.b] 51 (0, 0)) ∧ a' = { tmps := #[.slice none 0 0, .func (.func 57) #[] #[.pointer (some ⟨Bs, bo, none⟩)], .pointer (some ⟨w.heap.size, 0, none⟩), undef, .slice none 0 0, .pointer (some ⟨q, 0, none⟩), .func (.func 57) #[] #[.pointer (some ⟨Bs, bo, none⟩)], .agg #[x.a, x.b], undef, undef, undef, undef, undef], defers := [] }) ?hAx ?assign ?body ?done ?stop
  case hAx =>
    rintro x a' _ W W' row ⟨q, hq, ha⟩ hg hr
    refine ⟨q, (hg.block q (Array.getElem?_eq_some_iff.1 hq).1 (fun e => ?_)).trans hq, ha⟩
    obtain ⟨_, o, ho, hc⟩ := hr q e.symm
    rw [hq] at ho; cases ho; cases hc
  case assign =>
    intro l pre x W K hI2 hK
    have hs1 : ∀ (a : Addr) (w : World), Sem.run Tryz.prog (store a x.a) w = stored Tryz.prog w a x.a .plain := fun a w => run_store _ w a _ _ x.ha
    have hs2 : ∀ (a : Addr) (w : World), Sem.run Tryz.prog (store a x.b) w = stored Tryz.prog w a x.b .plain := fun a w => run_store _ w a _ _ x.hb
    gi_wp2
    have hws : w.heap.size ≤ W.heap.size := hI2.2.size
    exact hK _ _ ((KeepsOthers.alloc W _).from _) ((Below.refl _ W).alloc hws _) (hIo.alloc _ hI2) ⟨W.heap.size, Array.getElem?_push_size, rfl⟩
  case body =>
    rintro l pre x a' W hl ⟨r0, hr0⟩ ⟨⟨v, hv, hrow, hnil⟩, hB⟩ ⟨q, hq, rfl⟩ hlt
    have hc := hv.cell
    have hq1 : W.cell? ⟨q, 0, none⟩ = some x.a := by rw [cell_of_row W q 0 _ 51 (0, 0) hq]; rfl
    have hq2 : W.cell? ⟨q, 1, none⟩ = some x.b := by rw [cell_of_row W q 1 _ 51 (0, 0) hq]; rfl
    gi_wp2_with (gi_at_builtin; refine wpListIn_append_own _ rfl _ _ 29 rfl w.heap.size 51 i0 z0 2 32 Tryz.underlying29 hi hz0 hz1 hz2 hz3 (by decide) _ _ _ rfl (hrow.alloc _) ⟨W.heap.size, 0, none⟩ 1 1 [x.a, x.b] (by rfl) (by rfl) (S2.two_new _ _ _ _) (S2.two_one x) (by unfold maxLen; omega) (by omega) (by have := hB.size; simp; omega) ?_; intro v' w1 hown' hgrow _; obtain ⟨g', cap', rfl⟩ := ownsRow_succ hown'; obtain ⟨hv1, hv2, hr2, hk2, hb2⟩ := hv.appended (by decide) hrow hB.size (Nat.le_refl _) hown' hgrow; have hc1 := hv1.cell; have hf1 := hv1.frozen)
    exact ⟨hk2.from _, hb2, ⟨_, hv2, by simpa [List.flatMap_append, S2.VP.cells] using hr2, by simp⟩, hB.trans hb2⟩
  case done =>
    rintro D ys W hD rfl ⟨⟨v, hv, hrow, hnil⟩, hB⟩ hK
    have hc := hv.cell
    gi_wp2
    refine ⟨by simp, .inl ⟨_, _, rfl, run_takeDeferred hK, ?_⟩⟩
    rw [S2.upto_length] at hrow
    exact ⟨_, results_tmp rfl _ _ _, v, rfl, ownsRow_putObj hrow _ hK rfl, hB.trans (belowK_b (w := w) (Nat.le_refl _) W D _ _ (by simp at hD; omega) hK rfl rfl)⟩
  case stop =>
    rintro D c pre W _ _ h _
    exact h.elim

theorem S2.pairs : ∀ (n : Nat) (news : List Go.Value), news.length = n * 2 → (∀ u ∈ news, u.oneCell' = true) → ∃ zs : Nat → S2.VP, (S2.upto zs n).flatMap S2.VP.cells = news := by
  intro n
  induction n with
  | zero => intro news hl _; exact ⟨fun _ => ⟨.nilFunc, .nilFunc, by rfl, by rfl⟩, by have : news = [] := List.eq_nil_of_length_eq_zero (by omega); subst this; rfl⟩
  | succ n ih =>
    intro news hl h1
    obtain ⟨zs, hz⟩ := ih (news.take (n * 2)) (by rw [List.length_take]; omega) (fun u hu => h1 u (List.mem_of_mem_take hu))
    have e1 : n * 2 < news.length := by omega
    have e2 : n * 2 + 1 < news.length := by omega
    refine ⟨fun j => if j = n then ⟨news[n * 2], news[n * 2 + 1], h1 _ (List.getElem_mem e1), h1 _ (List.getElem_mem e2)⟩ else zs j, ?_⟩
    rw [S2.upto_succ, List.flatMap_append]
    have : S2.upto (fun j => if j = n then (⟨news[n * 2], news[n * 2 + 1], h1 _ (List.getElem_mem e1), h1 _ (List.getElem_mem e2)⟩ : S2.VP) else zs j) n = S2.upto zs n := by
      refine List.map_congr_left fun j hj => ?_
      rw [List.mem_range] at hj
      rw [if_neg (by omega)]
    rw [this, hz]
    simp only [if_true, List.flatMap_cons, List.flatMap_nil, S2.VP.cells, List.append_nil]
    apply List.ext_getElem
    · simp; omega
    · intro i h2 h3
      by_cases hi : i < n * 2
      · rw [List.getElem_append_left (by simp; omega)]; simp
      · rw [List.getElem_append_right (by simp; omega)]
        have hl2 : (news.take (n * 2)).length = n * 2 := by rw [List.length_take]; omega
        simp only [hl2]
        rcases Nat.lt_or_ge i (n * 2 + 1) with hh | hh
        · obtain rfl : i = n * 2 := by omega
          simp
        · obtain rfl : i = n * 2 + 1 := by omega
          simp [show n * 2 + 1 - n * 2 = 1 by omega]

set_option maxHeartbeats 1000000 in
theorem S2.collect (Bs bo : Nat) (sv : Go.Value) (n : Nat) (news : List Go.Value) (w : World) (hl : news.length = n * 2) (hlen : n ≤ 1000000000000) (h1 : ∀ u ∈ news, u.oneCell' = true) (hBs : Bs < w.heap.size) (hcs : w.cell? ⟨Bs, bo, none⟩ = some sv) (hI : Ab.CellsAt w.heap.size w sv n news) :
    Calls Tryz.prog 55 #[.func (.func 57) #[] #[.pointer (some ⟨Bs, bo, none⟩)]] w fun e W' => ∃ v, e = .returned v ∧ W'.ownsRow w.heap.size 51 2 v n news ∧ Below w.heap.size w W' := by
  obtain ⟨zs, rfl⟩ := S2.pairs n news hl h1
  refine (callsIn_wide (n := 5)).1 ?_
  have cA := S2.apseq_in Fence.wide 4 trivial trivial rfl (by omega) Bs bo n sv zs hlen w hBs hcs hI
  have hfA : Fence.wide.fn 80 := trivial
  refine callsIn_of_wp Tryz.func55 rfl trivial ?_ rfl
  simp only [Tryz.ntmps55, List.size_toArray, List.length_cons, List.length_nil, Nat.reduceAdd, Nat.reduceSub, Array.replicate_succ, Array.replicate_zero, List.push_toArray, List.append_toArray, List.nil_append, List.cons_append]
  gi_wp2_with (gi_at_call 80; refine cA.mono ?_; rintro e w' ⟨v, rfl, hrow, hb⟩)
  go_ret
  exact ⟨v, rfl, hrow, hb⟩
theorem YtimfcgdnogjlhaaGreat.coll55 : Ab.CollG Tryz.prog 55 57 51 2 := ⟨fun args w => enters_of Tryz.func55 (by kernel_rfl) rfl args w, S2.collect⟩
end Go.Proofs
set_option linter.unusedVariables false
set_option linter.unusedSimpArgs false
namespace Go.Proofs.YtimfcgdnogjlhaaGreat
open Go Go.Ab
set_option maxHeartbeats 4000000 in
theorem slices_Sorted_int_con (s1 : List Int) (r2 : List Int) (h : slices_Sorted_int s1 = some r2) : Con False Tryz.prog 49 [(.func (.func 75) [.imm [.slc (List.map (PV.int .i64) s1)]])] (.slc (List.map (PV.int .i64) r2)) := by
 refine zP Tryz.call49 Tryz.func49 rfl Tryz.ntmps49 fun X w => ?_
 simp only [slices_Sorted_int] at h
 refine zs (zr ?_)
 refine zU (zl (zn (zs (zr ?_))))
 refine zU ?_
 obtain ⟨h3, h⟩ := ite_some h
 refine zQ coll73 5 h3 ?_
 refine zU (zl (zn (zs (zr ?_))))
 refine zU ?_
 refine zM ⟨[(3, .own 5 1 0 s1.length), (6, .own 5 1 0 s1.length)], [(5, .arr 3 1 1 (List.map AV.p (List.map (PV.int .i64) s1)))]⟩ ?_
 obtain ⟨l4, h5, h⟩ := zB h
 refine zSI srt74 h5 ?_
 have h6 := srtIF_len h5
 refine zM ⟨[(3, .own 5 1 0 l4.length), (7, .p (.tup []))], [(5, .arr 3 1 1 (List.map AV.p (List.map (PV.int .i64) l4)))]⟩ ?_
 clear h6
 refine zl (zn (zs (zr ?_)))
 refine zU (zl (zn (zq ?_)))
 cases h
 exact zT Tryz.results49
end Go.Proofs.YtimfcgdnogjlhaaGreat
set_option linter.unusedVariables false
set_option linter.unusedSimpArgs false
namespace Go.Proofs.YtimfcgdnogjlhaaGreat
open Go Go.Ab
set_option maxHeartbeats 4000000 in
theorem slices_Values_int_con {D : Prop} (l : List Int) (r : List Int) (h : slices_Values_int l = some r) : Con D Tryz.prog 50 [(.slc (List.map (PV.int .i64) l))] (.func (.func 75) [.imm [.slc (List.map (PV.int .i64) r)]]) := by
 cases h
 refine zP Tryz.call50 Tryz.func50 rfl Tryz.ntmps50 fun X w => ?_
 refine zs (zr ?_)
 refine zU (zl (zn (zs (zr ?_))))
 refine zU (zl (zn (zq ?_)))
 exact zT Tryz.results50
end Go.Proofs.YtimfcgdnogjlhaaGreat
set_option linter.unusedVariables false
set_option linter.unusedSimpArgs false
namespace Go.Proofs.YtimfcgdnogjlhaaGreat
open Go Go.Ab
set_option maxHeartbeats 4000000 in
theorem ordering_set_con {D : Prop} (l1 : List Int) (r2 : Int) (h : ordering_set l1 = some r2) : Con D Tryz.prog 51 [(.slc (List.map (PV.int .i64) l1))] (.int .u32 r2) := by
 refine zP Tryz.call51 Tryz.func51 rfl Tryz.ntmps51 fun X w => ?_
 simp only [ordering_set] at h
 refine zs (zr ?_)
 refine zU (zl (zn (zs (zr ?_))))
 refine zU (zl (zn (zs (zs (zr ?_)))))
 refine zU (zl (zn (zb ?_)))
 obtain ⟨s3, h4, h⟩ := zB h
 refine zO (fun (s : Int × Int) => ⟨[(3, .p (.int .u32 s.1)), (6, .p (.slc (List.map (PV.int .i64) l1))), (7, .p (.int .i64 (l1.length : Int))), (8, .p (.int .i64 s.2))], []⟩) (fun (o5 : Int) => tE (cX Tryz.f51 X w D) (.exit 0) ⟨[(3, .p (.int .u32 o5))], []⟩) h4 ?_ ?_
 clear h h4
 intro s x h
 obtain ⟨s6, t7⟩ := s
 simp only [ordering_set_l1] at h
 dsimp only
 refine zs (zr ?_)
 refine zU (zl (zn (zs ?_)))
 rcases zI h with ⟨h8, h⟩ | ⟨h8, h⟩
 refine zi (zk (zn (zs (zb (zs (zr ?_))))))
 obtain ⟨x9, h10, h10a, h10b, h⟩ := zX h
 refine zU (zl (zn (zr ?_)))
 obtain ⟨h11, h⟩ := ite_none h
 refine zU (zl (yn (zn (zr ?_))))
 refine zU (zl ?_)
 cases h
 exact ⟨rfl, zE⟩
 refine zj (zx (ze ?_))
 cases h
 exact ⟨rfl, zE⟩
 try simp only at h
 refine zA (yh (zn (zs (zr ?_))))
 refine zU (zl (zn (zq ?_)))
 cases h
 exact zT Tryz.results51
end Go.Proofs.YtimfcgdnogjlhaaGreat
set_option linter.unusedVariables false
set_option linter.unusedSimpArgs false
namespace Go.Proofs.YtimfcgdnogjlhaaGreat
open Go Go.Ab
set_option maxRecDepth 20000 in
set_option maxHeartbeats 4000000 in
theorem ordering_Canonical_con (d1 : OD) (r2 : List Canonical × Int) (h : ordering_Canonical d1 = some r2) : Con False Tryz.prog 21 [(encOD d1)] (.tup [(.slc (List.map encCanonical r2.1)), (.int .i64 r2.2)]) := by
 refine zP Tryz.call21 Tryz.func21 rfl Tryz.ntmps21 fun X w => ?_
 simp only [ordering_Canonical] at h
 refine zs (zr ?_)
 refine zU (zl (zn (zs (zs (zr ?_)))))
 refine zU ?_
 obtain ⟨r3, h4, h⟩ := zB h
 refine zc (ordering_Valid_con 16 d1 _ h4) ?_
 refine zU (zl (zn ?_))
 rcases zI h with ⟨h5, h⟩ | ⟨h5, h⟩
 refine zj (zk (zn (zs (zd ?_))))
 refine yU ?_
 obtain ⟨r6, h7, h⟩ := zB h
 refine yc (ordering_once_con d1.Lhs _ h7) ?_
 refine yU ?_
 obtain ⟨r8, h9, h⟩ := zB h
 refine yc (ordering_once_con d1.Rhs _ h9) ?_
 refine yU ?_
 refine yd (zn (zs (zr ?_)))
 refine zU (zl (zn (zs (zr ?_))))
 refine zU (zl (zn (zs (zs (zr ?_)))))
 refine zU ?_
 obtain ⟨r10, h11, h⟩ := zB h
 refine zc (slices_Values_int_con r8 _ h11) ?_
 obtain ⟨r12, h13, h⟩ := zB h
 refine zc (slices_Sorted_int_con r10 _ h13) ?_
 refine zU (zl (zn (zb ?_)))
 obtain ⟨o14, h15, h⟩ := zB h
 refine zO (fun (s : List Canonical × Int) => ⟨[(4, .p (.slc (List.map (PV.int .i64) r6))), (5, .p (.slc (List.map (PV.int .i64) r8))), (6, .loc 6 1 0 0), (7, .func (.func 47) [.loc 6 1 0 0]), (26, .p (.slc (List.map (PV.int .i64) r12))), (27, .p (.int .i64 (r12.length : Int))), (28, .p (.int .i64 s.2))], [(6, .arr 65 1 1 [.own 117 1 0 s.1.length]), (117, .arr 56 3 1 (List.map AV.p (List.map encCanonical s.1)))]⟩) (fun (o16 : List Canonical) => tE (cX Tryz.f21 X w False) (.exit 0) ⟨[(4, .p (.slc (List.map (PV.int .i64) r6))), (5, .p (.slc (List.map (PV.int .i64) r8))), (6, .loc 6 1 0 0), (7, .func (.func 47) [.loc 6 1 0 0])], [(6, .arr 65 1 1 [.own 117 1 0 o16.length]), (117, .arr 56 3 1 (List.map AV.p (List.map encCanonical o16)))]⟩) h15 ?_ ?_
 clear h h4 h5 h7 h9 h11 h13 h15
 intro s x h
 obtain ⟨o17, t18⟩ := s
 simp only [ordering_Canonical_l1] at h
 dsimp only
 refine zs (zr ?_)
 refine zU (zl (zn (zs ?_)))
 rcases zI h with ⟨h19, h⟩ | ⟨h19, h⟩
 have h19T := eq_true h19
 refine zi (zk (zn (zs (zb (zs (zr ?_))))))
 obtain ⟨x20, h21, h21a, h21b, h⟩ := zX h
 refine zU (zl (zn (zr ?_)))
 refine zU ?_
 obtain ⟨r22, h23, h⟩ := zB h
 refine zc (ordering_set_con r6 _ h23) ?_
 refine zU ?_
 refine zM ⟨[(4, .p (.slc (List.map (PV.int .i64) r6))), (5, .p (.slc (List.map (PV.int .i64) r8))), (6, .loc 6 1 0 0), (7, .func (.func 47) [.loc 6 1 0 0]), (26, .p (.slc (List.map (PV.int .i64) r12))), (27, .p (.int .i64 (r12.length : Int))), (28, .p (.int .i64 t18)), (32, .func (.func 47) [.loc 6 1 0 0]), (36, .p (.agg [.int .u32 r22, .int .i64 x20, .int .i64 (-1)]))], [(6, .arr 65 1 1 [.own 117 1 0 o17.length]), (117, .arr 56 3 1 (List.map AV.p (List.map encCanonical o17)))]⟩ ?_
 refine AL_inline (avs := [.p (.agg [.int .u32 r22, .int .i64 x20, .int .i64 (-1)]), .loc 6 1 0 0]) 74 rfl (guard_none rfl) rfl Tryz.func47 rfl Tryz.call47 Tryz.ntmps47 (by simp) (by simp only [go_sem, seval, h19T]; all_goals rfl) ?_
 intro i24 w25
 show AWp _ _ _ ⟨[(0, .p (.agg [.int .u32 r22, .int .i64 x20, .int .i64 (-1)])), (1, .loc 6 1 0 0)], [(6, .arr 65 1 1 [.own 117 1 0 o17.length]), (117, .arr 56 3 1 (List.map AV.p (List.map encCanonical o17)))]⟩
 refine zs (zr ?_)
 refine zU (zl (zn ?_))
 obtain ⟨t26, h27, h⟩ := zB h
 refine zJ (fun (o28 : Bool) => tE ⟨Tryz.prog, 44, 74, X, [(6, .arr 65 1 1 [.own 117 1 0 o17.length]), (117, .arr 56 3 1 (List.map AV.p (List.map encCanonical o17)))], i24, w25, False⟩ .normal ⟨[(1, .loc 6 1 0 0), (2, .loc 76 1 0 0), (3, .p (.bool o28))], [(6, .arr 65 1 1 [.own 117 1 0 o17.length]), (76, .arr 56 3 1 [.p (.agg [.int .u32 r22, .int .i64 x20, .int .i64 (-1)])]), (117, .arr 56 3 1 (List.map AV.p (List.map encCanonical o17)))]⟩) t26 ?_ ?_
 replace h := h27
 clear h27
 refine zr ?_
 refine zU ?_
 rcases zI h with ⟨h29, h⟩ | ⟨h29, h⟩
 refine zw 9 true ?_
 refine zh ?_
 refine zU ?_
 refine zh ?_
 refine zU (zl ?_)
 cases h
 exact ⟨rfl, zE⟩
 refine zw 9 false ?_
 refine zg ?_
 refine zg ?_
 refine zg ?_
 refine zg ?_
 obtain ⟨h30, h⟩ := ite_none h
 refine zg ?_
 refine zg ?_
 refine zg ?_
 refine zU ?_
 rcases zI h with ⟨h31, h⟩ | ⟨h31, h⟩
 refine zw 18 true ?_
 refine zh ?_
 refine zU (zl ?_)
 cases h
 exact ⟨rfl, zE⟩
 replace h := h.symm
 refine zw 18 false ?_
 refine zg ?_
 refine zg ?_
 refine zg ?_
 refine zg ?_
 refine zh ?_
 refine zg ?_
 refine zU (zl ?_)
 cases h
 exact ⟨rfl, zE⟩
 try simp only at h
 refine zA (zn ?_)
 obtain ⟨t32, h33, h⟩ := zB h
 refine zJ (fun (o34 : Bool) => tE ⟨Tryz.prog, 44, 74, X, [(6, .arr 65 1 1 [.own 117 1 0 o17.length]), (117, .arr 56 3 1 (List.map AV.p (List.map encCanonical o17)))], i24, w25, False⟩ .normal ⟨[(1, .loc 6 1 0 0), (2, .loc 76 1 0 0), (39, .p (.bool o34))], [(6, .arr 65 1 1 [.own 117 1 0 o17.length]), (76, .arr 56 3 1 [.p (.agg [.int .u32 r22, .int .i64 x20, .int .i64 (-1)])]), (117, .arr 56 3 1 (List.map AV.p (List.map encCanonical o17)))]⟩) t32 ?_ ?_
 replace h := h33
 clear h33
 refine zr ?_
 refine zU ?_
 rcases zI h with ⟨h35, h⟩ | ⟨h35, h⟩
 refine zw 34 false ?_
 refine zh ?_
 refine zU (zl ?_)
 cases h
 exact ⟨rfl, zE⟩
 refine zw 34 true ?_
 refine zg ?_
 refine zg ?_
 obtain ⟨r36, h37, h⟩ := zB h
 replace h := h.symm
 refine zc (slices_Contains_Canonical_con o17 (Canonical.mk r22 x20 (-1)) _ h37) ?_
 refine zg ?_
 refine zU (zl ?_)
 cases h
 exact ⟨rfl, zE⟩
 try simp only at h
 refine zA (zn ?_)
 rcases zI h with ⟨h38, h⟩ | ⟨h38, h⟩
 refine zi (zr ?_)
 obtain ⟨h39, h⟩ := ite_some h
 refine zU (zl ?_)
 refine inlQ_n (by simp only [Tryz.results47]; simp only [go_sem, seval, h19T, h38]; exact rfl) ?_
 refine zl (yn (zn (zr ?_)))
 refine zU (zl ?_)
 cases h
 exact ⟨rfl, zE⟩
 have h38F := Bool.eq_false_iff.2 h38
 refine zj (zk ?_)
 refine inlQ_n (by simp only [Tryz.results47]; simp only [go_sem, seval, h19T, h38F]; exact rfl) ?_
 refine zl (yn (zn (zr ?_)))
 refine zU (zl ?_)
 cases h
 exact ⟨rfl, zE⟩
 have h19T := eq_false h19
 refine zj (zx (ze ?_))
 cases h
 exact ⟨rfl, zE⟩
 try simp only at h
 refine zA (yh (zn (zs (zs (zr ?_)))))
 refine zU (zl (zn (zb ?_)))
 obtain ⟨o40, h41, h⟩ := zB h
 refine zO (fun (s : List Canonical × Int) => ⟨[(4, .p (.slc (List.map (PV.int .i64) r6))), (5, .p (.slc (List.map (PV.int .i64) r8))), (6, .loc 6 1 0 0), (7, .func (.func 47) [.loc 6 1 0 0]), (39, .p (.slc (List.map (PV.int .i64) r6))), (40, .p (.int .i64 (r6.length : Int))), (41, .p (.int .i64 s.2))], [(6, .arr 65 1 1 [.own 117 1 0 s.1.length]), (117, .arr 56 3 1 (List.map AV.p (List.map encCanonical s.1)))]⟩) (fun (o42 : List Canonical) => tE (cX Tryz.f21 X w False) (.exit 2) ⟨[(6, .loc 6 1 0 0)], [(6, .arr 65 1 1 [.own 117 1 0 o42.length]), (117, .arr 56 3 1 (List.map AV.p (List.map encCanonical o42)))]⟩) h41 ?_ ?_
 clear h h4 h5 h7 h9 h11 h13 h15 h41
 intro s x h
 obtain ⟨o43, t44⟩ := s
 simp only [ordering_Canonical_l5] at h
 dsimp only
 refine zs (zr ?_)
 refine zU (zl (zn (zs ?_)))
 rcases zI h with ⟨h45, h⟩ | ⟨h45, h⟩
 refine zi (zk (zn (zs (zb (zs (zr ?_))))))
 obtain ⟨x46, h47, h47a, h47b, h⟩ := zX h
 refine zU (zl (zn (zs (zr ?_))))
 refine zU (zl (zn (zb ?_)))
 obtain ⟨o48, h49, h⟩ := zB h
 refine zO (fun (s : List Canonical × Int) => ⟨[(4, .p (.slc (List.map (PV.int .i64) r6))), (5, .p (.slc (List.map (PV.int .i64) r8))), (6, .loc 6 1 0 0), (7, .func (.func 47) [.loc 6 1 0 0]), (10, .p (.int .i64 t44)), (11, .p (.int .i64 x46)), (39, .p (.slc (List.map (PV.int .i64) r6))), (40, .p (.int .i64 (r6.length : Int))), (41, .p (.int .i64 t44)), (46, .p (.slc (List.map (PV.int .i64) r8))), (47, .p (.int .i64 (r8.length : Int))), (48, .p (.int .i64 s.2))], [(6, .arr 65 1 1 [.own 117 1 0 s.1.length]), (117, .arr 56 3 1 (List.map AV.p (List.map encCanonical s.1)))]⟩) (fun (o50 : List Canonical) => tE (cX Tryz.f21 X w False) (.exit 4) ⟨[(4, .p (.slc (List.map (PV.int .i64) r6))), (5, .p (.slc (List.map (PV.int .i64) r8))), (6, .loc 6 1 0 0), (7, .func (.func 47) [.loc 6 1 0 0]), (39, .p (.slc (List.map (PV.int .i64) r6))), (40, .p (.int .i64 (r6.length : Int))), (41, .p (.int .i64 t44))], [(6, .arr 65 1 1 [.own 117 1 0 o50.length]), (117, .arr 56 3 1 (List.map AV.p (List.map encCanonical o50)))]⟩) h49 ?_ ?_
 clear h h45 h47 h47a h47b h49
 intro s x h
 obtain ⟨o51, t52⟩ := s
 simp only [ordering_Canonical_l4] at h
 dsimp only
 refine zs (zr ?_)
 refine zU (zl (zn (zs ?_)))
 rcases zI h with ⟨h53, h⟩ | ⟨h53, h⟩
 have h53T := eq_true h53
 refine zi (zk (zn (zs (zb (zs (zr ?_))))))
 obtain ⟨x54, h55, h55a, h55b, h⟩ := zX h
 refine zU (zl (zn ?_))
 refine zdl 17 ?_
 obtain ⟨h56, h⟩ := ite_some h
 obtain ⟨h57, h⟩ := ite_some h
 refine yU ?_
 obtain ⟨r58, h59, h⟩ := zB h
 refine yc (ordering_set_con (r6.take (t44.toNat)) _ h59) ?_
 obtain ⟨h60, h⟩ := ite_some h
 obtain ⟨h61, h⟩ := ite_some h
 refine yU ?_
 obtain ⟨r62, h63, h⟩ := zB h
 refine yc (ordering_set_con (r8.take (t52.toNat)) _ h63) ?_
 refine yU ?_
 refine ydl ?_
 refine zM ⟨[(4, .p (.slc (List.map (PV.int .i64) r6))), (5, .p (.slc (List.map (PV.int .i64) r8))), (6, .loc 6 1 0 0), (7, .func (.func 47) [.loc 6 1 0 0]), (10, .p (.int .i64 t44)), (11, .p (.int .i64 x46)), (39, .p (.slc (List.map (PV.int .i64) r6))), (40, .p (.int .i64 (r6.length : Int))), (41, .p (.int .i64 t44)), (46, .p (.slc (List.map (PV.int .i64) r8))), (47, .p (.int .i64 (r8.length : Int))), (48, .p (.int .i64 t52)), (53, .func (.func 47) [.loc 6 1 0 0]), (69, .p (.agg [.int .u32 (IntKind.u32.wrap ((BitVec.ofInt 32 r58 ||| (BitVec.ofInt 32 r62)).toNat : Int)), .int .i64 (if x54 < x46 then x54 else x46), .int .i64 (if x54 > x46 then x54 else x46)]))], [(6, .arr 65 1 1 [.own 117 1 0 o51.length]), (117, .arr 56 3 1 (List.map AV.p (List.map encCanonical o51)))]⟩ ?_
 refine AL_inline (avs := [.p (.agg [.int .u32 (IntKind.u32.wrap ((BitVec.ofInt 32 r58 ||| (BitVec.ofInt 32 r62)).toNat : Int)), .int .i64 (if x54 < x46 then x54 else x46), .int .i64 (if x54 > x46 then x54 else x46)]), .loc 6 1 0 0]) 118 rfl (guard_none rfl) rfl Tryz.func47 rfl Tryz.call47 Tryz.ntmps47 (by simp) (by simp only [go_sem, seval, h53T]; all_goals rfl) ?_
 intro i65 w66
 show AWp _ _ _ ⟨[(0, .p (.agg [.int .u32 (IntKind.u32.wrap ((BitVec.ofInt 32 r58 ||| (BitVec.ofInt 32 r62)).toNat : Int)), .int .i64 (if x54 < x46 then x54 else x46), .int .i64 (if x54 > x46 then x54 else x46)])), (1, .loc 6 1 0 0)], [(6, .arr 65 1 1 [.own 117 1 0 o51.length]), (117, .arr 56 3 1 (List.map AV.p (List.map encCanonical o51)))]⟩
 refine zs (zr ?_)
 refine zU (zl (zn ?_))
 obtain ⟨t67, h68, h⟩ := zB h
 refine zJ (fun (o69 : Bool) => tE ⟨Tryz.prog, 44, 118, X, [(6, .arr 65 1 1 [.own 117 1 0 o51.length]), (117, .arr 56 3 1 (List.map AV.p (List.map encCanonical o51)))], i65, w66, False⟩ .normal ⟨[(1, .loc 6 1 0 0), (2, .loc 120 1 0 0), (3, .p (.bool o69))], [(6, .arr 65 1 1 [.own 117 1 0 o51.length]), (117, .arr 56 3 1 (List.map AV.p (List.map encCanonical o51))), (120, .arr 56 3 1 [.p (.agg [.int .u32 (IntKind.u32.wrap ((BitVec.ofInt 32 r58 ||| (BitVec.ofInt 32 r62)).toNat : Int)), .int .i64 (if x54 < x46 then x54 else x46), .int .i64 (if x54 > x46 then x54 else x46)])])]⟩) t67 ?_ ?_
 replace h := h68
 clear h68
 refine zr ?_
 refine zU ?_
 rcases zI h with ⟨h70, h⟩ | ⟨h70, h⟩
 refine zw 9 true ?_
 refine zh ?_
 refine zU ?_
 refine zh ?_
 refine zU (zl ?_)
 cases h
 exact ⟨rfl, zE⟩
 refine zw 9 false ?_
 refine zg ?_
 refine zg ?_
 refine zg ?_
 refine zg ?_
 obtain ⟨h71, h⟩ := ite_none h
 refine zg ?_
 refine zg ?_
 refine zg ?_
 refine zU ?_
 rcases zI h with ⟨h72, h⟩ | ⟨h72, h⟩
 refine zw 18 true ?_
 refine zh ?_
 refine zU (zl ?_)
 cases h
 exact ⟨rfl, zE⟩
 refine zw 18 false ?_
 refine zg ?_
 refine zg ?_
 refine zg ?_
 refine zg ?_
 rcases zI h with ⟨h73, h⟩ | ⟨h73, h⟩
 refine zw 22 true ?_
 refine zg ?_
 refine zg ?_
 refine zg ?_
 refine zg ?_
 obtain ⟨h74, h⟩ := ite_none h
 replace h := h.symm
 refine zg ?_
 refine zg ?_
 refine zg ?_
 refine zg ?_
 refine zU (zl ?_)
 cases h
 exact ⟨rfl, zE⟩
 replace h := h.symm
 refine zw 22 false ?_
 refine zh ?_
 refine zg ?_
 refine zU (zl ?_)
 cases h
 exact ⟨rfl, zE⟩
 try simp only at h
 refine zA (zn ?_)
 obtain ⟨t75, h76, h⟩ := zB h
 refine zJ (fun (o77 : Bool) => tE ⟨Tryz.prog, 44, 118, X, [(6, .arr 65 1 1 [.own 117 1 0 o51.length]), (117, .arr 56 3 1 (List.map AV.p (List.map encCanonical o51)))], i65, w66, False⟩ .normal ⟨[(1, .loc 6 1 0 0), (2, .loc 120 1 0 0), (39, .p (.bool o77))], [(6, .arr 65 1 1 [.own 117 1 0 o51.length]), (117, .arr 56 3 1 (List.map AV.p (List.map encCanonical o51))), (120, .arr 56 3 1 [.p (.agg [.int .u32 (IntKind.u32.wrap ((BitVec.ofInt 32 r58 ||| (BitVec.ofInt 32 r62)).toNat : Int)), .int .i64 (if x54 < x46 then x54 else x46), .int .i64 (if x54 > x46 then x54 else x46)])])]⟩) t75 ?_ ?_
 replace h := h76
 clear h76
 refine zr ?_
 refine zU ?_
 rcases zI h with ⟨h78, h⟩ | ⟨h78, h⟩
 refine zw 34 false ?_
 refine zh ?_
 refine zU (zl ?_)
 cases h
 exact ⟨rfl, zE⟩
 refine zw 34 true ?_
 refine zg ?_
 refine zg ?_
 obtain ⟨r79, h80, h⟩ := zB h
 replace h := h.symm
 refine zc (slices_Contains_Canonical_con o51 (Canonical.mk (IntKind.u32.wrap ((BitVec.ofInt 32 r58 ||| (BitVec.ofInt 32 r62)).toNat : Int)) (if x54 < x46 then x54 else x46) (if x54 > x46 then x54 else x46)) _ h80) ?_
 refine zg ?_
 refine zU (zl ?_)
 cases h
 exact ⟨rfl, zE⟩
 try simp only at h
 refine zA (zn ?_)
 rcases zI h with ⟨h81, h⟩ | ⟨h81, h⟩
 refine zi (zr ?_)
 obtain ⟨h82, h⟩ := ite_some h
 refine zU (zl ?_)
 refine inlQ_n (by simp only [Tryz.results47]; simp only [go_sem, seval, h53T, h81]; exact rfl) ?_
 refine zl (yn (zn (zr ?_)))
 refine zU (zl ?_)
 cases h
 exact ⟨rfl, zE⟩
 have h81F := Bool.eq_false_iff.2 h81
 refine zj (zk ?_)
 refine inlQ_n (by simp only [Tryz.results47]; simp only [go_sem, seval, h53T, h81F]; exact rfl) ?_
 refine zl (yn (zn (zr ?_)))
 refine zU (zl ?_)
 cases h
 exact ⟨rfl, zE⟩
 have h53T := eq_false h53
 refine zj (zx (ze ?_))
 cases h
 exact ⟨rfl, zE⟩
 try simp only at h
 refine zA (yh (yn (zn (zr ?_))))
 refine zU (zl ?_)
 cases h
 exact ⟨rfl, zE⟩
 refine zj (zx (ze ?_))
 cases h
 exact ⟨rfl, zE⟩
 try simp only at h
 refine zA (yh (zn (zs (zr ?_))))
 refine zU (zl (zn (zq ?_)))
 cases h
 exact zT Tryz.results21
 refine zi (zs (zr ?_))
 refine zU (zl (zn (zq (zt ?_))))
 cases h
 exact zT Tryz.results21
end Go.Proofs.YtimfcgdnogjlhaaGreat
set_option linter.unusedVariables false
set_option linter.unusedSimpArgs false
namespace Go.Proofs.YtimfcgdnogjlhaaGreat
open Go Go.Ab
set_option maxHeartbeats 4000000 in
theorem slices_Equal_Canonical_con {D : Prop} (s1 : List Canonical) (s2 : List Canonical) (r3 : Bool) (h : slices_Equal_Canonical s1 s2 = some r3) : Con D Tryz.prog 22 [(.slc (List.map encCanonical s1)), (.slc (List.map encCanonical s2))] (.bool r3) := by
 refine zP Tryz.call22 Tryz.func22 rfl Tryz.ntmps22 fun X w => ?_
 simp only [slices_Equal_Canonical] at h
 refine zs (zr ?_)
 refine zU (zl (zn (zs (zs (zr ?_)))))
 refine zU (zl (zn ?_))
 rcases zI h with ⟨h4, h⟩ | ⟨h4, h⟩
 refine zi (zs (zr ?_))
 refine zU (zl (zn (zq (zt ?_))))
 cases h
 exact zT Tryz.results22
 refine zj (zk (zn (zs (zs (zr ?_)))))
 refine zU (zl (zn (zb ?_)))
 obtain ⟨o5, h6, h⟩ := zB h
 refine zO (fun (s : Int) => ⟨[(0, .p (.slc (List.map encCanonical s1))), (1, .p (.slc (List.map encCanonical s2))), (12, .p (.int .i64 (s1.length : Int))), (13, .p (.int .i64 s))], []⟩) (fun (o : (Unit) ⊕ (Bool)) => match o with | .inl o7 => tE (cX Tryz.f22 X w D) (.exit 0) ⟨[], []⟩ | .inr o8 => tR Tryz.prog Tryz.f22 (.bool o8)) h6 ?_ ?_
 clear h h4 h6
 intro t9 x h
 simp only [slices_Equal_Canonical_l1] at h
 refine zs (zr ?_)
 refine zU (zl (zn (zs ?_)))
 rcases zI h with ⟨h10, h⟩ | ⟨h10, h⟩
 refine zi (zk (zn (zs (zb (zs (zr ?_))))))
 refine zU (zl (zn (zs (zd ?_))))
 obtain ⟨x11, h12, h12a, h12b, h⟩ := zX h
 obtain ⟨x13, h14, h14a, h14b, h⟩ := zX h
 refine yU ?_
 refine yd (zn ?_)
 rcases zI h with ⟨h15, h⟩ | ⟨h15, h⟩
 refine zj (zk (yn (zn (zr ?_))))
 refine zU (zl ?_)
 cases h
 exact ⟨rfl, zE⟩
 refine zi (zs (zr ?_))
 refine zU (zl (zn (zq (yr (zt ?_)))))
 cases h
 exact ⟨rfl, zT Tryz.results22⟩
 refine zj (zx (ze ?_))
 cases h
 exact ⟨rfl, zE⟩
 rcases o5 with ⟨⟩ | r16
 try simp only at h
 refine zA (yh (zn (zs (zr ?_))))
 refine zU (zl (zn (zq ?_)))
 cases h
 exact zT Tryz.results22
 try simp only at h
 refine zZ fun s hq => ?_
 refine yr (zt ?_)
 cases h
 exact hq
end Go.Proofs.YtimfcgdnogjlhaaGreat
set_option linter.unusedVariables false
set_option linter.unusedSimpArgs false
namespace Go.Proofs.YtimfcgdnogjlhaaGreat
open Go Go.Ab
set_option maxRecDepth 20000 in
set_option maxHeartbeats 4000000 in
theorem drosslaw17_awake_con  (r1 : Bool) (h : drosslaw17_awake = some r1) : Con False Tryz.prog 6 [] (.bool r1) := by
 refine zP Tryz.call6 Tryz.func6 rfl Tryz.ntmps6 fun X w => ?_
 simp only [drosslaw17_awake] at h
 refine zs (zr ?_)
 refine zU (zl (zn (zs (zr ?_))))
 obtain ⟨r2, h3, h⟩ := zB h
 refine zc (drosslaw17_example_con  _ h3) ?_
 refine zU (zl (zn (zs (zr ?_))))
 refine zU ?_
 obtain ⟨r4, h5, h⟩ := zB h
 refine zc (ordering_Holds_con r2 (OD.mk [0] [0]) _ h5) ?_
 refine zU (zl (zn (zs (zr ?_))))
 refine zU ?_
 obtain ⟨r6, h7, h⟩ := zB h
 refine zc (ordering_Violation_con r2 (OD.mk [0] [1]) _ h7) ?_
 refine zU (zl (zn (zs (zr ?_))))
 refine zU ?_
 obtain ⟨r8, h9, h⟩ := zB h
 refine zc (ordering_Violation_con r2 (OD.mk [] [0]) _ h9) ?_
 refine zU (zl (zn (zs (zr ?_))))
 refine zU ?_
 refine zM ⟨[(2, .p (.bool r4.1)), (3, .p (.int .i64 r4.2)), (4, .p (.int .i64 r6.1)), (5, .p (.int .i64 r6.2.1)), (6, .p (.int .i64 r6.2.2.1)), (7, .p (.bool r6.2.2.2)), (8, .p (.int .i64 r8.1)), (9, .p (.int .i64 r8.2.1)), (10, .p (.int .i64 r8.2.2.1)), (11, .p (.bool r8.2.2.2)), (45, .p (.agg [.slc (List.map (PV.int .i64) [0, 1]), .slc (List.map (PV.int .i64) [2, 0])]))], []⟩ ?_
 obtain ⟨r10, h11, h⟩ := zB h
 refine zc (ordering_Canonical_con (OD.mk [0, 1] [2, 0]) _ h11) ?_
 refine zU (zl (zn (zs (zr ?_))))
 refine zU ?_
 rcases zI h with ⟨h12, h⟩ | ⟨h12, h⟩
 refine zw 51 true ?_
 refine zg ?_
 refine zU ?_
 rcases zI h with ⟨h13, h⟩ | ⟨h13, h⟩
 refine zw 54 true ?_
 refine zg ?_
 refine zU ?_
 rcases zI h with ⟨h14, h⟩ | ⟨h14, h⟩
 refine zw 57 true ?_
 refine zg ?_
 refine zg ?_
 refine zU ?_
 rcases zI h with ⟨h15, h⟩ | ⟨h15, h⟩
 refine zw 61 true ?_
 refine zg ?_
 refine zg ?_
 refine zU ?_
 rcases zI h with ⟨h16, h⟩ | ⟨h16, h⟩
 refine zw 65 true ?_
 refine zg ?_
 refine zg ?_
 refine zU ?_
 rcases zI h with ⟨h17, h⟩ | ⟨h17, h⟩
 refine zw 69 true ?_
 refine zg ?_
 refine zU ?_
 rcases zI h with ⟨h18, h⟩ | ⟨h18, h⟩
 refine zw 72 true ?_
 refine zg ?_
 refine zg ?_
 refine zU ?_
 rcases zI h with ⟨h19, h⟩ | ⟨h19, h⟩
 refine zw 76 true ?_
 refine zg ?_
 refine zg ?_
 refine zU ?_
 rcases zI h with ⟨h20, h⟩ | ⟨h20, h⟩
 refine zw 80 true ?_
 refine zg ?_
 refine zg ?_
 refine zU ?_
 rcases zI h with ⟨h21, h⟩ | ⟨h21, h⟩
 refine zw 84 true ?_
 refine zg ?_
 refine zg ?_
 refine zU ?_
 rcases zI h with ⟨h22, h⟩ | ⟨h22, h⟩
 refine zw 88 true ?_
 refine zg ?_
 refine zg ?_
 refine zg ?_
 refine zg ?_
 refine zg ?_
 obtain ⟨r23, h24, h⟩ := zB h
 refine zc (slices_Equal_Canonical_con r10.1 [(Canonical.mk 3 2 (-1)), (Canonical.mk 0 0 2), (Canonical.mk 1 1 2)] _ h24) ?_
 refine zU (zl (zn (zq ?_)))
 cases h
 exact zT Tryz.results6
 refine zw 88 false ?_
 refine zh ?_
 refine zU (zl (zn (zq ?_)))
 cases h
 exact zT Tryz.results6
 refine zw 84 false ?_
 refine zh ?_
 refine zU ?_
 refine zh ?_
 refine zU (zl (zn (zq ?_)))
 cases h
 exact zT Tryz.results6
 refine zw 80 false ?_
 refine zh ?_
 refine zU ?_
 refine zh ?_
 refine zU ?_
 refine zh ?_
 refine zU (zl (zn (zq ?_)))
 cases h
 exact zT Tryz.results6
 refine zw 76 false ?_
 refine zh ?_
 refine zU ?_
 refine zh ?_
 refine zU ?_
 refine zh ?_
 refine zU ?_
 refine zh ?_
 refine zU (zl (zn (zq ?_)))
 cases h
 exact zT Tryz.results6
 refine zw 72 false ?_
 refine zh ?_
 refine zU ?_
 refine zh ?_
 refine zU ?_
 refine zh ?_
 refine zU ?_
 refine zh ?_
 refine zU ?_
 refine zh ?_
 refine zU (zl (zn (zq ?_)))
 cases h
 exact zT Tryz.results6
 refine zw 69 false ?_
 refine zh ?_
 refine zU ?_
 refine zh ?_
 refine zU ?_
 refine zh ?_
 refine zU ?_
 refine zh ?_
 refine zU ?_
 refine zh ?_
 refine zU ?_
 refine zh ?_
 refine zU (zl (zn (zq ?_)))
 cases h
 exact zT Tryz.results6
 refine zw 65 false ?_
 refine zh ?_
 refine zU ?_
 refine zh ?_
 refine zU ?_
 refine zh ?_
 refine zU ?_
 refine zh ?_
 refine zU ?_
 refine zh ?_
 refine zU ?_
 refine zh ?_
 refine zU ?_
 refine zh ?_
 refine zU (zl (zn (zq ?_)))
 cases h
 exact zT Tryz.results6
 refine zw 61 false ?_
 refine zh ?_
 refine zU ?_
 refine zh ?_
 refine zU ?_
 refine zh ?_
 refine zU ?_
 refine zh ?_
 refine zU ?_
 refine zh ?_
 refine zU ?_
 refine zh ?_
 refine zU ?_
 refine zh ?_
 refine zU ?_
 refine zh ?_
 refine zU (zl (zn (zq ?_)))
 cases h
 exact zT Tryz.results6
 refine zw 57 false ?_
 refine zh ?_
 refine zU ?_
 refine zh ?_
 refine zU ?_
 refine zh ?_
 refine zU ?_
 refine zh ?_
 refine zU ?_
 refine zh ?_
 refine zU ?_
 refine zh ?_
 refine zU ?_
 refine zh ?_
 refine zU ?_
 refine zh ?_
 refine zU ?_
 refine zh ?_
 refine zU (zl (zn (zq ?_)))
 cases h
 exact zT Tryz.results6
 refine zw 54 false ?_
 refine zh ?_
 refine zU ?_
 refine zh ?_
 refine zU ?_
 refine zh ?_
 refine zU ?_
 refine zh ?_
 refine zU ?_
 refine zh ?_
 refine zU ?_
 refine zh ?_
 refine zU ?_
 refine zh ?_
 refine zU ?_
 refine zh ?_
 refine zU ?_
 refine zh ?_
 refine zU ?_
 refine zh ?_
 refine zU (zl (zn (zq ?_)))
 cases h
 exact zT Tryz.results6
 refine zw 51 false ?_
 refine zh ?_
 refine zU ?_
 refine zh ?_
 refine zU ?_
 refine zh ?_
 refine zU ?_
 refine zh ?_
 refine zU ?_
 refine zh ?_
 refine zU ?_
 refine zh ?_
 refine zU ?_
 refine zh ?_
 refine zU ?_
 refine zh ?_
 refine zU ?_
 refine zh ?_
 refine zU ?_
 refine zh ?_
 refine zU ?_
 refine zh ?_
 refine zU (zl (zn (zq ?_)))
 cases h
 exact zT Tryz.results6
end Go.Proofs.YtimfcgdnogjlhaaGreat
set_option linter.unusedVariables false
set_option linter.unusedSimpArgs false
namespace Go.Proofs.YtimfcgdnogjlhaaGreat
open Go Go.Ab
set_option maxHeartbeats 4000000 in
theorem drossref17_members_con {D : Prop} (n1 : Int) (l2 : List Int) (r3 : List Int) (h : drossref17_members n1 l2 = some r3) : Con D Tryz.prog 23 [(.int .i64 n1), (.slc (List.map (PV.int .u8) l2))] (.slc (List.map (PV.int .i64) r3)) := by
 refine zP Tryz.call23 Tryz.func23 rfl Tryz.ntmps23 fun X w => ?_
 simp only [drossref17_members] at h
 refine zs (zr ?_)
 refine zU (zl (zn (zs (zr ?_))))
 refine zU (zl (zn (zs (zs (zr ?_)))))
 refine zU (zl (zn (zb ?_)))
 obtain ⟨o4, h5, h⟩ := zB h
 refine zO (fun (s : List Int × Int) => ⟨[(0, .p (.int .i64 n1)), (1, .p (.slc (List.map (PV.int .u8) l2))), (5, .own 30 1 0 s.1.length), (6, .p (.int .i64 s.2))], [(30, .arr 3 1 1 (List.map AV.p (List.map (PV.int .i64) s.1)))]⟩) (fun (o6 : List Int) => tE (cX Tryz.f23 X w D) (.exit 0) ⟨[(5, .own 30 1 0 o6.length)], [(30, .arr 3 1 1 (List.map AV.p (List.map (PV.int .i64) o6)))]⟩) h5 ?_ ?_
 clear h h5
 intro s x h
 obtain ⟨o7, i8⟩ := s
 simp only [drossref17_members_l1] at h
 dsimp only
 refine zs (zs (zr ?_))
 refine zU ?_
 rcases zI h with ⟨h9, h⟩ | ⟨h9, h⟩
 refine zw 11 true ?_
 refine zg ?_
 refine zg ?_
 refine zU ?_
 rcases zI h with ⟨h10, h⟩ | ⟨h10, h⟩
 refine zw 15 true ?_
 refine zg ?_
 refine zg ?_
 refine zU (zl (zn ?_))
 rcases zI h with ⟨h11, h⟩ | ⟨h11, h⟩
 refine zi (zk (zn (zs (zb (zr ?_)))))
 obtain ⟨x12, h13, h13a, h13b, h⟩ := zX h
 obtain ⟨h14, h⟩ := ite_none h
 obtain ⟨h15, h⟩ := ite_some h
 refine zU (zl (yn (zn (zr ?_))))
 refine zU (zl ?_)
 cases h
 exact ⟨rfl, zE⟩
 refine zj (zx (ze ?_))
 cases h
 exact ⟨rfl, zE⟩
 refine zw 15 false ?_
 refine zh ?_
 refine zU (zl (zn ?_))
 refine zj (zx (ze ?_))
 cases h
 exact ⟨rfl, zE⟩
 refine zw 11 false ?_
 refine zh ?_
 refine zU ?_
 refine zh ?_
 refine zU (zl (zn ?_))
 refine zj (zx (ze ?_))
 cases h
 exact ⟨rfl, zE⟩
 try simp only at h
 refine zA (yh (zn (zs (zr ?_))))
 refine zU (zl (zn (zq ?_)))
 cases h
 exact zT Tryz.results23
end Go.Proofs.YtimfcgdnogjlhaaGreat
set_option linter.unusedVariables false
set_option linter.unusedSimpArgs false
namespace Go.Proofs.YtimfcgdnogjlhaaGreat
open Go Go.Ab
set_option maxRecDepth 20000 in
set_option maxHeartbeats 4000000 in
theorem drossref17_Of_con {D : Prop} (n1 : Int) (x2 : Drossref17_Lists) (r3 : OD) (h : drossref17_Of n1 x2 = some r3) : Con D Tryz.prog 7 [(.int .i64 n1), (encDrossref17_Lists x2)] (encOD r3) := by
 refine zP Tryz.call7 Tryz.func7 rfl Tryz.ntmps7 fun X w => ?_
 simp only [drossref17_Of] at h
 refine zs (zr ?_)
 refine zU (zl (zn (zs (zd ?_))))
 refine yU ?_
 obtain ⟨r4, h5, h⟩ := zB h
 refine yc (drossref17_members_con n1 x2.X _ h5) ?_
 refine yU ?_
 obtain ⟨r6, h7, h⟩ := zB h
 refine yc (drossref17_members_con n1 x2.Y _ h7) ?_
 refine yU ?_
 refine yd (zn (zq ?_))
 cases h
 exact zT Tryz.results7
end Go.Proofs.YtimfcgdnogjlhaaGreat
set_option linter.unusedVariables false
set_option linter.unusedSimpArgs false
namespace Go.Proofs.YtimfcgdnogjlhaaGreat
open Go Go.Ab
set_option maxHeartbeats 4000000 in
theorem ordering_Sorted_1_con {D : Prop} (n1 : Int) (c2 : List Int) (r3 : Bool) (h : ordering_Sorted_1 n1 c2 = some r3) : Con D Tryz.prog 25 [(.int .i64 n1), .imm [.slc (List.map (PV.int .i64) c2)]] (.bool r3) := by
 refine zP Tryz.call25 Tryz.func25 rfl Tryz.ntmps25 fun X w => ?_
 simp only [ordering_Sorted_1] at h
 refine zs (zr ?_)
 refine zU (zl (zn (zs (zr ?_))))
 refine zU ?_
 obtain ⟨r4, h5, h⟩ := zB h
 refine zc (ordering_list_con n1 c2 _ h5) ?_
 refine zU (zl (zn (zq ?_)))
 cases h
 exact zT Tryz.results25
end Go.Proofs.YtimfcgdnogjlhaaGreat
set_option linter.unusedVariables false
set_option linter.unusedSimpArgs false
namespace Go.Proofs.YtimfcgdnogjlhaaGreat
open Go Go.Ab
set_option maxHeartbeats 4000000 in
theorem slices_SortedFunc_Row_con (s1 : List Row) (c2 : Row → Row → Option (Int)) (c2_k : FuncId) (c2_cs : List PV) (c2_h : ∀ (y3 : Row) (y4 : Row) (r5 : Int), c2 y3 y4 = some r5 → Con True Tryz.prog c2_k ((encRow y3) :: (encRow y4) :: c2_cs) (.int .i64 r5)) (r6 : List Row) (h : slices_SortedFunc_Row s1 c2 = some r6) : Con False Tryz.prog 27 [(.func (.func 57) [.imm [.slc (List.map encRow s1)]]), .func (.func c2_k) c2_cs] (.slc (List.map encRow r6)) := by
 refine zP Tryz.call27 Tryz.func27 rfl Tryz.ntmps27 fun X w => ?_
 simp only [slices_SortedFunc_Row] at h
 refine zs (zr ?_)
 refine zU (zl (zn (zs (zr ?_))))
 refine zU ?_
 obtain ⟨h7, h⟩ := ite_some h
 refine zQg coll55 7 encRow s1 h7 ?_
 refine zU (zl (zn (zs (zr ?_))))
 refine zU ?_
 refine zM ⟨[(5, .own 7 1 0 s1.length), (8, .own 7 1 0 s1.length), (9, .p (.func (.func c2_k) c2_cs))], [(7, .arr 51 2 1 (List.map AV.p (List.map encRow s1)))]⟩ ?_
 obtain ⟨l8, h9, h⟩ := zB h
 refine zSQ srt56 encRow c2 h9 (fun x y r h => c2_h x y r h) ?_
 have h10 := srtF_len h9
 refine zM ⟨[(5, .own 7 1 0 l8.length), (10, .p (.tup []))], [(7, .arr 51 2 1 (List.map AV.p (List.map encRow l8)))]⟩ ?_
 clear h10
 refine zl (zn (zs (zr ?_)))
 refine zU (zl (zn (zq ?_)))
 cases h
 exact zT Tryz.results27
end Go.Proofs.YtimfcgdnogjlhaaGreat
set_option linter.unusedVariables false
set_option linter.unusedSimpArgs false
namespace Go.Proofs.YtimfcgdnogjlhaaGreat
open Go Go.Ab
set_option maxHeartbeats 4000000 in
theorem slices_Values_Row_con {D : Prop} (l : List Row) (r : List Row) (h : slices_Values_Row l = some r) : Con D Tryz.prog 28 [(.slc (List.map encRow l))] (.func (.func 57) [.imm [.slc (List.map encRow r)]]) := by
 cases h
 refine zP Tryz.call28 Tryz.func28 rfl Tryz.ntmps28 fun X w => ?_
 refine zs (zr ?_)
 refine zU (zl (zn (zs (zr ?_))))
 refine zU (zl (zn (zq ?_)))
 exact zT Tryz.results28
end Go.Proofs.YtimfcgdnogjlhaaGreat
set_option linter.unusedVariables false
set_option linter.unusedSimpArgs false
namespace Go.Proofs.YtimfcgdnogjlhaaGreat
open Go Go.Ab
set_option maxRecDepth 20000 in
set_option maxHeartbeats 4000000 in
theorem ordering_Sorted_2_con {D : Prop} (a1 : Row) (b2 : Row) (c3 : List Int) (r4 : Int) (h : ordering_Sorted_2 a1 b2 c3 = some r4) : Con D Tryz.prog 29 [(encRow a1), (encRow b2), .imm [.slc (List.map (PV.int .i64) c3)]] (.int .i64 r4) := by
 refine zP Tryz.call29 Tryz.func29 rfl Tryz.ntmps29 fun X w => ?_
 simp only [ordering_Sorted_2] at h
 refine zs (zr ?_)
 refine zU (zl (zn (zs (zd ?_))))
 refine yU ?_
 obtain ⟨r5, h6, h⟩ := zB h
 refine yc (ordering_compare_con a1 b2 c3 _ h6) ?_
 refine yU ?_
 obtain ⟨r7, h8, h⟩ := zB h
 refine yc (cmp_Compare_int64_con a1.ID b2.ID _ h8) ?_
 refine yU ?_
 obtain ⟨r9, h10, h⟩ := zB h
 refine yc (cmp_Or_int_con [r5, r7] _ h10) ?_
 refine yU ?_
 refine yd (zn (zq ?_))
 cases h
 exact zT Tryz.results29
end Go.Proofs.YtimfcgdnogjlhaaGreat
set_option linter.unusedVariables false
set_option linter.unusedSimpArgs false
namespace Go.Proofs.YtimfcgdnogjlhaaGreat
open Go Go.Ab
set_option maxHeartbeats 4000000 in
theorem ordering_Sorted_con (t1 : Table) (l2 : List Int) (r3 : List Int × Int) (h : ordering_Sorted t1 l2 = some r3) : Con False Tryz.prog 8 [(encTable t1), (.slc (List.map (PV.int .i64) l2))] (.tup [(.slc (List.map (PV.int .i64) r3.1)), (.int .i64 r3.2)]) := by
 refine zP Tryz.call8 Tryz.func8 rfl Tryz.ntmps8 fun X w => ?_
 simp only [ordering_Sorted] at h
 refine zs (zr ?_)
 refine zU (zl (zn (zs (zs (zr ?_)))))
 refine zU ?_
 obtain ⟨r4, h5, h⟩ := zB h
 refine zc (ordering_check_con t1 (fun (y6 : Int) => ordering_Sorted_1 y6 l2) 25 [.imm [.slc (List.map (PV.int .i64) l2)]] (fun y6 r h => ordering_Sorted_1_con y6 l2 r h) _ h5) ?_
 refine zU (zl (zn (zs (zr ?_))))
 refine zU (zl (zn ?_))
 rcases zI h with ⟨h7, h⟩ | ⟨h7, h⟩
 refine zi (zs (zr ?_))
 refine zU (zl (zn (zq (zt ?_))))
 cases h
 exact zT Tryz.results8
 refine zj (zk (zn (zs (zr ?_))))
 refine zU ?_
 obtain ⟨r8, h9, h⟩ := zB h
 refine zc (slices_Values_Row_con t1.Rows _ h9) ?_
 refine zU ?_
 refine zM ⟨[(19, .p (.func (.func 57) [.imm [.slc (List.map encRow r8)]])), (20, .p (.func (.func 29) [.imm [.slc (List.map (PV.int .i64) l2)]]))], []⟩ ?_
 obtain ⟨r10, h11, h⟩ := zB h
 refine zc (slices_SortedFunc_Row_con r8 (fun (y12 : Row) (y13 : Row) => ordering_Sorted_2 y12 y13 l2) 29 [.imm [.slc (List.map (PV.int .i64) l2)]] (fun y12 y13 r h => ordering_Sorted_2_con y12 y13 l2 r h) _ h11) ?_
 refine zU (zl (zn (zs (zr ?_))))
 refine zU (zl (zn (zs (zs (zr ?_)))))
 refine zU (zl (zn (zb ?_)))
 obtain ⟨o14, h15, h⟩ := zB h
 refine zO (fun (s : List Int × Int) => ⟨[(8, .own 32 1 0 s.1.length), (22, .p (.slc (List.map encRow r10))), (23, .p (.int .i64 (r10.length : Int))), (24, .p (.int .i64 s.2))], [(32, .arr 2 1 1 (List.map AV.p (List.map (PV.int .i64) s.1)))]⟩) (fun (o16 : List Int) => tE (cX Tryz.f8 X w False) (.exit 0) ⟨[(8, .own 32 1 0 o16.length)], [(32, .arr 2 1 1 (List.map AV.p (List.map (PV.int .i64) o16)))]⟩) h15 ?_ ?_
 clear h h5 h7 h9 h11 h15
 intro s x h
 obtain ⟨o17, t18⟩ := s
 simp only [ordering_Sorted_l1] at h
 dsimp only
 refine zs (zr ?_)
 refine zU (zl (zn (zs ?_)))
 rcases zI h with ⟨h19, h⟩ | ⟨h19, h⟩
 refine zi (zk (zn (zs (zb (zs (zr ?_))))))
 obtain ⟨x20, h21, h21a, h21b, h⟩ := zX h
 refine zU (zl (zn (zr ?_)))
 obtain ⟨h22, h⟩ := ite_some h
 refine zU (zl (yn (zn (zr ?_))))
 refine zU (zl ?_)
 cases h
 exact ⟨rfl, zE⟩
 refine zj (zx (ze ?_))
 cases h
 exact ⟨rfl, zE⟩
 try simp only at h
 refine zA (yh (zn (zs (zr ?_))))
 refine zU (zl (zn (zq ?_)))
 cases h
 exact zT Tryz.results8
end Go.Proofs.YtimfcgdnogjlhaaGreat
set_option linter.unusedVariables false
set_option linter.unusedSimpArgs false
namespace Go.Proofs.YtimfcgdnogjlhaaGreat
open Go Go.Ab
set_option maxHeartbeats 4000000 in
theorem drossref01_sign_con {D : Prop} (a1 : Int) (b2 : Int) (r3 : Int) (h : drossref01_sign a1 b2 = some r3) : Con D Tryz.prog 59 [(.int .i64 a1), (.int .i64 b2)] (.int .i64 r3) := by
 refine zP Tryz.call59 Tryz.func59 rfl Tryz.ntmps59 fun X w => ?_
 simp only [drossref01_sign] at h
 refine zs (zr ?_)
 refine zU (zl (zn (zs (zs (zr ?_)))))
 refine zU (zl (zn ?_))
 rcases zI h with ⟨h4, h⟩ | ⟨h4, h⟩
 refine zi (zs (zr ?_))
 refine zU (zl (zn (zq (zt ?_))))
 cases h
 exact zT Tryz.results59
 refine zj (zk (zn (zs (zs (zr ?_)))))
 refine zU (zl (zn ?_))
 rcases zI h with ⟨h5, h⟩ | ⟨h5, h⟩
 refine zi (zs (zr ?_))
 refine zU (zl (zn (zq (zt ?_))))
 cases h
 exact zT Tryz.results59
 refine zj (zk (zn (zs (zr ?_))))
 refine zU (zl (zn (zq ?_)))
 cases h
 exact zT Tryz.results59
end Go.Proofs.YtimfcgdnogjlhaaGreat
set_option linter.unusedVariables false
set_option linter.unusedSimpArgs false
namespace Go.Proofs.YtimfcgdnogjlhaaGreat
open Go Go.Ab
set_option maxRecDepth 20000 in
set_option maxHeartbeats 4000000 in
theorem drossref01_strings_con {D : Prop} (a1 : List UInt8) (b2 : List UInt8) (r3 : Int) (h : drossref01_strings a1 b2 = some r3) : Con D Tryz.prog 60 [(.str a1), (.str b2)] (.int .i64 r3) := by
 refine zP Tryz.call60 Tryz.func60 rfl Tryz.ntmps60 fun X w => ?_
 simp only [drossref01_strings] at h
 refine zs (zr ?_)
 refine zU (zl (zn (zs (zs (zr ?_)))))
 refine zU (zl (zn (zb ?_)))
 obtain ⟨o4, h5, h⟩ := zB h
 refine zO (fun (s : Int) => ⟨[(0, .p (.str a1)), (1, .p (.str b2)), (5, .p (.int .i64 s))], []⟩) (fun (o : (Unit) ⊕ (Int)) => match o with | .inl o6 => tE (cX Tryz.f60 X w D) (.exit 0) ⟨[(0, .p (.str a1)), (1, .p (.str b2))], []⟩ | .inr o7 => tR Tryz.prog Tryz.f60 (.int .i64 o7)) h5 ?_ ?_
 clear h h5
 intro i8 x h
 simp only [drossref01_strings_l1] at h
 refine zs (zs (zr ?_))
 refine zU ?_
 rcases zI h with ⟨h9, h⟩ | ⟨h9, h⟩
 refine zw 10 true ?_
 refine zg ?_
 refine zg ?_
 refine zg ?_
 refine zg ?_
 refine zU (zl (zn ?_))
 rcases zI h with ⟨h10, h⟩ | ⟨h10, h⟩
 refine zi (zk (zn (zs (zb (zs (zd ?_))))))
 obtain ⟨c11, h12, h12a, h12b, h⟩ := zX h
 obtain ⟨c13, h14, h14a, h14b, h⟩ := zX h
 refine yU ?_
 refine yd (zn ?_)
 rcases zI h with ⟨h15, h⟩ | ⟨h15, h⟩
 refine zi (zs (zd ?_))
 refine yU ?_
 obtain ⟨r16, h17, h⟩ := zB h
 refine yc (drossref01_sign_con (IntKind.i64.wrap ((c11.toNat : Nat) : Int)) (IntKind.i64.wrap ((c13.toNat : Nat) : Int)) _ h17) ?_
 refine yU ?_
 refine yd (zn (zq (yr (zt ?_))))
 cases h
 exact ⟨rfl, zT Tryz.results60⟩
 refine zj (zk (yn (zn (zr ?_))))
 refine zU (zl ?_)
 cases h
 exact ⟨rfl, zE⟩
 refine zj (zx (ze ?_))
 cases h
 exact ⟨rfl, zE⟩
 refine zw 10 false ?_
 refine zh ?_
 refine zU (zl (zn ?_))
 refine zj (zx (ze ?_))
 cases h
 exact ⟨rfl, zE⟩
 rcases o4 with ⟨⟩ | r18
 try simp only at h
 refine zA (yh (zn (zs (zr ?_))))
 refine zU ?_
 obtain ⟨r19, h20, h⟩ := zB h
 refine zc (drossref01_sign_con (a1.length : Int) (b2.length : Int) _ h20) ?_
 refine zU (zl (zn (zq ?_)))
 cases h
 exact zT Tryz.results60
 try simp only at h
 refine zZ fun s hq => ?_
 refine yr (zt ?_)
 cases h
 exact hq
end Go.Proofs.YtimfcgdnogjlhaaGreat
set_option linter.unusedVariables false
set_option linter.unusedSimpArgs false
namespace Go.Proofs.YtimfcgdnogjlhaaGreat
open Go Go.Ab
set_option maxHeartbeats 4000000 in
theorem drossref01_Compare_con {D : Prop} (a1 : Value) (b2 : Value) (r3 : Int) (h : drossref01_Compare a1 b2 = some r3) : Con D Tryz.prog 35 [(encValue a1), (encValue b2)] (.int .i64 r3) := by
 refine zP Tryz.call35 Tryz.func35 rfl Tryz.ntmps35 fun X w => ?_
 simp only [drossref01_Compare] at h
 refine zs (zr ?_)
 refine zU (zl (zn (zs (zs (zr ?_)))))
 refine zU ?_
 obtain ⟨r4, h5, h⟩ := zB h
 refine zc (drossref01_sign_con a1.Kind b2.Kind _ h5) ?_
 refine zU (zl (zn (zs (zr ?_))))
 refine zU (zl (zn ?_))
 rcases zI h with ⟨h6, h⟩ | ⟨h6, h⟩
 refine zi (zs (zr ?_))
 refine zU (zl (zn (zq (zt ?_))))
 cases h
 exact zT Tryz.results35
 refine zj (zk (zn (zs (zs (zr ?_)))))
 refine zU ?_
 obtain ⟨r7, h8, h⟩ := zB h
 refine zc (drossref01_sign_con a1.Num b2.Num _ h8) ?_
 refine zU (zl (zn (zs (zr ?_))))
 refine zU (zl (zn ?_))
 rcases zI h with ⟨h9, h⟩ | ⟨h9, h⟩
 refine zi (zs (zr ?_))
 refine zU (zl (zn (zq (zt ?_))))
 cases h
 exact zT Tryz.results35
 refine zj (zk (zn (zs (zr ?_))))
 refine zU ?_
 obtain ⟨r10, h11, h⟩ := zB h
 refine zc (drossref01_strings_con a1.Str b2.Str _ h11) ?_
 refine zU (zl (zn (zq ?_)))
 cases h
 exact zT Tryz.results35
end Go.Proofs.YtimfcgdnogjlhaaGreat
set_option linter.unusedVariables false
set_option linter.unusedSimpArgs false
namespace Go.Proofs.YtimfcgdnogjlhaaGreat
open Go Go.Ab
set_option maxRecDepth 20000 in
set_option maxHeartbeats 4000000 in
theorem drossref17_Compare_con {D : Prop} (a1 : Row) (b2 : Row) (l3 : List Int) (r4 : Int) (h : drossref17_Compare a1 b2 l3 = some r4) : Con D Tryz.prog 13 [(encRow a1), (encRow b2), (.slc (List.map (PV.int .i64) l3))] (.int .i64 r4) := by
 refine zP Tryz.call13 Tryz.func13 rfl Tryz.ntmps13 fun X w => ?_
 simp only [drossref17_Compare] at h
 refine zs (zr ?_)
 refine zU (zl (zn (zs (zs (zr ?_)))))
 refine zU (zl (zn (zb ?_)))
 obtain ⟨o5, h6, h⟩ := zB h
 refine zO (fun (s : Int) => ⟨[(2, .p (.slc (List.map (PV.int .i64) l3))), (3, .loc 3 1 0 0), (4, .loc 4 1 0 0), (7, .p (.int .i64 s))], [(3, .arr 51 2 1 [.p (encRow a1)]), (4, .arr 51 2 1 [.p (encRow b2)])]⟩) (fun (o : (Unit) ⊕ (Int)) => match o with | .inl o7 => tE (cX Tryz.f13 X w D) (.exit 0) ⟨[], []⟩ | .inr o8 => tR Tryz.prog Tryz.f13 (.int .i64 o8)) h6 ?_ ?_
 clear h h6
 intro i9 x h
 simp only [drossref17_Compare_l1] at h
 refine zs (zs (zr ?_))
 refine zU (zl (zn ?_))
 rcases zI h with ⟨h10, h⟩ | ⟨h10, h⟩
 refine zi (zk (zn (zs (zb (zs (zd ?_))))))
 obtain ⟨x11, h12, h12a, h12b, h⟩ := zX h
 obtain ⟨x13, h14, h14a, h14b, h⟩ := zX h
 obtain ⟨x15, h16, h16a, h16b, h⟩ := zX h
 refine yU ?_
 obtain ⟨r17, h18, h⟩ := zB h
 refine yc (drossref01_Compare_con x13 x15 _ h18) ?_
 refine yU ?_
 refine yd (zn (zs (zr ?_)))
 refine zU (zl (zn ?_))
 rcases zI h with ⟨h19, h⟩ | ⟨h19, h⟩
 refine zi (zs (zr ?_))
 refine zU (zl (zn (zq (yr (zt ?_)))))
 cases h
 exact ⟨rfl, zT Tryz.results13⟩
 refine zj (zk (yn (zn (zr ?_))))
 refine zU (zl ?_)
 cases h
 exact ⟨rfl, zE⟩
 refine zj (zx (ze ?_))
 cases h
 exact ⟨rfl, zE⟩
 rcases o5 with ⟨⟩ | r20
 try simp only at h
 refine zA (yh (zn (zs (zr ?_))))
 refine zU (zl (zn (zq ?_)))
 cases h
 exact zT Tryz.results13
 try simp only at h
 refine zZ fun s hq => ?_
 refine yr (zt ?_)
 cases h
 exact hq
end Go.Proofs.YtimfcgdnogjlhaaGreat
set_option linter.unusedVariables false
set_option linter.unusedSimpArgs false
namespace Go.Proofs.YtimfcgdnogjlhaaGreat
open Go Go.Ab
set_option maxRecDepth 20000 in
set_option maxHeartbeats 4000000 in
theorem drossref03_letter_con {D : Prop} (c1 : Int) (r2 : Bool) (h : drossref03_letter c1 = some r2) : Con D Tryz.prog 85 [(.int .u8 c1)] (.bool r2) := by
 refine zP Tryz.call85 Tryz.func85 rfl Tryz.ntmps85 fun X w => ?_
 simp only [drossref03_letter] at h
 refine zs (zr ?_)
 refine zU (zl (zn (zs (zr ?_))))
 refine zU ?_
 rcases zI h with ⟨h3, h⟩ | ⟨h3, h⟩
 refine zw 5 true ?_
 refine zg ?_
 refine zg ?_
 refine zU ?_
 rcases zI h with ⟨h4, h⟩ | ⟨h4, h⟩
 refine zw 9 true ?_
 refine zh ?_
 refine zU ?_
 refine zh ?_
 refine zU (zl (zn (zq ?_)))
 cases h
 exact zT Tryz.results85
 refine zw 9 false ?_
 refine zg ?_
 refine zg ?_
 refine zg ?_
 rcases zI h with ⟨h5, h⟩ | ⟨h5, h⟩
 refine zw 12 true ?_
 refine zg ?_
 refine zg ?_
 refine zg ?_
 refine zU ?_
 rcases zI h with ⟨h6, h⟩ | ⟨h6, h⟩
 refine zw 17 true ?_
 refine zh ?_
 refine zU (zl (zn (zq ?_)))
 cases h
 exact zT Tryz.results85
 replace h := h.symm
 refine zw 17 false ?_
 refine zg ?_
 refine zg ?_
 refine zU (zl (zn (zq ?_)))
 cases h
 exact zT Tryz.results85
 replace h := h.symm
 refine zw 12 false ?_
 refine zh ?_
 refine zg ?_
 refine zU ?_
 refine zg ?_
 refine zg ?_
 refine zU (zl (zn (zq ?_)))
 cases h
 exact zT Tryz.results85
 refine zw 5 false ?_
 refine zh ?_
 refine zU ?_
 refine zg ?_
 refine zg ?_
 refine zg ?_
 rcases zI h with ⟨h7, h⟩ | ⟨h7, h⟩
 refine zw 12 true ?_
 refine zg ?_
 refine zg ?_
 refine zg ?_
 refine zU ?_
 rcases zI h with ⟨h8, h⟩ | ⟨h8, h⟩
 refine zw 17 true ?_
 refine zh ?_
 refine zU (zl (zn (zq ?_)))
 cases h
 exact zT Tryz.results85
 replace h := h.symm
 refine zw 17 false ?_
 refine zg ?_
 refine zg ?_
 refine zU (zl (zn (zq ?_)))
 cases h
 exact zT Tryz.results85
 replace h := h.symm
 refine zw 12 false ?_
 refine zh ?_
 refine zg ?_
 refine zU ?_
 refine zg ?_
 refine zg ?_
 refine zU (zl (zn (zq ?_)))
 cases h
 exact zT Tryz.results85
end Go.Proofs.YtimfcgdnogjlhaaGreat
set_option linter.unusedVariables false
set_option linter.unusedSimpArgs false
namespace Go.Proofs.YtimfcgdnogjlhaaGreat
open Go Go.Ab
set_option maxRecDepth 20000 in
set_option maxHeartbeats 4000000 in
theorem drossref03_Name_con {D : Prop} (s1 : List UInt8) (r2 : Bool) (h : drossref03_Name s1 = some r2) : Con D Tryz.prog 63 [(.str s1)] (.bool r2) := by
 refine zP Tryz.call63 Tryz.func63 rfl Tryz.ntmps63 fun X w => ?_
 simp only [drossref03_Name] at h
 refine zs (zr ?_)
 refine zU (zl (zn (zs (zs (zr ?_)))))
 refine zU ?_
 rcases zI h with ⟨h3, h⟩ | ⟨h3, h⟩
 refine zw 7 true ?_
 refine zh ?_
 refine zU ?_
 refine zh ?_
 refine zU ?_
 refine zh ?_
 refine zU (zl (zn ?_))
 refine zi (zs (zr ?_))
 refine zU (zl (zn (zq (zt ?_))))
 cases h
 exact zT Tryz.results63
 refine zw 7 false ?_
 refine zg ?_
 refine zg ?_
 refine zg ?_
 refine zU ?_
 rcases zI h with ⟨h4, h⟩ | ⟨h4, h⟩
 refine zw 12 true ?_
 refine zh ?_
 refine zU ?_
 refine zh ?_
 refine zU (zl (zn ?_))
 refine zi (zs (zr ?_))
 refine zU (zl (zn (zq (zt ?_))))
 cases h
 exact zT Tryz.results63
 refine zw 12 false ?_
 refine zg ?_
 obtain ⟨c5, h6, h6l, h6L, h⟩ := zY 0 h
 refine zg ?_
 obtain ⟨r7, h8, h⟩ := zB h
 refine zc (drossref03_letter_con ((c5.toNat : Nat) : Int) _ h8) ?_
 refine zg ?_
 refine zU ?_
 rcases zI h with ⟨h9, h⟩ | ⟨h9, h⟩
 refine zw 18 false ?_
 refine zg ?_
 refine zg ?_
 refine zU (zl (zn ?_))
 rcases zI h with ⟨h10, h⟩ | ⟨h10, h⟩
 refine zi (zs (zr ?_))
 refine zU (zl (zn (zq (zt ?_))))
 cases h
 exact zT Tryz.results63
 refine zj (zk (zn (zs (zs (zr ?_)))))
 refine zU (zl (zn (zb ?_)))
 obtain ⟨o11, h12, h⟩ := zB h
 refine zO (fun (s : Int) => ⟨[(0, .p (.str s1)), (3, .p (.int .i64 s))], []⟩) (fun (o : (Unit) ⊕ (Bool)) => match o with | .inl o13 => tE (cX Tryz.f63 X w D) (.exit 0) ⟨[], []⟩ | .inr o14 => tR Tryz.prog Tryz.f63 (.bool o14)) h12 ?_ ?_
 clear h h3 h4 h6 h6l h6L h8 h9 h10 h12
 intro i15 x h
 simp only [drossref03_Name_l1] at h
 refine zs (zs (zr ?_))
 refine zU (zl (zn ?_))
 rcases zI h with ⟨h16, h⟩ | ⟨h16, h⟩
 refine zi (zk (zn (zs (zb (zs (zr ?_))))))
 obtain ⟨c17, h18, h18a, h18b, h⟩ := zX h
 refine zU ?_
 obtain ⟨r19, h20, h⟩ := zB h
 refine zc (drossref03_letter_con ((c17.toNat : Nat) : Int) _ h20) ?_
 refine zU ?_
 rcases zI h with ⟨h21, h⟩ | ⟨h21, h⟩
 refine zw 33 false ?_
 refine zh ?_
 refine zU (zl (zn ?_))
 refine zj (zk (yn (zn (zr ?_))))
 refine zU (zl ?_)
 cases h
 exact ⟨rfl, zE⟩
 refine zw 33 true ?_
 refine zg ?_
 refine zg ?_
 refine zg ?_
 refine zg ?_
 refine zg ?_
 rcases zI h with ⟨h22, h⟩ | ⟨h22, h⟩
 replace h := h.symm
 refine zw 38 true ?_
 refine zh ?_
 refine zg ?_
 refine zU (zl (zn ?_))
 refine zi (zs (zr ?_))
 refine zU (zl (zn (zq (yr (zt ?_)))))
 cases h
 exact ⟨rfl, zT Tryz.results63⟩
 refine zw 38 false ?_
 refine zg ?_
 refine zg ?_
 refine zg ?_
 refine zg ?_
 refine zg ?_
 refine zU (zl (zn ?_))
 rcases zI h with ⟨h23, h⟩ | ⟨h23, h⟩
 refine zi (zs (zr ?_))
 refine zU (zl (zn (zq (yr (zt ?_)))))
 cases h
 exact ⟨rfl, zT Tryz.results63⟩
 refine zj (zk (yn (zn (zr ?_))))
 refine zU (zl ?_)
 cases h
 exact ⟨rfl, zE⟩
 refine zj (zx (ze ?_))
 cases h
 exact ⟨rfl, zE⟩
 rcases o11 with ⟨⟩ | r24
 try simp only at h
 refine zA (yh (zn (zs (zr ?_))))
 refine zU (zl (zn (zq ?_)))
 cases h
 exact zT Tryz.results63
 try simp only at h
 refine zZ fun s hq => ?_
 refine yr (zt ?_)
 cases h
 exact hq
 refine zw 18 true ?_
 refine zh ?_
 refine zU (zl (zn ?_))
 refine zi (zs (zr ?_))
 refine zU (zl (zn (zq (zt ?_))))
 cases h
 exact zT Tryz.results63
end Go.Proofs.YtimfcgdnogjlhaaGreat
set_option linter.unusedVariables false
set_option linter.unusedSimpArgs false
namespace Go.Proofs.YtimfcgdnogjlhaaGreat
open Go Go.Ab
set_option maxHeartbeats 4000000 in
theorem drossref03_Attr_con {D : Prop} (l1 : List (List UInt8)) (n2 : List UInt8) (r3 : Int) (h : drossref03_Attr l1 n2 = some r3) : Con D Tryz.prog 86 [(.slc (List.map PV.str l1)), (.str n2)] (.int .i64 r3) := by
 refine zP Tryz.call86 Tryz.func86 rfl Tryz.ntmps86 fun X w => ?_
 simp only [drossref03_Attr] at h
 refine zs (zr ?_)
 refine zU (zl (zn (zs (zs (zr ?_)))))
 refine zU (zl (zn (zb ?_)))
 obtain ⟨o4, h5, h⟩ := zB h
 refine zO (fun (s : Int) => ⟨[(0, .p (.slc (List.map PV.str l1))), (1, .p (.str n2)), (5, .p (.int .i64 s))], []⟩) (fun (o : (Unit) ⊕ (Int)) => match o with | .inl o6 => tE (cX Tryz.f86 X w D) (.exit 0) ⟨[], []⟩ | .inr o7 => tR Tryz.prog Tryz.f86 (.int .i64 o7)) h5 ?_ ?_
 clear h h5
 intro i8 x h
 simp only [drossref03_Attr_l1] at h
 refine zs (zs (zr ?_))
 refine zU (zl (zn ?_))
 rcases zI h with ⟨h9, h⟩ | ⟨h9, h⟩
 refine zi (zk (zn (zs (zb (zs (zr ?_))))))
 obtain ⟨x10, h11, h11a, h11b, h⟩ := zX h
 refine zU (zl (zn ?_))
 rcases zI h with ⟨h12, h⟩ | ⟨h12, h⟩
 refine zi (zs (zr ?_))
 refine zU (zl (zn (zq (yr (zt ?_)))))
 cases h
 exact ⟨rfl, zT Tryz.results86⟩
 refine zj (zk (yn (zn (zr ?_))))
 refine zU (zl ?_)
 cases h
 exact ⟨rfl, zE⟩
 refine zj (zx (ze ?_))
 cases h
 exact ⟨rfl, zE⟩
 rcases o4 with ⟨⟩ | r13
 try simp only at h
 refine zA (yh (zn (zs (zr ?_))))
 refine zU (zl (zn (zq ?_)))
 cases h
 exact zT Tryz.results86
 try simp only at h
 refine zZ fun s hq => ?_
 refine yr (zt ?_)
 cases h
 exact hq
end Go.Proofs.YtimfcgdnogjlhaaGreat
set_option linter.unusedVariables false
set_option linter.unusedSimpArgs false
namespace Go.Proofs.YtimfcgdnogjlhaaGreat
open Go Go.Ab
set_option maxRecDepth 20000 in
set_option maxHeartbeats 4000000 in
theorem drossref03_Names_con {D : Prop} (l1 : List (List UInt8)) (r2 : Bool) (h : drossref03_Names l1 = some r2) : Con D Tryz.prog 64 [(.slc (List.map PV.str l1))] (.bool r2) := by
 refine zP Tryz.call64 Tryz.func64 rfl Tryz.ntmps64 fun X w => ?_
 simp only [drossref03_Names] at h
 refine zs (zr ?_)
 refine zU (zl (zn (zs (zs (zr ?_)))))
 refine zU (zl (zn (zb ?_)))
 obtain ⟨o3, h4, h⟩ := zB h
 refine zO (fun (s : Int) => ⟨[(0, .p (.slc (List.map PV.str l1))), (3, .p (.int .i64 s))], []⟩) (fun (o : (Unit) ⊕ (Bool)) => match o with | .inl o5 => tE (cX Tryz.f64 X w D) (.exit 0) ⟨[], []⟩ | .inr o6 => tR Tryz.prog Tryz.f64 (.bool o6)) h4 ?_ ?_
 clear h h4
 intro i7 x h
 simp only [drossref03_Names_l1] at h
 refine zs (zs (zr ?_))
 refine zU (zl (zn ?_))
 rcases zI h with ⟨h8, h⟩ | ⟨h8, h⟩
 refine zi (zk (zn (zs (zb (zs (zd ?_))))))
 obtain ⟨x9, h10, h10a, h10b, h⟩ := zX h
 refine yU ?_
 obtain ⟨r11, h12, h⟩ := zB h
 refine yc (drossref03_Name_con x9 _ h12) ?_
 refine yU ?_
 rcases zI h with ⟨h13, h⟩ | ⟨h13, h⟩
 refine yw 16 false ?_
 refine yg ?_
 refine yg ?_
 obtain ⟨h14, h⟩ := ite_some h
 obtain ⟨h15, h⟩ := ite_some h
 refine yg ?_
 refine yg ?_
 refine yg ?_
 refine yg ?_
 refine yg ?_
 obtain ⟨r16, h17, h⟩ := zB h
 refine yc (drossref03_Attr_con (l1.take (i7.toNat)) x9 _ h17) ?_
 refine yg ?_
 refine yU ?_
 refine yd (zn ?_)
 rcases zI h with ⟨h18, h⟩ | ⟨h18, h⟩
 refine zi (zs (zr ?_))
 refine zU (zl (zn (zq (yr (zt ?_)))))
 cases h
 exact ⟨rfl, zT Tryz.results64⟩
 refine zj (zk (yn (zn (zr ?_))))
 refine zU (zl ?_)
 cases h
 exact ⟨rfl, zE⟩
 refine yw 16 true ?_
 refine yk ?_
 refine yU ?_
 refine yd (zn ?_)
 refine zi (zs (zr ?_))
 refine zU (zl (zn (zq (yr (zt ?_)))))
 cases h
 exact ⟨rfl, zT Tryz.results64⟩
 refine zj (zx (ze ?_))
 cases h
 exact ⟨rfl, zE⟩
 rcases o3 with ⟨⟩ | r19
 try simp only at h
 refine zA (yh (zn (zs (zr ?_))))
 refine zU (zl (zn (zq ?_)))
 cases h
 exact zT Tryz.results64
 try simp only at h
 refine zZ fun s hq => ?_
 refine yr (zt ?_)
 cases h
 exact hq
end Go.Proofs.YtimfcgdnogjlhaaGreat
set_option linter.unusedVariables false
set_option linter.unusedSimpArgs false
namespace Go.Proofs.YtimfcgdnogjlhaaGreat
open Go Go.Ab
set_option maxHeartbeats 4000000 in
theorem drossref01_Valid_con {D : Prop} (v1 : Value) (r2 : Bool) (h : drossref01_Valid v1 = some r2) : Con D Tryz.prog 87 [(encValue v1)] (.bool r2) := by
 refine zP Tryz.call87 Tryz.func87 rfl Tryz.ntmps87 fun X w => ?_
 simp only [drossref01_Valid] at h
 refine zs (zr ?_)
 refine zU (zl (zn (zs (zs (zr ?_)))))
 refine zU (zl (zn (zb (zs (zr ?_)))))
 refine zU (zl (zn ?_))
 rcases zI h with ⟨h3, h⟩ | ⟨h3, h⟩
 refine zi (zs (zr ?_))
 refine zU ?_
 rcases zI h with ⟨h4, h⟩ | ⟨h4, h⟩
 replace h := h.symm
 refine zw 10 true ?_
 refine zg ?_
 refine zg ?_
 refine zg ?_
 refine zU (zl (zn (zq (yr (zt ?_)))))
 cases h
 exact zT Tryz.results87
 refine zw 10 false ?_
 refine zh ?_
 refine zU (zl (zn (zq (yr (zt ?_)))))
 cases h
 exact zT Tryz.results87
 refine zj (zs (zr ?_))
 refine zU (zl (zn ?_))
 rcases zI h with ⟨h5, h⟩ | ⟨h5, h⟩
 refine zi (zs (zr ?_))
 refine zU (zl (zn (zq (yr (zt ?_)))))
 cases h
 exact zT Tryz.results87
 refine zj (zs (zr ?_))
 refine zU (zl (zn ?_))
 rcases zI h with ⟨h6, h⟩ | ⟨h6, h⟩
 refine zi (zs (zr ?_))
 refine zU ?_
 rcases zI h with ⟨h7, h⟩ | ⟨h7, h⟩
 replace h := h.symm
 refine zw 25 true ?_
 refine zg ?_
 refine zg ?_
 refine zg ?_
 refine zg ?_
 refine zU (zl (zn (zq (yr (zt ?_)))))
 cases h
 exact zT Tryz.results87
 refine zw 25 false ?_
 refine zh ?_
 refine zU (zl (zn (zq (yr (zt ?_)))))
 cases h
 exact zT Tryz.results87
 refine zj (zk (yn (zn (zs (zr ?_)))))
 refine zU ?_
 rcases zI h with ⟨h8, h⟩ | ⟨h8, h⟩
 refine zw 34 true ?_
 refine zg ?_
 refine zg ?_
 refine zg ?_
 refine zU ?_
 rcases zI h with ⟨h9, h⟩ | ⟨h9, h⟩
 replace h := h.symm
 refine zw 39 true ?_
 refine zg ?_
 refine zg ?_
 refine zg ?_
 refine zU (zl (zn (zq ?_)))
 cases h
 exact zT Tryz.results87
 refine zw 39 false ?_
 refine zh ?_
 refine zU (zl (zn (zq ?_)))
 cases h
 exact zT Tryz.results87
 refine zw 34 false ?_
 refine zh ?_
 refine zU ?_
 refine zh ?_
 refine zU (zl (zn (zq ?_)))
 cases h
 exact zT Tryz.results87
end Go.Proofs.YtimfcgdnogjlhaaGreat
set_option linter.unusedVariables false
set_option linter.unusedSimpArgs false
namespace Go.Proofs.YtimfcgdnogjlhaaGreat
open Go Go.Ab
set_option maxHeartbeats 4000000 in
theorem drossref01_Valids_con {D : Prop} (l1 : List Value) (r2 : Bool) (h : drossref01_Valids l1 = some r2) : Con D Tryz.prog 65 [(.slc (List.map encValue l1))] (.bool r2) := by
 refine zP Tryz.call65 Tryz.func65 rfl Tryz.ntmps65 fun X w => ?_
 simp only [drossref01_Valids] at h
 refine zs (zr ?_)
 refine zU (zl (zn (zs (zs (zr ?_)))))
 refine zU (zl (zn (zb ?_)))
 obtain ⟨o3, h4, h⟩ := zB h
 refine zO (fun (s : Int) => ⟨[(0, .p (.slc (List.map encValue l1))), (3, .p (.int .i64 s))], []⟩) (fun (o : (Unit) ⊕ (Bool)) => match o with | .inl o5 => tE (cX Tryz.f65 X w D) (.exit 0) ⟨[], []⟩ | .inr o6 => tR Tryz.prog Tryz.f65 (.bool o6)) h4 ?_ ?_
 clear h h4
 intro i7 x h
 simp only [drossref01_Valids_l1] at h
 refine zs (zs (zr ?_))
 refine zU (zl (zn ?_))
 rcases zI h with ⟨h8, h⟩ | ⟨h8, h⟩
 refine zi (zk (zn (zs (zb (zs (zr ?_))))))
 obtain ⟨x9, h10, h10a, h10b, h⟩ := zX h
 refine zU ?_
 obtain ⟨r11, h12, h⟩ := zB h
 refine zc (drossref01_Valid_con x9 _ h12) ?_
 refine zU (zl (zn ?_))
 rcases zI h with ⟨h13, h⟩ | ⟨h13, h⟩
 refine zj (zk (yn (zn (zr ?_))))
 refine zU (zl ?_)
 cases h
 exact ⟨rfl, zE⟩
 refine zi (zs (zr ?_))
 refine zU (zl (zn (zq (yr (zt ?_)))))
 cases h
 exact ⟨rfl, zT Tryz.results65⟩
 refine zj (zx (ze ?_))
 cases h
 exact ⟨rfl, zE⟩
 rcases o3 with ⟨⟩ | r14
 try simp only at h
 refine zA (yh (zn (zs (zr ?_))))
 refine zU (zl (zn (zq ?_)))
 cases h
 exact zT Tryz.results65
 try simp only at h
 refine zZ fun s hq => ?_
 refine yr (zt ?_)
 cases h
 exact hq
end Go.Proofs.YtimfcgdnogjlhaaGreat
set_option linter.unusedVariables false
set_option linter.unusedSimpArgs false
namespace Go.Proofs.YtimfcgdnogjlhaaGreat
open Go Go.Ab
set_option maxHeartbeats 4000000 in
theorem drossref03_Valid_con {D : Prop} (t1 : Table) (r2 : Int) (h : drossref03_Valid t1 = some r2) : Con D Tryz.prog 38 [(encTable t1)] (.int .i64 r2) := by
 refine zP Tryz.call38 Tryz.func38 rfl Tryz.ntmps38 fun X w => ?_
 simp only [drossref03_Valid] at h
 refine zs (zr ?_)
 refine zU (zl (zn (zs (zs (zr ?_)))))
 refine zU ?_
 obtain ⟨r3, h4, h⟩ := zB h
 refine zc (drossref03_Name_con t1.Name _ h4) ?_
 refine zU (zl (zn ?_))
 rcases zI h with ⟨h5, h⟩ | ⟨h5, h⟩
 refine zj (zk (zn (zs (zs (zr ?_)))))
 refine zU ?_
 rcases zI h with ⟨h6, h⟩ | ⟨h6, h⟩
 refine zw 14 true ?_
 refine zh ?_
 refine zU (zl (zn ?_))
 refine zi (zs (zr ?_))
 refine zU (zl (zn (zq (zt ?_))))
 cases h
 exact zT Tryz.results38
 refine zw 14 false ?_
 refine zg ?_
 refine zg ?_
 refine zg ?_
 refine zg ?_
 refine zU (zl (zn ?_))
 rcases zI h with ⟨h7, h⟩ | ⟨h7, h⟩
 refine zi (zs (zr ?_))
 refine zU (zl (zn (zq (zt ?_))))
 cases h
 exact zT Tryz.results38
 refine zj (zk (zn (zs (zs (zr ?_)))))
 refine zU ?_
 obtain ⟨r8, h9, h⟩ := zB h
 refine zc (drossref03_Names_con t1.Attrs _ h9) ?_
 refine zU (zl (zn ?_))
 rcases zI h with ⟨h10, h⟩ | ⟨h10, h⟩
 refine zj (zk (zn (zs (zr ?_))))
 refine zU (zl (zn (zs (zs (zr ?_)))))
 refine zU (zl (zn (zb ?_)))
 obtain ⟨o11, h12, h⟩ := zB h
 refine zO (fun (s : Int × Int) => ⟨[(1, .loc 1 1 0 0), (3, .p (.int .i64 s.1)), (4, .p (.int .i64 s.2))], [(1, .arr 31 3 1 [.p (encTable t1)])]⟩) (fun (o : (Unit) ⊕ (Int)) => match o with | .inl o13 => tE (cX Tryz.f38 X w D) (.exit 0) ⟨[], []⟩ | .inr o14 => tR Tryz.prog Tryz.f38 (.int .i64 o14)) h12 ?_ ?_
 clear h h4 h5 h6 h7 h9 h10 h12
 intro s x h
 obtain ⟨b15, i16⟩ := s
 simp only [drossref03_Valid_l1] at h
 dsimp only
 refine zs (zs (zr ?_))
 refine zU (zl (zn ?_))
 rcases zI h with ⟨h17, h⟩ | ⟨h17, h⟩
 refine zi (zk (zn (zs (zb (zs (zr ?_))))))
 obtain ⟨x18, h19, h19a, h19b, h⟩ := zX h
 refine zU (zl (zn (zs (zs (zr ?_)))))
 refine zU (zl (zn ?_))
 rcases zI h with ⟨h20, h⟩ | ⟨h20, h⟩
 refine zi (zs (zr ?_))
 refine zU (zl (zn (zq (zt (yr (zt ?_))))))
 cases h
 exact ⟨rfl, zT Tryz.results38⟩
 refine zj (zk (zn (zs (zr ?_))))
 refine zU (zl (zn (zs (zs (zr ?_)))))
 refine zU (zl (zn ?_))
 rcases zI h with ⟨h21, h⟩ | ⟨h21, h⟩
 refine zi (zs (zr ?_))
 refine zU (zl (zn (zq (zt (yr (zt ?_))))))
 cases h
 exact ⟨rfl, zT Tryz.results38⟩
 refine zj (zk (zn (zs (zr ?_))))
 refine zU ?_
 obtain ⟨r22, h23, h⟩ := zB h
 refine zc (drossref01_Valids_con x18.Values _ h23) ?_
 refine zU (zl (zn ?_))
 rcases zI h with ⟨h24, h⟩ | ⟨h24, h⟩
 refine zj (zk (yn (zn (zr ?_))))
 refine zU (zl ?_)
 cases h
 exact ⟨rfl, zE⟩
 refine zi (zs (zr ?_))
 refine zU (zl (zn (zq (yr (zt ?_)))))
 cases h
 exact ⟨rfl, zT Tryz.results38⟩
 refine zj (zx (ze ?_))
 cases h
 exact ⟨rfl, zE⟩
 rcases o11 with ⟨⟩ | r25
 try simp only at h
 refine zA (yh (zn (zs (zr ?_))))
 refine zU (zl (zn (zq ?_)))
 cases h
 exact zT Tryz.results38
 try simp only at h
 refine zZ fun s hq => ?_
 refine yr (zt ?_)
 cases h
 exact hq
 refine zi (zs (zr ?_))
 refine zU (zl (zn (zq (zt ?_))))
 cases h
 exact zT Tryz.results38
 refine zi (zs (zr ?_))
 refine zU (zl (zn (zq (zt ?_))))
 cases h
 exact zT Tryz.results38
end Go.Proofs.YtimfcgdnogjlhaaGreat
set_option linter.unusedVariables false
set_option linter.unusedSimpArgs false
namespace Go.Proofs.YtimfcgdnogjlhaaGreat
open Go Go.Ab
set_option maxHeartbeats 4000000 in
theorem drossref17_list_con {D : Prop} (n1 : Int) (l2 : List Int) (r3 : Bool) (h : drossref17_list n1 l2 = some r3) : Con D Tryz.prog 70 [(.int .i64 n1), (.slc (List.map (PV.int .i64) l2))] (.bool r3) := by
 refine zP Tryz.call70 Tryz.func70 rfl Tryz.ntmps70 fun X w => ?_
 simp only [drossref17_list] at h
 refine zs (zr ?_)
 refine zU (zl (zn (zs (zs (zr ?_)))))
 refine zU (zl (zn (zb ?_)))
 obtain ⟨o4, h5, h⟩ := zB h
 refine zO (fun (s : Int) => ⟨[(0, .p (.int .i64 n1)), (1, .p (.slc (List.map (PV.int .i64) l2))), (5, .p (.int .i64 s))], []⟩) (fun (o : (Unit) ⊕ (Bool)) => match o with | .inl o6 => tE (cX Tryz.f70 X w D) (.exit 0) ⟨[(1, .p (.slc (List.map (PV.int .i64) l2)))], []⟩ | .inr o7 => tR Tryz.prog Tryz.f70 (.bool o7)) h5 ?_ ?_
 clear h h5
 intro i8 x h
 simp only [drossref17_list_l1] at h
 refine zs (zs (zr ?_))
 refine zU (zl (zn ?_))
 rcases zI h with ⟨h9, h⟩ | ⟨h9, h⟩
 refine zi (zk (zn (zs (zb (zs (zr ?_))))))
 obtain ⟨x10, h11, h11a, h11b, h⟩ := zX h
 refine zU ?_
 rcases zI h with ⟨h12, h⟩ | ⟨h12, h⟩
 refine zw 17 true ?_
 refine zh ?_
 refine zU (zl (zn ?_))
 refine zi (zs (zr ?_))
 refine zU (zl (zn (zq (yr (zt ?_)))))
 cases h
 exact ⟨rfl, zT Tryz.results70⟩
 refine zw 17 false ?_
 refine zg ?_
 refine zg ?_
 refine zg ?_
 refine zg ?_
 refine zg ?_
 refine zg ?_
 refine zU (zl (zn ?_))
 rcases zI h with ⟨h13, h⟩ | ⟨h13, h⟩
 refine zi (zs (zr ?_))
 refine zU (zl (zn (zq (yr (zt ?_)))))
 cases h
 exact ⟨rfl, zT Tryz.results70⟩
 refine zj (zk (yn (zn (zr ?_))))
 refine zU (zl ?_)
 cases h
 exact ⟨rfl, zE⟩
 refine zj (zx (ze ?_))
 cases h
 exact ⟨rfl, zE⟩
 rcases o4 with ⟨⟩ | r14
 try simp only at h
 refine zA (yh (zn (zs (zr ?_))))
 refine zU (zl (zn (zq ?_)))
 cases h
 exact zT Tryz.results70
 try simp only at h
 refine zZ fun s hq => ?_
 refine yr (zt ?_)
 cases h
 exact hq
end Go.Proofs.YtimfcgdnogjlhaaGreat
set_option linter.unusedVariables false
set_option linter.unusedSimpArgs false
namespace Go.Proofs.YtimfcgdnogjlhaaGreat
open Go Go.Ab
set_option maxHeartbeats 4000000 in
theorem drossref17_Valid_con {D : Prop} (n1 : Int) (d2 : OD) (r3 : Bool) (h : drossref17_Valid n1 d2 = some r3) : Con D Tryz.prog 41 [(.int .i64 n1), (encOD d2)] (.bool r3) := by
 refine zP Tryz.call41 Tryz.func41 rfl Tryz.ntmps41 fun X w => ?_
 simp only [drossref17_Valid] at h
 refine zs (zr ?_)
 refine zU (zl (zn (zs (zr ?_))))
 refine zU ?_
 obtain ⟨r4, h5, h⟩ := zB h
 refine zc (drossref17_list_con n1 d2.Lhs _ h5) ?_
 refine zU ?_
 rcases zI h with ⟨h6, h⟩ | ⟨h6, h⟩
 refine zw 9 true ?_
 refine zg ?_
 refine zg ?_
 refine zg ?_
 obtain ⟨r7, h8, h⟩ := zB h
 refine zc (drossref17_list_con n1 d2.Rhs _ h8) ?_
 refine zU (zl (zn (zq ?_)))
 cases h
 exact zT Tryz.results41
 refine zw 9 false ?_
 refine zh ?_
 refine zU (zl (zn (zq ?_)))
 cases h
 exact zT Tryz.results41
end Go.Proofs.YtimfcgdnogjlhaaGreat
set_option linter.unusedVariables false
set_option linter.unusedSimpArgs false
namespace Go.Proofs.YtimfcgdnogjlhaaGreat
open Go Go.Ab
set_option maxHeartbeats 4000000 in
theorem drossref17_Error_con {D : Prop} (t1 : Table) (d2 : OD) (r3 : Int) (h : drossref17_Error t1 d2 = some r3) : Con D Tryz.prog 17 [(encTable t1), (encOD d2)] (.int .i64 r3) := by
 refine zP Tryz.call17 Tryz.func17 rfl Tryz.ntmps17 fun X w => ?_
 simp only [drossref17_Error] at h
 refine zs (zr ?_)
 refine zU (zl (zn (zs (zs (zr ?_)))))
 refine zU ?_
 obtain ⟨r4, h5, h⟩ := zB h
 refine zc (drossref03_Valid_con t1 _ h5) ?_
 refine zU (zl (zn (zs (zr ?_))))
 refine zU (zl (zn ?_))
 rcases zI h with ⟨h6, h⟩ | ⟨h6, h⟩
 refine zi (zs (zr ?_))
 refine zU (zl (zn (zq (zt ?_))))
 cases h
 exact zT Tryz.results17
 refine zj (zk (zn (zs (zs (zr ?_)))))
 refine zU ?_
 obtain ⟨r7, h8, h⟩ := zB h
 refine zc (drossref17_Valid_con (t1.Attrs.length : Int) d2 _ h8) ?_
 refine zU (zl (zn ?_))
 rcases zI h with ⟨h9, h⟩ | ⟨h9, h⟩
 refine zj (zk (zn (zs (zr ?_))))
 refine zU (zl (zn (zq ?_)))
 cases h
 exact zT Tryz.results17
 refine zi (zs (zr ?_))
 refine zU (zl (zn (zq (zt ?_))))
 cases h
 exact zT Tryz.results17
end Go.Proofs.YtimfcgdnogjlhaaGreat
set_option linter.unusedVariables false
set_option linter.unusedSimpArgs false
namespace Go.Proofs.YtimfcgdnogjlhaaGreat
open Go Go.Ab
set_option maxRecDepth 20000 in
set_option maxHeartbeats 4000000 in
theorem drossref17_Sorted_con {D : Prop} (t1 : Table) (l2 : List Int) (r3 : List Int × Int) (h : drossref17_Sorted t1 l2 = some r3) : Con D Tryz.prog 9 [(encTable t1), (.slc (List.map (PV.int .i64) l2))] (.tup [(.slc (List.map (PV.int .i64) r3.1)), (.int .i64 r3.2)]) := by
 refine zP Tryz.call9 Tryz.func9 rfl Tryz.ntmps9 fun X w => ?_
 simp only [drossref17_Sorted] at h
 refine zs (zr ?_)
 refine zU (zl (zn (zs (zs (zr ?_)))))
 refine zU ?_
 obtain ⟨r4, h5, h⟩ := zB h
 refine zc (drossref17_Error_con t1 (OD.mk l2 []) _ h5) ?_
 refine zU (zl (zn (zs (zr ?_))))
 refine zU (zl (zn ?_))
 rcases zI h with ⟨h6, h⟩ | ⟨h6, h⟩
 refine zi (zs (zr ?_))
 refine zU (zl (zn (zq (zt ?_))))
 cases h
 exact zT Tryz.results9
 refine zj (zk (zn (zs (zr ?_))))
 obtain ⟨h7, h⟩ := ite_some h
 refine zU (zl (zn (zs (zr ?_))))
 refine zU (zl (zn (zs (zb ?_))))
 obtain ⟨o8, h9, h⟩ := zB h
 refine zO (fun (s : List Row × List Int) => ⟨[(1, .p (.slc (List.map (PV.int .i64) l2))), (7, .p (.slc (List.map encRow s.1))), (8, .own 50 1 0 s.2.length)], [(50, .arr 2 1 1 (List.map AV.p (List.map (PV.int .i64) s.2)))]⟩) (fun (o10 : List Int) => tE (cX Tryz.f9 X w D) (.exit 0) ⟨[(8, .own 50 1 0 o10.length)], [(50, .arr 2 1 1 (List.map AV.p (List.map (PV.int .i64) o10)))]⟩) h9 ?_ ?_
 clear h h5 h6 h7 h9
 intro s x h
 obtain ⟨r11, o12⟩ := s
 simp only [drossref17_Sorted_l4] at h
 dsimp only
 refine zs (zs (zr ?_))
 refine zU (zl (zn ?_))
 rcases zI h with ⟨h13, h⟩ | ⟨h13, h⟩
 refine zi (zk (zn (zb (zs (zr ?_)))))
 refine zU (zl (zn (zs (zs (zr ?_)))))
 refine zU (zl (zn (zb ?_)))
 obtain ⟨b14, h15, h⟩ := zB h
 refine zO (fun (s : Int × Int) => ⟨[(1, .p (.slc (List.map (PV.int .i64) l2))), (7, .p (.slc (List.map encRow r11))), (8, .own 50 1 0 o12.length), (9, .p (.int .i64 s.1)), (10, .p (.int .i64 s.2))], [(50, .arr 2 1 1 (List.map AV.p (List.map (PV.int .i64) o12)))]⟩) (fun (o16 : Int) => tE (cX Tryz.f9 X w D) (.exit 2) ⟨[(1, .p (.slc (List.map (PV.int .i64) l2))), (7, .p (.slc (List.map encRow r11))), (8, .own 50 1 0 o12.length), (9, .p (.int .i64 o16))], [(50, .arr 2 1 1 (List.map AV.p (List.map (PV.int .i64) o12)))]⟩) h15 ?_ ?_
 clear h h13 h15
 intro s x h
 obtain ⟨b17, i18⟩ := s
 simp only [drossref17_Sorted_l3] at h
 dsimp only
 refine zs (zs (zr ?_))
 refine zU (zl (zn ?_))
 rcases zI h with ⟨h19, h⟩ | ⟨h19, h⟩
 refine zi (zk (zn (zs (zb (zs (zd ?_))))))
 obtain ⟨x20, h21, h21a, h21b, h⟩ := zX h
 obtain ⟨x22, h23, h23a, h23b, h⟩ := zX h
 refine yU ?_
 obtain ⟨r24, h25, h⟩ := zB h
 refine yc (drossref17_Compare_con x20 x22 l2 _ h25) ?_
 refine yU ?_
 refine yd (zn ?_)
 rcases zI h with ⟨h26, h⟩ | ⟨h26, h⟩
 refine zi (zr ?_)
 refine zU (zl (yn (zn (zr ?_))))
 refine zU (zl ?_)
 cases h
 exact ⟨rfl, zE⟩
 refine zj (zk (yn (zn (zr ?_))))
 refine zU (zl ?_)
 cases h
 exact ⟨rfl, zE⟩
 refine zj (zx (ze ?_))
 cases h
 exact ⟨rfl, zE⟩
 try simp only at h
 refine zA (yh (zn (zs (zr ?_))))
 obtain ⟨x27, h28, h28a, h28b, h⟩ := zX h
 obtain ⟨h29, h⟩ := ite_some h
 refine zU (zl (zn (zd ?_)))
 obtain ⟨h30, h⟩ := ite_some h
 obtain ⟨h31, h⟩ := ite_some h
 obtain ⟨h32, h⟩ := ite_some h
 obtain ⟨h33, h⟩ := ite_some h
 obtain ⟨h34, h⟩ := ite_some h
 refine yU ?_
 refine yd (yn ?_)
 cases h
 exact ⟨rfl, zE⟩
 refine zj (zx (ze ?_))
 cases h
 exact ⟨rfl, zE⟩
 try simp only at h
 refine zA (yh (zn (zs (zr ?_))))
 refine zU (zl (zn (zq ?_)))
 cases h
 exact zT Tryz.results9
end Go.Proofs.YtimfcgdnogjlhaaGreat
set_option linter.unusedVariables false
set_option linter.unusedSimpArgs false
namespace Go.Proofs.YtimfcgdnogjlhaaGreat
open Go Go.Ab
set_option maxHeartbeats 4000000 in
theorem drossref03_IDs_con {D : Prop} (a1 : List Int) (b2 : List Int) (r3 : Bool) (h : drossref03_IDs a1 b2 = some r3) : Con D Tryz.prog 10 [(.slc (List.map (PV.int .i64) a1)), (.slc (List.map (PV.int .i64) b2))] (.bool r3) := by
 refine zP Tryz.call10 Tryz.func10 rfl Tryz.ntmps10 fun X w => ?_
 simp only [drossref03_IDs] at h
 refine zs (zr ?_)
 refine zU (zl (zn (zs (zs (zr ?_)))))
 refine zU (zl (zn ?_))
 rcases zI h with ⟨h4, h⟩ | ⟨h4, h⟩
 refine zi (zs (zr ?_))
 refine zU (zl (zn (zq (zt ?_))))
 cases h
 exact zT Tryz.results10
 refine zj (zk (zn (zs (zs (zr ?_)))))
 refine zU (zl (zn (zb ?_)))
 obtain ⟨o5, h6, h⟩ := zB h
 refine zO (fun (s : Int) => ⟨[(0, .p (.slc (List.map (PV.int .i64) a1))), (1, .p (.slc (List.map (PV.int .i64) b2))), (5, .p (.int .i64 s))], []⟩) (fun (o : (Unit) ⊕ (Bool)) => match o with | .inl o7 => tE (cX Tryz.f10 X w D) (.exit 0) ⟨[], []⟩ | .inr o8 => tR Tryz.prog Tryz.f10 (.bool o8)) h6 ?_ ?_
 clear h h4 h6
 intro i9 x h
 simp only [drossref03_IDs_l1] at h
 refine zs (zs (zr ?_))
 refine zU (zl (zn ?_))
 rcases zI h with ⟨h10, h⟩ | ⟨h10, h⟩
 refine zi (zk (zn (zs (zb (zs (zd ?_))))))
 obtain ⟨x11, h12, h12a, h12b, h⟩ := zX h
 obtain ⟨x13, h14, h14a, h14b, h⟩ := zX h
 refine yU ?_
 refine yd (zn ?_)
 rcases zI h with ⟨h15, h⟩ | ⟨h15, h⟩
 refine zi (zs (zr ?_))
 refine zU (zl (zn (zq (yr (zt ?_)))))
 cases h
 exact ⟨rfl, zT Tryz.results10⟩
 refine zj (zk (yn (zn (zr ?_))))
 refine zU (zl ?_)
 cases h
 exact ⟨rfl, zE⟩
 refine zj (zx (ze ?_))
 cases h
 exact ⟨rfl, zE⟩
 rcases o5 with ⟨⟩ | r16
 try simp only at h
 refine zA (yh (zn (zs (zr ?_))))
 refine zU (zl (zn (zq ?_)))
 cases h
 exact zT Tryz.results10
 try simp only at h
 refine zZ fun s hq => ?_
 refine yr (zt ?_)
 cases h
 exact hq
end Go.Proofs.YtimfcgdnogjlhaaGreat
set_option linter.unusedVariables false
set_option linter.unusedSimpArgs false
namespace Go.Proofs.YtimfcgdnogjlhaaGreat
open Go Go.Ab
set_option maxHeartbeats 4000000 in
theorem drossref03_Find_con {D : Prop} (t1 : Table) (i2 : Int) (r3 : Int × Bool) (h : drossref03_Find t1 i2 = some r3) : Con D Tryz.prog 12 [(encTable t1), (.int .i64 i2)] (.tup [(.int .i64 r3.1), (.bool r3.2)]) := by
 refine zP Tryz.call12 Tryz.func12 rfl Tryz.ntmps12 fun X w => ?_
 simp only [drossref03_Find] at h
 refine zs (zr ?_)
 refine zU (zl (zn (zs (zs (zr ?_)))))
 refine zU (zl (zn (zb ?_)))
 obtain ⟨o4, h5, h⟩ := zB h
 refine zO (fun (s : Int) => ⟨[(1, .p (.int .i64 i2)), (2, .loc 2 1 0 0), (6, .p (.int .i64 s))], [(2, .arr 31 3 1 [.p (encTable t1)])]⟩) (fun (o : (Unit) ⊕ (Int × Bool)) => match o with | .inl o6 => tE (cX Tryz.f12 X w D) (.exit 0) ⟨[], []⟩ | .inr o7 => tR Tryz.prog Tryz.f12 (.tup [(.int .i64 o7.1), (.bool o7.2)])) h5 ?_ ?_
 clear h h5
 intro i8 x h
 simp only [drossref03_Find_l1] at h
 refine zs (zs (zr ?_))
 refine zU (zl (zn ?_))
 rcases zI h with ⟨h9, h⟩ | ⟨h9, h⟩
 refine zi (zk (zn (zs (zb (zs (zr ?_))))))
 obtain ⟨x10, h11, h11a, h11b, h⟩ := zX h
 refine zU (zl (zn ?_))
 rcases zI h with ⟨h12, h⟩ | ⟨h12, h⟩
 refine zi (zs (zr ?_))
 refine zU (zl (zn (zq (yr (zt ?_)))))
 cases h
 exact ⟨rfl, zT Tryz.results12⟩
 refine zj (zk (yn (zn (zr ?_))))
 refine zU (zl ?_)
 cases h
 exact ⟨rfl, zE⟩
 refine zj (zx (ze ?_))
 cases h
 exact ⟨rfl, zE⟩
 rcases o4 with ⟨⟩ | r13
 try simp only at h
 refine zA (yh (zn (zs (zr ?_))))
 refine zU (zl (zn (zq ?_)))
 cases h
 exact zT Tryz.results12
 try simp only at h
 refine zZ fun s hq => ?_
 refine yr (zt ?_)
 cases h
 exact hq
end Go.Proofs.YtimfcgdnogjlhaaGreat
set_option linter.unusedVariables false
set_option linter.unusedSimpArgs false
namespace Go.Proofs.YtimfcgdnogjlhaaGreat
open Go Go.Ab
set_option maxRecDepth 20000 in
set_option maxHeartbeats 4000000 in
theorem drosslaw17_OrderingSorted_con (x1 : Drossref03_Recipe) (l2 : Drossref17_Lists) (r3 : Bool) (h : drosslaw17_OrderingSorted x1 l2 = some r3) : Con False Tryz.prog 3 [(encDrossref03_Recipe x1), (encDrossref17_Lists l2)] (.bool r3) := by
 refine zP Tryz.call3 Tryz.func3 rfl Tryz.ntmps3 fun X w => ?_
 simp only [drosslaw17_OrderingSorted] at h
 refine zs (zr ?_)
 refine zU (zl (zn (zs (zr ?_))))
 refine zU ?_
 obtain ⟨r4, h5, h⟩ := zB h
 refine zc (drossref03_Table_con x1 8 _ h5) ?_
 refine zU (zl (zn (zs ?_)))
 obtain ⟨t6, h7, h⟩ := zB h
 refine zJ (fun (o8 : Bool) => tE (cX Tryz.f3 X w False) .normal ⟨[(3, .loc 3 1 0 0), (5, .loc 5 1 0 0), (31, .p (.bool o8))], [(3, .arr 27 2 1 [.p (encDrossref17_Lists l2)]), (5, .arr 31 3 1 [.p (encTable r4.1)])]⟩) t6 ?_ ?_
 replace h := h7
 clear h7
 refine zr ?_
 obtain ⟨r9, h10, h⟩ := zB h
 refine zc (drosslaw17_awake_con  _ h10) ?_
 refine zU ?_
 rcases zI h with ⟨h11, h⟩ | ⟨h11, h⟩
 replace h := h.symm
 refine zw 28 false ?_
 refine zg ?_
 refine zg ?_
 refine zU (zl ?_)
 cases h
 exact ⟨rfl, zE⟩
 refine zw 28 true ?_
 refine zh ?_
 refine zU (zl ?_)
 cases h
 exact ⟨rfl, zE⟩
 try simp only at h
 refine zA (zn ?_)
 rcases zI h with ⟨h12, h⟩ | ⟨h12, h⟩
 refine zi (zs (zr ?_))
 obtain ⟨r13, h14, h⟩ := zB h
 refine zc (drosslaw17_awake_con  _ h14) ?_
 refine zU (zl (zn (zq (zt ?_))))
 cases h
 exact zT Tryz.results3
 refine zj (zk (zn (zs (zr ?_))))
 refine zU ?_
 obtain ⟨r15, h16, h⟩ := zB h
 refine zc (drossref17_Of_con (r4.1.Attrs.length : Int) l2 _ h16) ?_
 refine zU (zl (zn (zs (zr ?_))))
 refine zU ?_
 obtain ⟨r17, h18, h⟩ := zB h
 refine zc (ordering_Sorted_con r4.1 r15.Lhs _ h18) ?_
 refine zU (zl (zn (zs (zr ?_))))
 refine zU ?_
 obtain ⟨r19, h20, h⟩ := zB h
 refine zc (drossref17_Sorted_con r4.1 r15.Lhs _ h20) ?_
 refine zU (zl (zn (zs (zs (zr ?_)))))
 refine zU ?_
 rcases zI h with ⟨h21, h⟩ | ⟨h21, h⟩
 refine zw 54 true ?_
 refine zh ?_
 refine zU (zl (zn ?_))
 refine zi (zs (zr ?_))
 refine zU (zl (zn (zq (zt ?_))))
 cases h
 exact zT Tryz.results3
 refine zw 54 false ?_
 refine zg ?_
 refine zg ?_
 obtain ⟨r22, h23, h⟩ := zB h
 refine zc (drossref03_IDs_con r17.1 r19.1 _ h23) ?_
 refine zg ?_
 refine zU (zl (zn ?_))
 rcases zI h with ⟨h24, h⟩ | ⟨h24, h⟩
 refine zj (zk (zn (zs (zr ?_))))
 refine zU ?_
 obtain ⟨r25, h26, h⟩ := zB h
 refine zc (ordering_Holds_con r4.1 r15 _ h26) ?_
 refine zU (zl (zn (zs (zs (zr ?_)))))
 refine zU ?_
 rcases zI h with ⟨h27, h⟩ | ⟨h27, h⟩
 refine zw 68 true ?_
 refine zh ?_
 refine zU (zl (zn ?_))
 refine zi (zs (zr ?_))
 refine zU (zl (zn (zq (zt ?_))))
 cases h
 exact zT Tryz.results3
 refine zw 68 false ?_
 refine zg ?_
 refine zg ?_
 refine zU (zl (zn ?_))
 rcases zI h with ⟨h28, h⟩ | ⟨h28, h⟩
 refine zj (zk (zn (zs (zs (zr ?_)))))
 refine zU (zl (zn (zb ?_)))
 obtain ⟨o29, h30, h⟩ := zB h
 refine zO (fun (s : Int) => ⟨[(5, .loc 5 1 0 0), (7, .loc 7 1 0 0), (8, .p (.slc (List.map (PV.int .i64) r17.1))), (14, .p (.int .i64 s))], [(5, .arr 31 3 1 [.p (encTable r4.1)]), (7, .arr 37 2 1 [.p (encOD r15)])]⟩) (fun (o : (Unit) ⊕ (Bool)) => match o with | .inl o31 => tE (cX Tryz.f3 X w False) (.exit 0) ⟨[], []⟩ | .inr o32 => tR Tryz.prog Tryz.f3 (.bool o32)) h30 ?_ ?_
 clear h h5 h12 h16 h18 h20 h21 h23 h24 h26 h27 h28 h30
 intro i33 x h
 simp only [drosslaw17_OrderingSorted_l1] at h
 refine zs (zs (zr ?_))
 refine zU (zl (zn ?_))
 rcases zI h with ⟨h34, h⟩ | ⟨h34, h⟩
 refine zi (zk (zn (zs (zb (zs (zd ?_))))))
 obtain ⟨x35, h36, h36a, h36b, h⟩ := zX h
 refine yU ?_
 obtain ⟨r37, h38, h⟩ := zB h
 refine yc (drossref03_Find_con r4.1 x35 _ h38) ?_
 refine yU ?_
 refine yd (zn (zs (zd ?_)))
 obtain ⟨x39, h40, h40a, h40b, h⟩ := zX h
 refine yU ?_
 obtain ⟨r41, h42, h⟩ := zB h
 refine yc (drossref03_Find_con r4.1 x39 _ h42) ?_
 refine yU ?_
 refine yd (zn (zs (zd ?_)))
 obtain ⟨x43, h44, h44a, h44b, h⟩ := zX h
 obtain ⟨x45, h46, h46a, h46b, h⟩ := zX h
 refine yU ?_
 obtain ⟨r47, h48, h⟩ := zB h
 refine yc (drossref17_Compare_con x43 x45 r15.Lhs _ h48) ?_
 refine yU ?_
 obtain ⟨r49, h50, h⟩ := zB h
 refine yc (drossref17_Compare_con x43 x45 r15.Rhs _ h50) ?_
 refine yU ?_
 refine yd (zn (zs (zr ?_)))
 refine zU ?_
 rcases zI h with ⟨h51, h⟩ | ⟨h51, h⟩
 refine zw 127 true ?_
 refine zh ?_
 refine zU ?_
 refine zh ?_
 refine zU (zl (zn ?_))
 refine zi (zs (zr ?_))
 refine zU (zl (zn (zq (yr (zt ?_)))))
 cases h
 exact ⟨rfl, zT Tryz.results3⟩
 refine zw 127 false ?_
 refine zg ?_
 refine zg ?_
 refine zU ?_
 rcases zI h with ⟨h52, h⟩ | ⟨h52, h⟩
 refine zw 131 true ?_
 refine zh ?_
 refine zU (zl (zn ?_))
 refine zi (zs (zr ?_))
 refine zU (zl (zn (zq (yr (zt ?_)))))
 cases h
 exact ⟨rfl, zT Tryz.results3⟩
 refine zw 131 false ?_
 refine zg ?_
 refine zg ?_
 refine zg ?_
 rcases zI h with ⟨h53, h⟩ | ⟨h53, h⟩
 refine zw 134 true ?_
 refine zg ?_
 refine zg ?_
 refine zg ?_
 refine zU (zl (zn ?_))
 rcases zI h with ⟨h54, h⟩ | ⟨h54, h⟩
 refine zi (zs (zr ?_))
 refine zU (zl (zn (zq (yr (zt ?_)))))
 cases h
 exact ⟨rfl, zT Tryz.results3⟩
 refine zj (zk (yn (zn (zr ?_))))
 refine zU (zl ?_)
 cases h
 exact ⟨rfl, zE⟩
 replace h := h.symm
 refine zw 134 false ?_
 refine zh ?_
 refine zg ?_
 refine zU (zl (zn ?_))
 refine zj (zk (yn (zn (zr ?_))))
 refine zU (zl ?_)
 cases h
 exact ⟨rfl, zE⟩
 refine zj (zx (ze ?_))
 cases h
 exact ⟨rfl, zE⟩
 rcases o29 with ⟨⟩ | r55
 try simp only at h
 refine zA (yh (zn (zs (zr ?_))))
 refine zU (zl (zn (zq ?_)))
 cases h
 exact zT Tryz.results3
 try simp only at h
 refine zZ fun s hq => ?_
 refine yr (zt ?_)
 cases h
 exact hq
 refine zi (zs (zr ?_))
 refine zU (zl (zn (zq (zt ?_))))
 cases h
 exact zT Tryz.results3
 refine zi (zs (zr ?_))
 refine zU (zl (zn (zq (zt ?_))))
 cases h
 exact zT Tryz.results3
end Go.Proofs.YtimfcgdnogjlhaaGreat
