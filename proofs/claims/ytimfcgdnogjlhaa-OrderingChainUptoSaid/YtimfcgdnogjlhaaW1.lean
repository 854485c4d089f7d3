/- Each function of the program computes what its Lean function says, where that has a value. -/
import Derived.Shelf.SortM.Plain
import Derived.Shelf.SortM.SortNone
import Derived.Ground.SlgmProg
import Derived.Test.YtimfcgdnogjlhaaProg
import Derived.RangeFuncBox
import Derived.RangeFuncLeaves
import Derived.Shelf.Abstract
import Derived.WalkKit
import Derived.OwnWalkIn
import Derived.TacticsInMore
import Derived.LoopNIn
import Derived.LoopIn
import Derived.Maps.AppendAt
import Derived.Shelf.Small.Strs
import Derived.Shelf.Spec.SlicesGrow
import Derived.Ground.Names8Prog
import Derived.Test.YtimfcgdnogjlhaaT1
import Derived.Test.YtimfcgdnogjlhaaL1
import Derived.Test.YtimfcgdnogjlhaaA2
set_option linter.unusedVariables false
set_option linter.unusedSimpArgs false
namespace Go.Proofs.Ytimfcgdnogjlhaa
open Go Go.Ab
theorem mixed : Try.prog.follows .mixedOrders = true := by kernel_rfl
@[reducible] noncomputable def cX (f : Func) (X : Nat → Prop) (w : World) (D : Prop) : Cx := ⟨Try.prog, f.ntmps, 0, X, [], fun _ => none, w, D⟩
theorem zd {N B : Nat} {X : Nat → Prop} {H0 : List (Nat × AO)} {inj0 : Inj} {w0 : World} {D : Prop} {Q : Exit → St → Prop} {st : St} {id : Nat} {l : List Oper} (h : DGo ⟨Try.prog, N, B, X, H0, inj0, w0, D⟩ l.toArray l st [] (DK ⟨Try.prog, N, B, X, H0, inj0, w0, D⟩ l.toArray Q)) (hs : slotsOk l.toArray = true := by decide) : AWp ⟨Try.prog, N, B, X, H0, inj0, w0, D⟩ (.region id l.toArray true) Q st := awp_drawn_walk mixed hs h
theorem zdl (n : Nat) {N B : Nat} {X : Nat → Prop} {H0 : List (Nat × AO)} {inj0 : Inj} {w0 : World} {D : Prop} {Q : Exit → St → Prop} {st : St} {id : Nat} {l : List Oper} (h : DGo ⟨Try.prog, N, B, X, H0, inj0, w0, D⟩ l.toArray (l.take n) st [] (DKL ⟨Try.prog, N, B, X, H0, inj0, w0, D⟩ l.toArray (l.drop n) Q)) (hs : slotsOk l.toArray = true := by decide) (hl : lastOk l.toArray n = true := by decide) : AWp ⟨Try.prog, N, B, X, H0, inj0, w0, D⟩ (.region id l.toArray true) Q st := awp_drawn_last n mixed hs hl h
def encOD (x : OD) : PV := .agg [.slc (List.map (PV.int .i64) x.Lhs), .slc (List.map (PV.int .i64) x.Rhs)]
@[go_sem] theorem encOD_fold (x : OD) : PV.agg [.slc (List.map (PV.int .i64) x.Lhs), .slc (List.map (PV.int .i64) x.Rhs)] = encOD x := rfl
@[go_sem] theorem encOD_cells (x : OD) : (encOD x).cells = [.slc (List.map (PV.int .i64) x.Lhs), .slc (List.map (PV.int .i64) x.Rhs)] := rfl
@[go_sem] theorem encOD_isAgg (x : OD) : (encOD x).isAgg = true := rfl
@[go_sem] theorem encOD_isTup (x : OD) : (encOD x).isTup = false := rfl
@[go_sem] theorem encOD_sl (l : List OD) : ((l.map encOD).all fun y => y.cells.length == 2) = true := by simp [encOD, PV.cells]
@[go_sem] theorem encOD_ok (l : List OD) : ((l.map encOD).map AV.p).all (elemOk 2) = true := elemOkAll_map _ _ _ fun _ => ⟨rfl, rfl⟩
def encCanonical (x : Canonical) : PV := .agg [.int .u32 x.Context, .int .i64 x.A, .int .i64 x.B]
@[go_sem] theorem encCanonical_fold (x : Canonical) : PV.agg [.int .u32 x.Context, .int .i64 x.A, .int .i64 x.B] = encCanonical x := rfl
@[go_sem] theorem encCanonical_cells (x : Canonical) : (encCanonical x).cells = [.int .u32 x.Context, .int .i64 x.A, .int .i64 x.B] := rfl
@[go_sem] theorem encCanonical_isAgg (x : Canonical) : (encCanonical x).isAgg = true := rfl
@[go_sem] theorem encCanonical_isTup (x : Canonical) : (encCanonical x).isTup = false := rfl
@[go_sem] theorem encCanonical_sl (l : List Canonical) : ((l.map encCanonical).all fun y => y.cells.length == 3) = true := by simp [encCanonical, PV.cells]
@[go_sem] theorem encCanonical_ok (l : List Canonical) : ((l.map encCanonical).map AV.p).all (elemOk 3) = true := elemOkAll_map _ _ _ fun _ => ⟨rfl, rfl⟩
@[go_sem] theorem encCanonical_flat (x : Canonical) : (encCanonical x).flat = true := rfl
def encValue (x : Value) : PV := .agg [.int .i64 x.Kind, .int .i64 x.Num, .str x.Str]
@[go_sem] theorem encValue_fold (x : Value) : PV.agg [.int .i64 x.Kind, .int .i64 x.Num, .str x.Str] = encValue x := rfl
@[go_sem] theorem encValue_cells (x : Value) : (encValue x).cells = [.int .i64 x.Kind, .int .i64 x.Num, .str x.Str] := rfl
@[go_sem] theorem encValue_isAgg (x : Value) : (encValue x).isAgg = true := rfl
@[go_sem] theorem encValue_isTup (x : Value) : (encValue x).isTup = false := rfl
@[go_sem] theorem encValue_sl (l : List Value) : ((l.map encValue).all fun y => y.cells.length == 3) = true := by simp [encValue, PV.cells]
@[go_sem] theorem encValue_ok (l : List Value) : ((l.map encValue).map AV.p).all (elemOk 3) = true := elemOkAll_map _ _ _ fun _ => ⟨rfl, rfl⟩
@[go_sem] theorem encValue_flat (x : Value) : (encValue x).flat = true := rfl
def encRow (x : Row) : PV := .agg [.int .i64 x.ID, .slc (List.map encValue x.Values)]
@[go_sem] theorem encRow_fold (x : Row) : PV.agg [.int .i64 x.ID, .slc (List.map encValue x.Values)] = encRow x := rfl
@[go_sem] theorem encRow_cells (x : Row) : (encRow x).cells = [.int .i64 x.ID, .slc (List.map encValue x.Values)] := rfl
@[go_sem] theorem encRow_isAgg (x : Row) : (encRow x).isAgg = true := rfl
@[go_sem] theorem encRow_isTup (x : Row) : (encRow x).isTup = false := rfl
@[go_sem] theorem encRow_sl (l : List Row) : ((l.map encRow).all fun y => y.cells.length == 2) = true := by simp [encRow, PV.cells]
@[go_sem] theorem encRow_ok (l : List Row) : ((l.map encRow).map AV.p).all (elemOk 2) = true := elemOkAll_map _ _ _ fun _ => ⟨rfl, rfl⟩
def encTable (x : Table) : PV := .agg [.str x.Name, .slc (List.map PV.str x.Attrs), .slc (List.map encRow x.Rows)]
@[go_sem] theorem encTable_fold (x : Table) : PV.agg [.str x.Name, .slc (List.map PV.str x.Attrs), .slc (List.map encRow x.Rows)] = encTable x := rfl
@[go_sem] theorem encTable_cells (x : Table) : (encTable x).cells = [.str x.Name, .slc (List.map PV.str x.Attrs), .slc (List.map encRow x.Rows)] := rfl
@[go_sem] theorem encTable_isAgg (x : Table) : (encTable x).isAgg = true := rfl
@[go_sem] theorem encTable_isTup (x : Table) : (encTable x).isTup = false := rfl
@[go_sem] theorem encTable_sl (l : List Table) : ((l.map encTable).all fun y => y.cells.length == 3) = true := by simp [encTable, PV.cells]
@[go_sem] theorem encTable_ok (l : List Table) : ((l.map encTable).map AV.p).all (elemOk 3) = true := elemOkAll_map _ _ _ fun _ => ⟨rfl, rfl⟩
def encDrossref03_Recipe (x : Drossref03_Recipe) : PV := .agg [.int .u8 x.Attrs, .int .u8 x.Gap, .slc (List.map (encL (PV.int .u8)) x.Rows)]
@[go_sem] theorem encDrossref03_Recipe_fold (x : Drossref03_Recipe) : PV.agg [.int .u8 x.Attrs, .int .u8 x.Gap, .slc (List.map (encL (PV.int .u8)) x.Rows)] = encDrossref03_Recipe x := rfl
@[go_sem] theorem encDrossref03_Recipe_cells (x : Drossref03_Recipe) : (encDrossref03_Recipe x).cells = [.int .u8 x.Attrs, .int .u8 x.Gap, .slc (List.map (encL (PV.int .u8)) x.Rows)] := rfl
@[go_sem] theorem encDrossref03_Recipe_isAgg (x : Drossref03_Recipe) : (encDrossref03_Recipe x).isAgg = true := rfl
@[go_sem] theorem encDrossref03_Recipe_isTup (x : Drossref03_Recipe) : (encDrossref03_Recipe x).isTup = false := rfl
@[go_sem] theorem encDrossref03_Recipe_sl (l : List Drossref03_Recipe) : ((l.map encDrossref03_Recipe).all fun y => y.cells.length == 3) = true := by simp [encDrossref03_Recipe, PV.cells]
@[go_sem] theorem encDrossref03_Recipe_ok (l : List Drossref03_Recipe) : ((l.map encDrossref03_Recipe).map AV.p).all (elemOk 3) = true := elemOkAll_map _ _ _ fun _ => ⟨rfl, rfl⟩
def encDrossref17_Lists (x : Drossref17_Lists) : PV := .agg [.slc (List.map (PV.int .u8) x.X), .slc (List.map (PV.int .u8) x.Y)]
@[go_sem] theorem encDrossref17_Lists_fold (x : Drossref17_Lists) : PV.agg [.slc (List.map (PV.int .u8) x.X), .slc (List.map (PV.int .u8) x.Y)] = encDrossref17_Lists x := rfl
@[go_sem] theorem encDrossref17_Lists_cells (x : Drossref17_Lists) : (encDrossref17_Lists x).cells = [.slc (List.map (PV.int .u8) x.X), .slc (List.map (PV.int .u8) x.Y)] := rfl
@[go_sem] theorem encDrossref17_Lists_isAgg (x : Drossref17_Lists) : (encDrossref17_Lists x).isAgg = true := rfl
@[go_sem] theorem encDrossref17_Lists_isTup (x : Drossref17_Lists) : (encDrossref17_Lists x).isTup = false := rfl
@[go_sem] theorem encDrossref17_Lists_sl (l : List Drossref17_Lists) : ((l.map encDrossref17_Lists).all fun y => y.cells.length == 2) = true := by simp [encDrossref17_Lists, PV.cells]
@[go_sem] theorem encDrossref17_Lists_ok (l : List Drossref17_Lists) : ((l.map encDrossref17_Lists).map AV.p).all (elemOk 2) = true := elemOkAll_map _ _ _ fun _ => ⟨rfl, rfl⟩
end Go.Proofs.Ytimfcgdnogjlhaa
set_option linter.unusedVariables false
set_option linter.unusedSimpArgs false
namespace Go.Proofs.Ytimfcgdnogjlhaa
open Go Go.Ab
set_option maxHeartbeats 4000000 in
theorem slices_IndexFunc_int_con {D : Prop} (s1 : List Int) (f2 : Int → Option (Bool)) (f2_k : FuncId) (f2_cs : List PV) (f2_h : ∀ (y3 : Int) (r4 : Bool), f2 y3 = some r4 → Con D Try.prog f2_k ((.int .i64 y3) :: f2_cs) (.bool r4)) (r5 : Int) (h : slices_IndexFunc_int s1 f2 = some r5) : Con D Try.prog 81 [(.slc (List.map (PV.int .i64) s1)), .func (.func f2_k) f2_cs] (.int .i64 r5) := by
 refine zP Try.call81 Try.func81 rfl Try.ntmps81 fun X w => ?_
 simp only [slices_IndexFunc_int] at h
 refine zs (zr ?_)
 refine zU (zl (zn (zs (zs (zr ?_)))))
 refine zU (zl (zn (zb ?_)))
 obtain ⟨o6, h7, h⟩ := zB h
 refine zO (fun (s : Int) => ⟨[(0, .p (.slc (List.map (PV.int .i64) s1))), (1, .p (.func (.func f2_k) f2_cs)), (7, .p (.int .i64 (s1.length : Int))), (8, .p (.int .i64 s))], []⟩) (fun (o : (Unit) ⊕ (Int)) => match o with | .inl o8 => tE (cX Try.f81 X w D) (.exit 0) ⟨[], []⟩ | .inr o9 => tR Try.prog Try.f81 (.int .i64 o9)) h7 ?_ ?_
 clear h h7
 intro t10 x h
 simp only [slices_IndexFunc_int_l1] at h
 refine zs (zr ?_)
 refine zU (zl (zn (zs ?_)))
 rcases zI h with ⟨h11, h⟩ | ⟨h11, h⟩
 refine zi (zk (zn (zs (zb (zs (zr ?_))))))
 refine zU (zl (zn (zs (zr ?_))))
 obtain ⟨x12, h13, h13a, h13b, h⟩ := zX h
 refine zU ?_
 obtain ⟨r14, h15, h⟩ := zB h
 refine zc (f2_h x12 _ h15) ?_
 refine zl (zn ?_)
 rcases zI h with ⟨h16, h⟩ | ⟨h16, h⟩
 refine zi (zs (zr ?_))
 refine zU (zl (zn (zq (yr (zt ?_)))))
 cases h
 exact ⟨rfl, zT Try.results81⟩
 refine zj (zk (yn (zn (zr ?_))))
 refine zU (zl ?_)
 cases h
 exact ⟨rfl, zE⟩
 refine zj (zx (ze ?_))
 cases h
 exact ⟨rfl, zE⟩
 rcases o6 with ⟨⟩ | r17
 try simp only at h
 refine zA (yh (zn (zs (zr ?_))))
 refine zU (zl (zn (zq ?_)))
 cases h
 exact zT Try.results81
 try simp only at h
 refine zZ fun s hq => ?_
 refine yr (zt ?_)
 cases h
 exact hq
end Go.Proofs.Ytimfcgdnogjlhaa
set_option linter.unusedVariables false
set_option linter.unusedSimpArgs false
namespace Go.Proofs.Ytimfcgdnogjlhaa
open Go Go.Ab
set_option maxHeartbeats 4000000 in
theorem slices_ContainsFunc_int_con {D : Prop} (s1 : List Int) (f2 : Int → Option (Bool)) (f2_k : FuncId) (f2_cs : List PV) (f2_h : ∀ (y3 : Int) (r4 : Bool), f2 y3 = some r4 → Con D Try.prog f2_k ((.int .i64 y3) :: f2_cs) (.bool r4)) (r5 : Bool) (h : slices_ContainsFunc_int s1 f2 = some r5) : Con D Try.prog 67 [(.slc (List.map (PV.int .i64) s1)), .func (.func f2_k) f2_cs] (.bool r5) := by
 refine zP Try.call67 Try.func67 rfl Try.ntmps67 fun X w => ?_
 simp only [slices_ContainsFunc_int] at h
 refine zs (zr ?_)
 refine zU (zl (zn (zs (zr ?_))))
 refine zU ?_
 obtain ⟨r6, h7, h⟩ := zB h
 refine zc (slices_IndexFunc_int_con s1 f2 f2_k f2_cs f2_h _ h7) ?_
 refine zU (zl (zn (zq ?_)))
 cases h
 exact zT Try.results67
end Go.Proofs.Ytimfcgdnogjlhaa
set_option linter.unusedVariables false
set_option linter.unusedSimpArgs false
namespace Go.Proofs.Ytimfcgdnogjlhaa
open Go Go.Ab
set_option maxHeartbeats 4000000 in
theorem ordering_list_1_con {D : Prop} (a1 : Int) (c2 : Int) (r3 : Bool) (h : ordering_list_1 a1 c2 = some r3) : Con D Try.prog 68 [(.int .i64 a1), .imm [.int .i64 c2]] (.bool r3) := by
 refine zP Try.call68 Try.func68 rfl Try.ntmps68 fun X w => ?_
 simp only [ordering_list_1] at h
 refine zs (zr ?_)
 refine zU (zl (zn (zs (zr ?_))))
 refine zU ?_
 rcases zI h with ⟨h4, h⟩ | ⟨h4, h⟩
 refine zw 6 true ?_
 refine zh ?_
 refine zU (zl (zn (zq ?_)))
 cases h
 exact zT Try.results68
 replace h := h.symm
 refine zw 6 false ?_
 refine zg ?_
 refine zg ?_
 refine zg ?_
 refine zU (zl (zn (zq ?_)))
 cases h
 exact zT Try.results68
end Go.Proofs.Ytimfcgdnogjlhaa
set_option linter.unusedVariables false
set_option linter.unusedSimpArgs false
namespace Go.Proofs.Ytimfcgdnogjlhaa
open Go Go.Ab
set_option maxHeartbeats 4000000 in
theorem ordering_list_con {D : Prop} (n1 : Int) (l2 : List Int) (r3 : Bool) (h : ordering_list n1 l2 = some r3) : Con D Try.prog 44 [(.int .i64 n1), (.slc (List.map (PV.int .i64) l2))] (.bool r3) := by
 refine zP Try.call44 Try.func44 rfl Try.ntmps44 fun X w => ?_
 simp only [ordering_list] at h
 refine zs (zr ?_)
 refine zU (zl (zn (zs (zr ?_))))
 refine zU ?_
 rcases zI h with ⟨h4, h⟩ | ⟨h4, h⟩
 refine zw 8 true ?_
 refine zg ?_
 refine zg ?_
 obtain ⟨r5, h6, h⟩ := zB h
 replace h := h.symm
 refine zc (slices_ContainsFunc_int_con l2 (fun (y7 : Int) => ordering_list_1 y7 n1) 68 [.imm [.int .i64 n1]] (fun y7 r h => ordering_list_1_con y7 n1 r h) _ h6) ?_
 refine zg ?_
 refine zU (zl (zn (zq ?_)))
 cases h
 exact zT Try.results44
 refine zw 8 false ?_
 refine zh ?_
 refine zU (zl (zn (zq ?_)))
 cases h
 exact zT Try.results44
end Go.Proofs.Ytimfcgdnogjlhaa
set_option linter.unusedVariables false
set_option linter.unusedSimpArgs false
namespace Go.Proofs.Ytimfcgdnogjlhaa
open Go Go.Ab
set_option maxHeartbeats 4000000 in
theorem ordering_Valid_con {D : Prop} (n1 : Int) (d2 : OD) (r3 : Bool) (h : ordering_Valid n1 d2 = some r3) : Con D Try.prog 15 [(.int .i64 n1), (encOD d2)] (.bool r3) := by
 refine zP Try.call15 Try.func15 rfl Try.ntmps15 fun X w => ?_
 simp only [ordering_Valid] at h
 refine zs (zr ?_)
 refine zU (zl (zn (zs (zr ?_))))
 refine zU ?_
 obtain ⟨r4, h5, h⟩ := zB h
 refine zc (ordering_list_con n1 d2.Lhs _ h5) ?_
 refine zU ?_
 rcases zI h with ⟨h6, h⟩ | ⟨h6, h⟩
 refine zw 9 true ?_
 refine zg ?_
 refine zg ?_
 refine zg ?_
 obtain ⟨r7, h8, h⟩ := zB h
 refine zc (ordering_list_con n1 d2.Rhs _ h8) ?_
 refine zU (zl (zn (zq ?_)))
 cases h
 exact zT Try.results15
 refine zw 9 false ?_
 refine zh ?_
 refine zU (zl (zn (zq ?_)))
 cases h
 exact zT Try.results15
end Go.Proofs.Ytimfcgdnogjlhaa
set_option linter.unusedVariables false
set_option linter.unusedSimpArgs false
namespace Go.Proofs.Ytimfcgdnogjlhaa
open Go Go.Ab
set_option maxHeartbeats 4000000 in
theorem slices_Index_int_con {D : Prop} (s1 : List Int) (v2 : Int) (r3 : Int) (h : slices_Index_int s1 v2 = some r3) : Con D Try.prog 77 [(.slc (List.map (PV.int .i64) s1)), (.int .i64 v2)] (.int .i64 r3) := by
 refine zP Try.call77 Try.func77 rfl Try.ntmps77 fun X w => ?_
 simp only [slices_Index_int] at h
 refine zs (zr ?_)
 refine zU (zl (zn (zs (zs (zr ?_)))))
 refine zU (zl (zn (zb ?_)))
 obtain ⟨o4, h5, h⟩ := zB h
 refine zO (fun (s : Int) => ⟨[(0, .p (.slc (List.map (PV.int .i64) s1))), (1, .p (.int .i64 v2)), (7, .p (.int .i64 (s1.length : Int))), (8, .p (.int .i64 s))], []⟩) (fun (o : (Unit) ⊕ (Int)) => match o with | .inl o6 => tE (cX Try.f77 X w D) (.exit 0) ⟨[], []⟩ | .inr o7 => tR Try.prog Try.f77 (.int .i64 o7)) h5 ?_ ?_
 clear h h5
 intro t8 x h
 simp only [slices_Index_int_l1] at h
 refine zs (zr ?_)
 refine zU (zl (zn (zs ?_)))
 rcases zI h with ⟨h9, h⟩ | ⟨h9, h⟩
 refine zi (zk (zn (zs (zb (zs (zr ?_))))))
 refine zU (zl (zn (zs (zr ?_))))
 obtain ⟨x10, h11, h11a, h11b, h⟩ := zX h
 refine zU (zl (zn ?_))
 rcases zI h with ⟨h12, h⟩ | ⟨h12, h⟩
 refine zi (zs (zr ?_))
 refine zU (zl (zn (zq (yr (zt ?_)))))
 cases h
 exact ⟨rfl, zT Try.results77⟩
 refine zj (zk (yn (zn (zr ?_))))
 refine zU (zl ?_)
 cases h
 exact ⟨rfl, zE⟩
 refine zj (zx (ze ?_))
 cases h
 exact ⟨rfl, zE⟩
 rcases o4 with ⟨⟩ | r13
 try simp only at h
 refine zA (yh (zn (zs (zr ?_))))
 refine zU (zl (zn (zq ?_)))
 cases h
 exact zT Try.results77
 try simp only at h
 refine zZ fun s hq => ?_
 refine yr (zt ?_)
 cases h
 exact hq
end Go.Proofs.Ytimfcgdnogjlhaa
set_option linter.unusedVariables false
set_option linter.unusedSimpArgs false
namespace Go.Proofs.Ytimfcgdnogjlhaa
open Go Go.Ab
set_option maxHeartbeats 4000000 in
theorem slices_Contains_int_con {D : Prop} (s1 : List Int) (v2 : Int) (r3 : Bool) (h : slices_Contains_int s1 v2 = some r3) : Con D Try.prog 61 [(.slc (List.map (PV.int .i64) s1)), (.int .i64 v2)] (.bool r3) := by
 refine zP Try.call61 Try.func61 rfl Try.ntmps61 fun X w => ?_
 simp only [slices_Contains_int] at h
 refine zs (zr ?_)
 refine zU (zl (zn (zs (zr ?_))))
 refine zU ?_
 obtain ⟨r4, h5, h⟩ := zB h
 refine zc (slices_Index_int_con s1 v2 _ h5) ?_
 refine zU (zl (zn (zq ?_)))
 cases h
 exact zT Try.results61
end Go.Proofs.Ytimfcgdnogjlhaa
set_option linter.unusedVariables false
set_option linter.unusedSimpArgs false
namespace Go.Proofs.Ytimfcgdnogjlhaa
open Go Go.Ab
set_option maxHeartbeats 4000000 in
theorem ordering_once_con {D : Prop} (l1 : List Int) (r2 : List Int) (h : ordering_once l1 = some r2) : Con D Try.prog 35 [(.slc (List.map (PV.int .i64) l1))] (.slc (List.map (PV.int .i64) r2)) := by
 refine zP Try.call35 Try.func35 rfl Try.ntmps35 fun X w => ?_
 simp only [ordering_once] at h
 refine zs (zr ?_)
 refine zU (zl (zn (zs (zr ?_))))
 refine zU (zl (zn (zs (zs (zr ?_)))))
 refine zU (zl (zn (zb ?_)))
 obtain ⟨o3, h4, h⟩ := zB h
 refine zO (fun (s : List Int × Int) => ⟨[(3, .own 19 1 0 s.1.length), (6, .p (.slc (List.map (PV.int .i64) l1))), (7, .p (.int .i64 (l1.length : Int))), (8, .p (.int .i64 s.2))], [(19, .arr 3 1 1 (List.map AV.p (List.map (PV.int .i64) s.1)))]⟩) (fun (o5 : List Int) => tE (cX Try.f35 X w D) (.exit 0) ⟨[(3, .own 19 1 0 o5.length)], [(19, .arr 3 1 1 (List.map AV.p (List.map (PV.int .i64) o5)))]⟩) h4 ?_ ?_
 clear h h4
 intro s x h
 obtain ⟨o6, t7⟩ := s
 simp only [ordering_once_l1] at h
 dsimp only
 refine zs (zr ?_)
 refine zU (zl (zn (zs ?_)))
 rcases zI h with ⟨h8, h⟩ | ⟨h8, h⟩
 refine zi (zk (zn (zs (zb (zs (zr ?_))))))
 obtain ⟨x9, h10, h10a, h10b, h⟩ := zX h
 refine zU (zl (zn (zs (zr ?_))))
 refine zU ?_
 obtain ⟨r11, h12, h⟩ := zB h
 refine zc (slices_Contains_int_con o6 x9 _ h12) ?_
 refine zU (zl (zn ?_))
 rcases zI h with ⟨h13, h⟩ | ⟨h13, h⟩
 refine zj (zk (yn (zn (zr ?_))))
 refine zU (zl ?_)
 cases h
 exact ⟨rfl, zE⟩
 refine zi (zr ?_)
 obtain ⟨h14, h⟩ := ite_some h
 refine zU (zl (yn (zn (zr ?_))))
 refine zU (zl ?_)
 cases h
 exact ⟨rfl, zE⟩
 refine zj (zx (ze ?_))
 cases h
 exact ⟨rfl, zE⟩
 try simp only at h
 refine zA (yh (zn (zs (zr ?_))))
 refine zU (zl (zn (zq ?_)))
 cases h
 exact zT Try.results35
end Go.Proofs.Ytimfcgdnogjlhaa
set_option linter.unusedVariables false
set_option linter.unusedSimpArgs false
namespace Go.Proofs.Ytimfcgdnogjlhaa
open Go Go.Ab
set_option maxHeartbeats 4000000 in
theorem slices_Index_Canonical_con {D : Prop} (s1 : List Canonical) (v2 : Canonical) (r3 : Int) (h : slices_Index_Canonical s1 v2 = some r3) : Con D Try.prog 62 [(.slc (List.map encCanonical s1)), (encCanonical v2)] (.int .i64 r3) := by
 refine zP Try.call62 Try.func62 rfl Try.ntmps62 fun X w => ?_
 simp only [slices_Index_Canonical] at h
 refine zs (zr ?_)
 refine zU (zl (zn (zs (zs (zr ?_)))))
 refine zU (zl (zn (zb ?_)))
 obtain ⟨o4, h5, h⟩ := zB h
 refine zO (fun (s : Int) => ⟨[(0, .p (.slc (List.map encCanonical s1))), (3, .loc 3 1 0 0), (7, .p (.int .i64 (s1.length : Int))), (8, .p (.int .i64 s))], [(3, .arr 69 3 1 [.p (encCanonical v2)])]⟩) (fun (o : (Unit) ⊕ (Int)) => match o with | .inl o6 => tE (cX Try.f62 X w D) (.exit 0) ⟨[], []⟩ | .inr o7 => tR Try.prog Try.f62 (.int .i64 o7)) h5 ?_ ?_
 clear h h5
 intro t8 x h
 simp only [slices_Index_Canonical_l1] at h
 refine zs (zr ?_)
 refine zU (zl (zn (zs ?_)))
 rcases zI h with ⟨h9, h⟩ | ⟨h9, h⟩
 refine zi (zk (zn (zs (zb (zs (zr ?_))))))
 refine zU (zl (zn (zs (zd ?_))))
 obtain ⟨x10, h11, h11a, h11b, h⟩ := zX h
 refine yU ?_
 refine yd (zn ?_)
 rcases zI h with ⟨h12, h⟩ | ⟨h12, h⟩
 refine zi (zs (zr ?_))
 refine zU (zl (zn (zq (yr (zt ?_)))))
 cases h
 exact ⟨rfl, zT Try.results62⟩
 refine zj (zk (yn (zn (zr ?_))))
 refine zU (zl ?_)
 cases h
 exact ⟨rfl, zE⟩
 refine zj (zx (ze ?_))
 cases h
 exact ⟨rfl, zE⟩
 rcases o4 with ⟨⟩ | r13
 try simp only at h
 refine zA (yh (zn (zs (zr ?_))))
 refine zU (zl (zn (zq ?_)))
 cases h
 exact zT Try.results62
 try simp only at h
 refine zZ fun s hq => ?_
 refine yr (zt ?_)
 cases h
 exact hq
end Go.Proofs.Ytimfcgdnogjlhaa
set_option linter.unusedVariables false
set_option linter.unusedSimpArgs false
namespace Go.Proofs.Ytimfcgdnogjlhaa
open Go Go.Ab
set_option maxHeartbeats 4000000 in
theorem slices_Contains_Canonical_con {D : Prop} (s1 : List Canonical) (v2 : Canonical) (r3 : Bool) (h : slices_Contains_Canonical s1 v2 = some r3) : Con D Try.prog 37 [(.slc (List.map encCanonical s1)), (encCanonical v2)] (.bool r3) := by
 refine zP Try.call37 Try.func37 rfl Try.ntmps37 fun X w => ?_
 simp only [slices_Contains_Canonical] at h
 refine zs (zr ?_)
 refine zU (zl (zn (zs (zr ?_))))
 refine zU ?_
 obtain ⟨r4, h5, h⟩ := zB h
 refine zc (slices_Index_Canonical_con s1 v2 _ h5) ?_
 refine zU (zl (zn (zq ?_)))
 cases h
 exact zT Try.results37
end Go.Proofs.Ytimfcgdnogjlhaa
namespace Go.Proofs
open Go Go.Ab Go.Shelf
def Ytimfcgdnogjlhaa.sort64_ren : Go.Shelf.Ren := ⟨fun | 5 => 64 | 8 => 80 | 7 => 79 | 19 => 102 | 20 => 103 | 10 => 93 | 11 => 94 | 12 => 95 | 13 => 96 | 14 => 97 | 15 => 98 | 16 => 99 | 17 => 100 | 18 => 101 | 30 => 112 | 31 => 113 | 32 => 114 | 33 => 115 | 34 => 116 | 35 => 90 | 40 => 118 | n => n, fun | 23 => 22 | 25 => 3 | 3 => 3 | 32 => 112 | 22 => 22 | 0 => 0 | 44 => 66 | 46 => 129 | 4 => 4 | 36 => 121 | 35 => 120 | 41 => 47 | 5 => 5 | 9 => 9 | 53 => 134 | 57 => 138 | 63 => 141 | 64 => 142 | n => n, fun | n => n⟩
theorem Ytimfcgdnogjlhaa.sort64 : Go.Proofs.SlLaysM.n5 Try.prog Ytimfcgdnogjlhaa.sort64_ren := {
  mixed := by kernel_rfl
  f5 := ⟨Try.f64.name, by decide, Try.func64.trans (congrArg some (by kernel_rfl))⟩
  f7 := ⟨Try.f79.name, by decide, Try.func79.trans (congrArg some (by kernel_rfl))⟩
  f8 := Try.func80.trans (congrArg some (by kernel_rfl))
  f10 := ⟨Try.f93.name, by decide, Try.func93.trans (congrArg some (by kernel_rfl))⟩
  f11 := ⟨Try.f94.name, by decide, Try.func94.trans (congrArg some (by kernel_rfl))⟩
  f12 := ⟨Try.f95.name, by decide, Try.func95.trans (congrArg some (by kernel_rfl))⟩
  f13 := ⟨Try.f96.name, by decide, Try.func96.trans (congrArg some (by kernel_rfl))⟩
  f14 := ⟨Try.f97.name, by decide, Try.func97.trans (congrArg some (by kernel_rfl))⟩
  f15 := ⟨Try.f98.name, by decide, Try.func98.trans (congrArg some (by kernel_rfl))⟩
  f16 := ⟨Try.f99.name, by decide, Try.func99.trans (congrArg some (by kernel_rfl))⟩
  f17 := ⟨Try.f100.name, by decide, Try.func100.trans (congrArg some (by kernel_rfl))⟩
  f18 := ⟨Try.f101.name, by decide, Try.func101.trans (congrArg some (by kernel_rfl))⟩
  f19 := Try.func102.trans (congrArg some (by kernel_rfl))
  f20 := Try.func103.trans (congrArg some (by kernel_rfl))
  f30 := ⟨Try.f112.name, by decide, Try.func112.trans (congrArg some (by kernel_rfl))⟩
  f31 := Try.func113.trans (congrArg some (by kernel_rfl))
  f32 := Try.func114.trans (congrArg some (by kernel_rfl))
  f33 := ⟨Try.f115.name, by decide, Try.func115.trans (congrArg some (by kernel_rfl))⟩
  f34 := ⟨Try.f116.name, by decide, Try.func116.trans (congrArg some (by kernel_rfl))⟩
  f35 := ⟨Try.f90.name, by decide, Try.func90.trans (congrArg some (by kernel_rfl))⟩
  f40 := ⟨Try.f118.name, by decide, Try.func118.trans (congrArg some (by kernel_rfl))⟩
  t0 := Try.underlying0
  a0 := Try.isAgg0
  z0 := Try.sizeOf0
  v0 := Try.zeroValue0
  t3 := Try.underlying3
  a3 := Try.isAgg3
  z3 := Try.sizeOf3
  v3 := Try.zeroValue3
  t4 := Try.underlying4
  a4 := Try.isAgg4
  z4 := Try.sizeOf4
  v4 := Try.zeroValue4
  t5 := Try.underlying5
  a5 := Try.isAgg5
  z5 := Try.sizeOf5
  v5 := Try.zeroValue5
  t9 := Try.underlying9
  a9 := Try.isAgg9
  z9 := Try.sizeOf9
  v9 := Try.zeroValue9
  t22 := Try.underlying22
  a22 := Try.isAgg22
  z22 := Try.sizeOf22
  v22 := Try.zeroValue22
  t23 := Try.underlying22
  a23 := Try.isAgg22
  z23 := Try.sizeOf22
  v23 := Try.zeroValue22
  t25 := Try.underlying3
  a25 := Try.isAgg3
  z25 := Try.sizeOf3
  v25 := Try.zeroValue3
  t32 := Try.underlying112
  a32 := Try.isAgg112
  z32 := Try.sizeOf112
  v32 := Try.zeroValue112
  t35 := Try.underlying120
  a35 := Try.isAgg120
  z35 := Try.sizeOf120
  v35 := Try.zeroValue120
  t36 := Try.underlying121
  a36 := Try.isAgg121
  z36 := Try.sizeOf121
  v36 := Try.zeroValue121
  t41 := Try.underlying47
  a41 := Try.isAgg47
  z41 := Try.sizeOf47
  v41 := Try.zeroValue47
  t44 := Try.underlying66
  a44 := Try.isAgg66
  z44 := Try.sizeOf66
  v44 := Try.zeroValue66
  t46 := Try.underlying129
  a46 := Try.isAgg129
  z46 := Try.sizeOf129
  v46 := Try.zeroValue129
  t53 := Try.underlying134
  a53 := Try.isAgg134
  z53 := Try.sizeOf134
  v53 := Try.zeroValue134
  t57 := Try.underlying138
  a57 := Try.isAgg138
  z57 := Try.sizeOf138
  v57 := Try.zeroValue138
  t63 := Try.underlying141
  a63 := Try.isAgg141
  z63 := Try.sizeOf141
  v63 := Try.zeroValue141
  t64 := Try.underlying142
  a64 := Try.isAgg142
  z64 := Try.sizeOf142
  v64 := Try.zeroValue142 }
theorem Ytimfcgdnogjlhaa.srt64 : SrtI Try.prog 64 := ⟨Try.call64, fun blk off cap zs w hH hb hs => AnyM.slices_Sort_int Ytimfcgdnogjlhaa.sort64 blk off cap zs w hH hb hs, fun p cap w => AnyM.slices_Sort_int_none Ytimfcgdnogjlhaa.sort64 p cap w⟩
end Go.Proofs
namespace Go.Proofs
open Go Go.RowKit Go.Shelf
attribute [local go_sem] Oper.semAt_some

def Ytimfcgdnogjlhaa.upto {α : Type} (f : Nat → α) (k : Nat) : List α := (List.range k).map f
theorem Ytimfcgdnogjlhaa.upto_succ {α : Type} (f : Nat → α) (k : Nat) : Ytimfcgdnogjlhaa.upto f (k + 1) = Ytimfcgdnogjlhaa.upto f k ++ [f k] := by simp [Ytimfcgdnogjlhaa.upto, List.range_succ]
theorem Ytimfcgdnogjlhaa.upto_length {α : Type} (f : Nat → α) (k : Nat) : (Ytimfcgdnogjlhaa.upto f k).length = k := by simp [Ytimfcgdnogjlhaa.upto]
theorem Ytimfcgdnogjlhaa.upto_all (zs : List Int) : Ytimfcgdnogjlhaa.upto (fun j => zs[j]?.getD 0) zs.length = zs := by
  apply List.ext_getElem
  · simp [Ytimfcgdnogjlhaa.upto]
  · intro i h1 h2
    simp [Ytimfcgdnogjlhaa.upto, h2]

set_option maxRecDepth 100000 in
set_option maxHeartbeats 2000000 in
theorem Ytimfcgdnogjlhaa.values1_in (F : Fence) (n : Nat) (h7 : F.fn 65) (hro : F.round = none) (hn : 1 ≤ n) (l Bs bo n₀ b off len cap : Nat) (zs : List Int) (hreach : len * 8 ≤ 140737488351232) (hb : b < n₀) (J Jx : List Int → World → Prop)
    (hY : ∀ pre x W, J pre W → pre.length < len → YieldAt F (n - 1) Try.prog l #[.int .i64 x] W fun e W' =>
      (e = .returned (.bool true) ∧ J (pre ++ [x]) W' ∧ Below n₀ W W') ∨ (e = .returned (.bool false) ∧ Jx (pre ++ [x]) W'))
    (W : World) (hBs : W.cell? ⟨Bs, bo, none⟩ = some (.slice (some ⟨b, off, none⟩) len cap)) (hc : ∀ j, j < len → W.cell? ⟨b, off + j, none⟩ = some (.int .i64 (zs[j]?.getD 0))) (h0 : J [] W) :
    CallsIn F n Try.prog 65 #[.func (.yield l) #[] #[], .pointer (some ⟨Bs, bo, none⟩)] W fun e W' => (∃ v, e = .returned v) ∧
      ((∃ ys, ys = Ytimfcgdnogjlhaa.upto (fun j => zs[j]?.getD 0) len ∧ J ys W') ∨ (∃ pre, (∃ k, k ≤ len ∧ pre = Ytimfcgdnogjlhaa.upto (fun j => zs[j]?.getD 0) k) ∧ Jx pre W')) := by
  refine callsIn_of_wp Try.func65 rfl h7 ?_ hro
  simp only [Try.ntmps65, List.size_toArray, List.length_cons, List.length_nil, Nat.reduceAdd, Nat.reduceSub, Array.replicate_succ, Array.replicate_zero, List.push_toArray, List.append_toArray, List.nil_append, List.cons_append]
  gi_wp2
  gi_loopw [7] (fun i wr => ∃ k : Nat, k ≤ len ∧ i = .int .i64 k ∧ J (Ytimfcgdnogjlhaa.upto (fun j => zs[j]?.getD 0) k) wr ∧ Below n₀ W wr)
    (fun i _ => len - (intOf i).toNat)
  case atStart => exact ⟨0, Nat.zero_le _, rfl, h0, Below.refl _ _⟩
  case round =>
    obtain ⟨k, hk, rfl, hJs, hnx⟩ := hrel
    have hcx : k < len → wr.cell? ⟨b, off + k, none⟩ = some (.int .i64 (zs[k]?.getD 0)) := fun h => (hnx.cell (p := ⟨b, off + k, none⟩) hb).trans (hc k h)
    by_cases hlt : k < len
    · obtain ⟨fn, tmps, assign, body, hy, hR⟩ := hY _ (zs[k]?.getD 0) wr hJs (by rw [Ytimfcgdnogjlhaa.upto_length]; exact hlt)
      have hcx' := hcx hlt
      gi_wp2
      refine hR.mono ?_
      rintro e W3 (⟨rfl, hJ3, hk3⟩ | ⟨rfl, hJx3⟩)
      · gi_wp2
        go_roundw
        case rel => exact ⟨k + 1, by omega, by simp, by rw [Ytimfcgdnogjlhaa.upto_succ]; exact hJ3, hnx.trans hk3⟩
        case measure => simp [intOf]; omega
      · gi_wp2
        refine bodyPost_ret (results_none rfl _ _ _) rfl ?_
        exact ⟨⟨_, rfl⟩, .inr ⟨_, ⟨k + 1, by omega, (Ytimfcgdnogjlhaa.upto_succ _ _).symm⟩, hJx3⟩⟩
    · obtain rfl : k = len := by omega
      gi_wp2
      go_end0
      exact ⟨⟨_, rfl⟩, .inl ⟨_, rfl, hJs⟩⟩

theorem Ytimfcgdnogjlhaa.upto_take (zs : List Int) {k : Nat} (hk : k ≤ zs.length) : Ytimfcgdnogjlhaa.upto (fun j => zs[j]?.getD 0) k = zs.take k := by
  apply List.ext_getElem
  · simp [Ytimfcgdnogjlhaa.upto, hk]
  · intro i h1 h2
    have : i < zs.length := by simp [Ytimfcgdnogjlhaa.upto] at h1; omega
    simp [Ytimfcgdnogjlhaa.upto, this]

set_option maxRecDepth 100000 in
set_option maxHeartbeats 1000000 in
theorem Ytimfcgdnogjlhaa.values1_nil_in (F : Fence) (n : Nat) (h7 : F.fn 65) (hro : F.round = none) (l Bs bo : Nat) (a : Option Addr) (cap : Nat) (J : List Int → World → Prop) (W : World) (hBs : W.cell? ⟨Bs, bo, none⟩ = some (.slice a 0 cap)) (h0 : J [] W) :
    CallsIn F n Try.prog 65 #[.func (.yield l) #[] #[], .pointer (some ⟨Bs, bo, none⟩)] W fun e W' => (∃ v, e = .returned v) ∧ J [] W' := by
  refine callsIn_of_wp Try.func65 rfl h7 ?_ hro
  simp only [Try.ntmps65, List.size_toArray, List.length_cons, List.length_nil, Nat.reduceAdd, Nat.reduceSub, Array.replicate_succ, Array.replicate_zero, List.push_toArray, List.append_toArray, List.nil_append, List.cons_append]
  gi_wp2
  gi_loopw [7] (fun i wr => i = .int .i64 0 ∧ J [] wr) (fun _ _ => 0)
  case atStart => exact ⟨rfl, h0⟩
  case round =>
    obtain ⟨rfl, hJs⟩ := hrel
    gi_wp2
    go_end0
    exact ⟨⟨_, rfl⟩, hJs⟩

theorem Ytimfcgdnogjlhaa.values_stops (F : Fence) (n : Nat) (h7 : F.fn 65) (hro : F.round = none) (hn : 1 ≤ n) (Bs bo n₀ : Nat) (sv : Go.Value) (zs : List Int) (hreach : zs.length * 8 ≤ 140737488351232) (w : World) (hBs : Bs < w.heap.size) (hn₀ : n₀ ≤ w.heap.size)
    (hc : w.cell? ⟨Bs, bo, none⟩ = some sv) (hI : Ab.IntsAt n₀ w sv zs) :
    SeqStopsK F n Try.prog 65 #[.pointer (some ⟨Bs, bo, none⟩)] (fun x : Int => #[Go.Value.int .i64 x]) (Below n₀) (fun ys => ys = zs) (fun pre => pre <+: zs) zs.length w := fun l J Jx W hW _ _ hY h0 => by
  have hc' := (hW.cell (p := ⟨Bs, bo, none⟩) hBs).trans hc
  rcases hI.below (hW.mono hn₀) with ⟨a, cap, rfl, rfl⟩ | ⟨b, off, cap, rfl, hb, hcs⟩
  · exact (Ytimfcgdnogjlhaa.values1_nil_in F n h7 hro l Bs bo a cap J W hc' h0).mono fun e W' ⟨he, hj⟩ => ⟨he, .inl ⟨_, rfl, hj⟩⟩
  · refine (Ytimfcgdnogjlhaa.values1_in F n h7 hro hn l Bs bo n₀ b off zs.length cap zs hreach hb J Jx hY W hc' hcs h0).mono ?_
    rintro e W' ⟨he, ⟨ys, rfl, hj⟩ | ⟨pre, ⟨k, hk, rfl⟩, hj⟩⟩
    · exact ⟨he, .inl ⟨_, Ytimfcgdnogjlhaa.upto_all zs, hj⟩⟩
    · exact ⟨he, .inr ⟨_, by rw [Ytimfcgdnogjlhaa.upto_take zs hk]; exact List.take_prefix _ _, hj⟩⟩

theorem Ytimfcgdnogjlhaa.infoE : (Try.prog.info? 3).map (fun i => (i.zero, i.size, i.bytes)) = some (some (.int .i64 0), 1, 8) := by kernel_rfl

set_option maxRecDepth 100000 in
set_option maxHeartbeats 2000000 in
theorem Ytimfcgdnogjlhaa.apseq_in (F : Fence) (n : Nat) (h3 : F.fn 78) (h5 : F.fn 65) (hro : F.round = none) (hn : 2 ≤ n) (Bs bo : Nat) (sv : Go.Value) (zs : List Int) (hlen : zs.length ≤ maxLen) (hbytes : zs.length * 8 ≤ 140737488351232) (w : World)
    (hBs : Bs < w.heap.size) (hcs : w.cell? ⟨Bs, bo, none⟩ = some sv) (hI : Ab.IntsAt w.heap.size w sv zs) :
    CallsIn F n Try.prog 78 #[.slice none 0 0, .func (.func 65) #[] #[.pointer (some ⟨Bs, bo, none⟩)]] w fun e W' => ∃ v, e = .returned v ∧ W'.ownsRow w.heap.size 3 1 v zs.length (zs.map (Go.Value.int .i64)) ∧ (v = .slice none 0 0 ↔ zs = []) ∧ Below w.heap.size w W' := by
  have h1 : 1 ≤ n := by omega
  obtain ⟨i0, hi, hz0, hz1, hz2⟩ := info_parts Ytimfcgdnogjlhaa.infoE
  refine callsIn_of_wp_marks Try.func78 rfl h3 ?_ hro
  simp only [Try.ntmps78, List.size_toArray, List.length_cons, List.length_nil, Nat.reduceAdd, Nat.reduceSub, Array.replicate_succ, Array.replicate_zero, List.push_toArray, List.append_toArray, List.nil_append, List.cons_append]
  gi_wp2
  have bO := Boxed.new w 22 (.slice none 0 0)
  have hB0 : Below w.heap.size w (w.alloc (.cells #[.slice none 0 0] 22)) := (Below.refl _ w).alloc (Nat.le_refl _) _
  refine wpIn_rangeFunc_ownG hro h1 (gf := 65) (lb := #[.pointer (some ⟨Bs, bo, none⟩)]) rfl h5 (enters_of Try.func65 (by kernel_rfl) rfl)
    (Ytimfcgdnogjlhaa.values_stops F (n - 1) h5 hro (by omega) Bs bo w.heap.size sv zs hbytes (w.alloc (.cells #[.slice none 0 0] 22)) (by simp; omega) (by simp) ((hB0.cell (p := ⟨Bs, bo, none⟩) hBs).trans hcs) (hI.below hB0)) belowK_t (belowK_b (by simp)) (Below.refl _ _) (fun _ => rfl)
    (fun pre W => (∃ v, Boxed W w.heap.size 22 v ∧ W.ownsRow w.heap.size 3 1 v pre.length (pre.map (Go.Value.int .i64)) ∧ (v = .slice none 0 0 ↔ pre = [])) ∧ Below w.heap.size w W)
    (fun _ _ _ => False)
    (OwnFrom.and (Own.from (holdsRow_own w.heap.size w.heap.size 22 3 1 (fun pre => pre.length) (fun pre => pre.map (Go.Value.int .i64)) (fun pre v => v = .slice none 0 0 ↔ pre = [])) _) (ownFrom_below (Nat.le_refl _) (by simp)))
    (fun _ _ _ _ _ hs _ _ => hs)
    ⟨⟨_, bO, World.ownsRow_nil _ _ _ _, by simp⟩, hB0⟩
    (fun x => { tmps := #[.slice none 0 0, .func (.func 65) #[] #[.pointer (some ⟨Bs, bo, none⟩)], .pointer (some ⟨w.heap.size, 0, none⟩), undef, .slice none 0 0, .int .i64 x, .func (.func 65) #[] #[.pointer (some ⟨Bs, bo, none⟩)], .int .i64 x, undef, undef, undef, undef, undef], defers := [] }) ?assign ?body ?done ?stop
  case assign =>
    intro l x W K hK
    gi_wp2
    exact hK
  case body =>
    rintro l pre x W ⟨⟨v, hv, hrow, hnil⟩, hB⟩ hlt
    have hc := hv.cell
    gi_wp2_with (gi_at_builtin; refine wpListIn_append_own _ rfl _ _ 22 rfl w.heap.size 3 i0 (.int .i64 0) 1 8 Try.underlying22 hi hz0 hz1 hz2 rfl (by decide) _ _ _ rfl (hrow.alloc _) ⟨W.heap.size, 0, none⟩ 1 1 [.int .i64 x] rfl rfl (cell_one_new _ _ _) (by simp [Go.Value.oneCell']) (by omega) (by omega) (by have := hB.size; simp; omega) ?_; intro v' w1 hown' hgrow _; obtain ⟨g', cap', rfl⟩ := ownsRow_succ hown'; obtain ⟨hv1, hv2, hr2, hk2, hb2⟩ := hv.appended (by decide) hrow hB.size (Nat.le_refl _) hown' hgrow; have hc1 := hv1.cell; have hf1 := hv1.frozen)
    exact ⟨hk2.from _, hb2, ⟨_, hv2, by simpa using hr2, by simp⟩, hB.trans hb2⟩
  case done =>
    rintro D ys W hD rfl ⟨⟨v, hv, hrow, hnil⟩, hB⟩ hK
    have hc := hv.cell
    gi_wp2
    refine ⟨by simp, .inl ⟨_, _, rfl, run_takeDeferred hK, ?_⟩⟩
    exact ⟨_, results_tmp rfl _ _ _, v, rfl, ownsRow_putObj hrow _ hK rfl, hnil, hB.trans (belowK_b (w := w) (Nat.le_refl _) W D _ _ (by simp at hD; omega) hK rfl rfl)⟩
  case stop =>
    rintro D c pre W _ _ h _
    exact h.elim

set_option maxHeartbeats 1000000 in
theorem Ytimfcgdnogjlhaa.collect (Bs bo : Nat) (sv : Go.Value) (zs : List Int) (w : World) (hlen : zs.length ≤ 1000000000000) (hBs : Bs < w.heap.size) (hcs : w.cell? ⟨Bs, bo, none⟩ = some sv) (hI : Ab.IntsAt w.heap.size w sv zs) :
    Calls Try.prog 63 #[.func (.func 65) #[] #[.pointer (some ⟨Bs, bo, none⟩)]] w fun e W' => ∃ v, e = .returned v ∧ W'.ownsRow w.heap.size 3 1 v zs.length (zs.map (Go.Value.int .i64)) ∧ (v = .slice none 0 0 ↔ zs = []) ∧ Below w.heap.size w W' := by
  refine (callsIn_wide (n := 5)).1 ?_
  have cA := Ytimfcgdnogjlhaa.apseq_in Fence.wide 4 trivial trivial rfl (by omega) Bs bo sv zs (by unfold maxLen; omega) (by omega) w hBs hcs hI
  have hfA : Fence.wide.fn 78 := trivial
  refine callsIn_of_wp Try.func63 rfl trivial ?_ rfl
  simp only [Try.ntmps63, List.size_toArray, List.length_cons, List.length_nil, Nat.reduceAdd, Nat.reduceSub, Array.replicate_succ, Array.replicate_zero, List.push_toArray, List.append_toArray, List.nil_append, List.cons_append]
  gi_wp2_with (gi_at_call 78; refine cA.mono ?_; rintro e w' ⟨v, rfl, hrow, hnil, hb⟩)
  go_ret
  exact ⟨v, rfl, hrow, hnil, hb⟩
theorem Ytimfcgdnogjlhaa.coll63 : Ab.Coll Try.prog 63 65 3 := ⟨fun args w => enters_of Try.func63 (by kernel_rfl) rfl args w, Ytimfcgdnogjlhaa.collect⟩
end Go.Proofs
set_option linter.unusedVariables false
set_option linter.unusedSimpArgs false
namespace Go.Proofs.Ytimfcgdnogjlhaa
open Go Go.Ab
set_option maxHeartbeats 4000000 in
theorem slices_Sorted_int_con (s1 : List Int) (r2 : List Int) (h : slices_Sorted_int s1 = some r2) : Con False Try.prog 38 [(.func (.func 65) [.imm [.slc (List.map (PV.int .i64) s1)]])] (.slc (List.map (PV.int .i64) r2)) := by
 refine zP Try.call38 Try.func38 rfl Try.ntmps38 fun X w => ?_
 simp only [slices_Sorted_int] at h
 refine zs (zr ?_)
 refine zU (zl (zn (zs (zr ?_))))
 refine zU ?_
 obtain ⟨h3, h⟩ := ite_some h
 refine zQ coll63 5 h3 ?_
 refine zU (zl (zn (zs (zr ?_))))
 refine zU ?_
 refine zM ⟨[(3, .own 5 1 0 s1.length), (6, .own 5 1 0 s1.length)], [(5, .arr 3 1 1 (List.map AV.p (List.map (PV.int .i64) s1)))]⟩ ?_
 obtain ⟨l4, h5, h⟩ := zB h
 refine zSI srt64 h5 ?_
 have h6 := srtIF_len h5
 refine zM ⟨[(3, .own 5 1 0 l4.length), (7, .p (.tup []))], [(5, .arr 3 1 1 (List.map AV.p (List.map (PV.int .i64) l4)))]⟩ ?_
 clear h6
 refine zl (zn (zs (zr ?_)))
 refine zU (zl (zn (zq ?_)))
 cases h
 exact zT Try.results38
end Go.Proofs.Ytimfcgdnogjlhaa
set_option linter.unusedVariables false
set_option linter.unusedSimpArgs false
namespace Go.Proofs.Ytimfcgdnogjlhaa
open Go Go.Ab
set_option maxHeartbeats 4000000 in
theorem slices_Values_int_con {D : Prop} (l : List Int) (r : List Int) (h : slices_Values_int l = some r) : Con D Try.prog 39 [(.slc (List.map (PV.int .i64) l))] (.func (.func 65) [.imm [.slc (List.map (PV.int .i64) r)]]) := by
 cases h
 refine zP Try.call39 Try.func39 rfl Try.ntmps39 fun X w => ?_
 refine zs (zr ?_)
 refine zU (zl (zn (zs (zr ?_))))
 refine zU (zl (zn (zq ?_)))
 exact zT Try.results39
end Go.Proofs.Ytimfcgdnogjlhaa
set_option linter.unusedVariables false
set_option linter.unusedSimpArgs false
namespace Go.Proofs.Ytimfcgdnogjlhaa
open Go Go.Ab
set_option maxHeartbeats 4000000 in
theorem ordering_set_con {D : Prop} (l1 : List Int) (r2 : Int) (h : ordering_set l1 = some r2) : Con D Try.prog 40 [(.slc (List.map (PV.int .i64) l1))] (.int .u32 r2) := by
 refine zP Try.call40 Try.func40 rfl Try.ntmps40 fun X w => ?_
 simp only [ordering_set] at h
 refine zs (zr ?_)
 refine zU (zl (zn (zs (zr ?_))))
 refine zU (zl (zn (zs (zs (zr ?_)))))
 refine zU (zl (zn (zb ?_)))
 obtain ⟨s3, h4, h⟩ := zB h
 refine zO (fun (s : Int × Int) => ⟨[(3, .p (.int .u32 s.1)), (6, .p (.slc (List.map (PV.int .i64) l1))), (7, .p (.int .i64 (l1.length : Int))), (8, .p (.int .i64 s.2))], []⟩) (fun (o5 : Int) => tE (cX Try.f40 X w D) (.exit 0) ⟨[(3, .p (.int .u32 o5))], []⟩) h4 ?_ ?_
 clear h h4
 intro s x h
 obtain ⟨s6, t7⟩ := s
 simp only [ordering_set_l1] at h
 dsimp only
 refine zs (zr ?_)
 refine zU (zl (zn (zs ?_)))
 rcases zI h with ⟨h8, h⟩ | ⟨h8, h⟩
 refine zi (zk (zn (zs (zb (zs (zr ?_))))))
 obtain ⟨x9, h10, h10a, h10b, h⟩ := zX h
 refine zU (zl (zn (zr ?_)))
 obtain ⟨h11, h⟩ := ite_none h
 refine zU (zl (yn (zn (zr ?_))))
 refine zU (zl ?_)
 cases h
 exact ⟨rfl, zE⟩
 refine zj (zx (ze ?_))
 cases h
 exact ⟨rfl, zE⟩
 try simp only at h
 refine zA (yh (zn (zs (zr ?_))))
 refine zU (zl (zn (zq ?_)))
 cases h
 exact zT Try.results40
end Go.Proofs.Ytimfcgdnogjlhaa
set_option linter.unusedVariables false
set_option linter.unusedSimpArgs false
namespace Go.Proofs.Ytimfcgdnogjlhaa
open Go Go.Ab
set_option maxRecDepth 20000 in
set_option maxHeartbeats 4000000 in
theorem ordering_Canonical_con (d1 : OD) (r2 : List Canonical × Int) (h : ordering_Canonical d1 = some r2) : Con False Try.prog 10 [(encOD d1)] (.tup [(.slc (List.map encCanonical r2.1)), (.int .i64 r2.2)]) := by
 refine zP Try.call10 Try.func10 rfl Try.ntmps10 fun X w => ?_
 simp only [ordering_Canonical] at h
 refine zs (zr ?_)
 refine zU (zl (zn (zs (zs (zr ?_)))))
 refine zU ?_
 obtain ⟨r3, h4, h⟩ := zB h
 refine zc (ordering_Valid_con 16 d1 _ h4) ?_
 refine zU (zl (zn ?_))
 rcases zI h with ⟨h5, h⟩ | ⟨h5, h⟩
 refine zj (zk (zn (zs (zd ?_))))
 refine yU ?_
 obtain ⟨r6, h7, h⟩ := zB h
 refine yc (ordering_once_con d1.Lhs _ h7) ?_
 refine yU ?_
 obtain ⟨r8, h9, h⟩ := zB h
 refine yc (ordering_once_con d1.Rhs _ h9) ?_
 refine yU ?_
 refine yd (zn (zs (zr ?_)))
 refine zU (zl (zn (zs (zr ?_))))
 refine zU (zl (zn (zs (zs (zr ?_)))))
 refine zU ?_
 obtain ⟨r10, h11, h⟩ := zB h
 refine zc (slices_Values_int_con r8 _ h11) ?_
 obtain ⟨r12, h13, h⟩ := zB h
 refine zc (slices_Sorted_int_con r10 _ h13) ?_
 refine zU (zl (zn (zb ?_)))
 obtain ⟨o14, h15, h⟩ := zB h
 refine zO (fun (s : List Canonical × Int) => ⟨[(4, .p (.slc (List.map (PV.int .i64) r6))), (5, .p (.slc (List.map (PV.int .i64) r8))), (6, .loc 6 1 0 0), (7, .func (.func 36) [.loc 6 1 0 0]), (26, .p (.slc (List.map (PV.int .i64) r12))), (27, .p (.int .i64 (r12.length : Int))), (28, .p (.int .i64 s.2))], [(6, .arr 26 1 1 [.own 117 1 0 s.1.length]), (117, .arr 69 3 1 (List.map AV.p (List.map encCanonical s.1)))]⟩) (fun (o16 : List Canonical) => tE (cX Try.f10 X w False) (.exit 0) ⟨[(4, .p (.slc (List.map (PV.int .i64) r6))), (5, .p (.slc (List.map (PV.int .i64) r8))), (6, .loc 6 1 0 0), (7, .func (.func 36) [.loc 6 1 0 0])], [(6, .arr 26 1 1 [.own 117 1 0 o16.length]), (117, .arr 69 3 1 (List.map AV.p (List.map encCanonical o16)))]⟩) h15 ?_ ?_
 clear h h4 h5 h7 h9 h11 h13 h15
 intro s x h
 obtain ⟨o17, t18⟩ := s
 simp only [ordering_Canonical_l1] at h
 dsimp only
 refine zs (zr ?_)
 refine zU (zl (zn (zs ?_)))
 rcases zI h with ⟨h19, h⟩ | ⟨h19, h⟩
 have h19T := eq_true h19
 refine zi (zk (zn (zs (zb (zs (zr ?_))))))
 obtain ⟨x20, h21, h21a, h21b, h⟩ := zX h
 refine zU (zl (zn (zr ?_)))
 refine zU ?_
 obtain ⟨r22, h23, h⟩ := zB h
 refine zc (ordering_set_con r6 _ h23) ?_
 refine zU ?_
 refine zM ⟨[(4, .p (.slc (List.map (PV.int .i64) r6))), (5, .p (.slc (List.map (PV.int .i64) r8))), (6, .loc 6 1 0 0), (7, .func (.func 36) [.loc 6 1 0 0]), (26, .p (.slc (List.map (PV.int .i64) r12))), (27, .p (.int .i64 (r12.length : Int))), (28, .p (.int .i64 t18)), (32, .func (.func 36) [.loc 6 1 0 0]), (36, .p (.agg [.int .u32 r22, .int .i64 x20, .int .i64 (-1)]))], [(6, .arr 26 1 1 [.own 117 1 0 o17.length]), (117, .arr 69 3 1 (List.map AV.p (List.map encCanonical o17)))]⟩ ?_
 refine AL_inline (avs := [.p (.agg [.int .u32 r22, .int .i64 x20, .int .i64 (-1)]), .loc 6 1 0 0]) 162 rfl (guard_none rfl) rfl Try.func36 rfl Try.call36 Try.ntmps36 (by simp) (by simp only [go_sem, seval, h19T]; all_goals rfl) ?_
 intro i24 w25
 show AWp _ _ _ ⟨[(0, .p (.agg [.int .u32 r22, .int .i64 x20, .int .i64 (-1)])), (1, .loc 6 1 0 0)], [(6, .arr 26 1 1 [.own 117 1 0 o17.length]), (117, .arr 69 3 1 (List.map AV.p (List.map encCanonical o17)))]⟩
 refine zs (zr ?_)
 refine zU (zl (zn ?_))
 obtain ⟨t26, h27, h⟩ := zB h
 refine zJ (fun (o28 : Bool) => tE ⟨Try.prog, 44, 162, X, [(6, .arr 26 1 1 [.own 117 1 0 o17.length]), (117, .arr 69 3 1 (List.map AV.p (List.map encCanonical o17)))], i24, w25, False⟩ .normal ⟨[(1, .loc 6 1 0 0), (2, .loc 164 1 0 0), (3, .p (.bool o28))], [(6, .arr 26 1 1 [.own 117 1 0 o17.length]), (117, .arr 69 3 1 (List.map AV.p (List.map encCanonical o17))), (164, .arr 69 3 1 [.p (.agg [.int .u32 r22, .int .i64 x20, .int .i64 (-1)])])]⟩) t26 ?_ ?_
 replace h := h27
 clear h27
 refine zr ?_
 refine zU ?_
 rcases zI h with ⟨h29, h⟩ | ⟨h29, h⟩
 refine zw 9 true ?_
 refine zh ?_
 refine zU ?_
 refine zh ?_
 refine zU (zl ?_)
 cases h
 exact ⟨rfl, zE⟩
 refine zw 9 false ?_
 refine zg ?_
 refine zg ?_
 refine zg ?_
 refine zg ?_
 obtain ⟨h30, h⟩ := ite_none h
 refine zg ?_
 refine zg ?_
 refine zg ?_
 refine zU ?_
 rcases zI h with ⟨h31, h⟩ | ⟨h31, h⟩
 refine zw 18 true ?_
 refine zh ?_
 refine zU (zl ?_)
 cases h
 exact ⟨rfl, zE⟩
 replace h := h.symm
 refine zw 18 false ?_
 refine zg ?_
 refine zg ?_
 refine zg ?_
 refine zg ?_
 refine zh ?_
 refine zg ?_
 refine zU (zl ?_)
 cases h
 exact ⟨rfl, zE⟩
 try simp only at h
 refine zA (zn ?_)
 obtain ⟨t32, h33, h⟩ := zB h
 refine zJ (fun (o34 : Bool) => tE ⟨Try.prog, 44, 162, X, [(6, .arr 26 1 1 [.own 117 1 0 o17.length]), (117, .arr 69 3 1 (List.map AV.p (List.map encCanonical o17)))], i24, w25, False⟩ .normal ⟨[(1, .loc 6 1 0 0), (2, .loc 164 1 0 0), (39, .p (.bool o34))], [(6, .arr 26 1 1 [.own 117 1 0 o17.length]), (117, .arr 69 3 1 (List.map AV.p (List.map encCanonical o17))), (164, .arr 69 3 1 [.p (.agg [.int .u32 r22, .int .i64 x20, .int .i64 (-1)])])]⟩) t32 ?_ ?_
 replace h := h33
 clear h33
 refine zr ?_
 refine zU ?_
 rcases zI h with ⟨h35, h⟩ | ⟨h35, h⟩
 refine zw 34 false ?_
 refine zh ?_
 refine zU (zl ?_)
 cases h
 exact ⟨rfl, zE⟩
 refine zw 34 true ?_
 refine zg ?_
 refine zg ?_
 obtain ⟨r36, h37, h⟩ := zB h
 replace h := h.symm
 refine zc (slices_Contains_Canonical_con o17 (Canonical.mk r22 x20 (-1)) _ h37) ?_
 refine zg ?_
 refine zU (zl ?_)
 cases h
 exact ⟨rfl, zE⟩
 try simp only at h
 refine zA (zn ?_)
 rcases zI h with ⟨h38, h⟩ | ⟨h38, h⟩
 refine zi (zr ?_)
 obtain ⟨h39, h⟩ := ite_some h
 refine zU (zl ?_)
 refine inlQ_n (by simp only [Try.results36]; simp only [go_sem, seval, h19T, h38]; exact rfl) ?_
 refine zl (yn (zn (zr ?_)))
 refine zU (zl ?_)
 cases h
 exact ⟨rfl, zE⟩
 have h38F := Bool.eq_false_iff.2 h38
 refine zj (zk ?_)
 refine inlQ_n (by simp only [Try.results36]; simp only [go_sem, seval, h19T, h38F]; exact rfl) ?_
 refine zl (yn (zn (zr ?_)))
 refine zU (zl ?_)
 cases h
 exact ⟨rfl, zE⟩
 have h19T := eq_false h19
 refine zj (zx (ze ?_))
 cases h
 exact ⟨rfl, zE⟩
 try simp only at h
 refine zA (yh (zn (zs (zs (zr ?_)))))
 refine zU (zl (zn (zb ?_)))
 obtain ⟨o40, h41, h⟩ := zB h
 refine zO (fun (s : List Canonical × Int) => ⟨[(4, .p (.slc (List.map (PV.int .i64) r6))), (5, .p (.slc (List.map (PV.int .i64) r8))), (6, .loc 6 1 0 0), (7, .func (.func 36) [.loc 6 1 0 0]), (39, .p (.slc (List.map (PV.int .i64) r6))), (40, .p (.int .i64 (r6.length : Int))), (41, .p (.int .i64 s.2))], [(6, .arr 26 1 1 [.own 117 1 0 s.1.length]), (117, .arr 69 3 1 (List.map AV.p (List.map encCanonical s.1)))]⟩) (fun (o42 : List Canonical) => tE (cX Try.f10 X w False) (.exit 2) ⟨[(6, .loc 6 1 0 0)], [(6, .arr 26 1 1 [.own 117 1 0 o42.length]), (117, .arr 69 3 1 (List.map AV.p (List.map encCanonical o42)))]⟩) h41 ?_ ?_
 clear h h4 h5 h7 h9 h11 h13 h15 h41
 intro s x h
 obtain ⟨o43, t44⟩ := s
 simp only [ordering_Canonical_l5] at h
 dsimp only
 refine zs (zr ?_)
 refine zU (zl (zn (zs ?_)))
 rcases zI h with ⟨h45, h⟩ | ⟨h45, h⟩
 refine zi (zk (zn (zs (zb (zs (zr ?_))))))
 obtain ⟨x46, h47, h47a, h47b, h⟩ := zX h
 refine zU (zl (zn (zs (zr ?_))))
 refine zU (zl (zn (zb ?_)))
 obtain ⟨o48, h49, h⟩ := zB h
 refine zO (fun (s : List Canonical × Int) => ⟨[(4, .p (.slc (List.map (PV.int .i64) r6))), (5, .p (.slc (List.map (PV.int .i64) r8))), (6, .loc 6 1 0 0), (7, .func (.func 36) [.loc 6 1 0 0]), (10, .p (.int .i64 t44)), (11, .p (.int .i64 x46)), (39, .p (.slc (List.map (PV.int .i64) r6))), (40, .p (.int .i64 (r6.length : Int))), (41, .p (.int .i64 t44)), (46, .p (.slc (List.map (PV.int .i64) r8))), (47, .p (.int .i64 (r8.length : Int))), (48, .p (.int .i64 s.2))], [(6, .arr 26 1 1 [.own 117 1 0 s.1.length]), (117, .arr 69 3 1 (List.map AV.p (List.map encCanonical s.1)))]⟩) (fun (o50 : List Canonical) => tE (cX Try.f10 X w False) (.exit 4) ⟨[(4, .p (.slc (List.map (PV.int .i64) r6))), (5, .p (.slc (List.map (PV.int .i64) r8))), (6, .loc 6 1 0 0), (7, .func (.func 36) [.loc 6 1 0 0]), (39, .p (.slc (List.map (PV.int .i64) r6))), (40, .p (.int .i64 (r6.length : Int))), (41, .p (.int .i64 t44))], [(6, .arr 26 1 1 [.own 117 1 0 o50.length]), (117, .arr 69 3 1 (List.map AV.p (List.map encCanonical o50)))]⟩) h49 ?_ ?_
 clear h h45 h47 h47a h47b h49
 intro s x h
 obtain ⟨o51, t52⟩ := s
 simp only [ordering_Canonical_l4] at h
 dsimp only
 refine zs (zr ?_)
 refine zU (zl (zn (zs ?_)))
 rcases zI h with ⟨h53, h⟩ | ⟨h53, h⟩
 have h53T := eq_true h53
 refine zi (zk (zn (zs (zb (zs (zr ?_))))))
 obtain ⟨x54, h55, h55a, h55b, h⟩ := zX h
 refine zU (zl (zn ?_))
 refine zdl 17 ?_
 obtain ⟨h56, h⟩ := ite_some h
 obtain ⟨h57, h⟩ := ite_some h
 refine yU ?_
 obtain ⟨r58, h59, h⟩ := zB h
 refine yc (ordering_set_con (r6.take (t44.toNat)) _ h59) ?_
 obtain ⟨h60, h⟩ := ite_some h
 obtain ⟨h61, h⟩ := ite_some h
 refine yU ?_
 obtain ⟨r62, h63, h⟩ := zB h
 refine yc (ordering_set_con (r8.take (t52.toNat)) _ h63) ?_
 refine yU ?_
 refine ydl ?_
 refine zM ⟨[(4, .p (.slc (List.map (PV.int .i64) r6))), (5, .p (.slc (List.map (PV.int .i64) r8))), (6, .loc 6 1 0 0), (7, .func (.func 36) [.loc 6 1 0 0]), (10, .p (.int .i64 t44)), (11, .p (.int .i64 x46)), (39, .p (.slc (List.map (PV.int .i64) r6))), (40, .p (.int .i64 (r6.length : Int))), (41, .p (.int .i64 t44)), (46, .p (.slc (List.map (PV.int .i64) r8))), (47, .p (.int .i64 (r8.length : Int))), (48, .p (.int .i64 t52)), (53, .func (.func 36) [.loc 6 1 0 0]), (69, .p (.agg [.int .u32 (IntKind.u32.wrap ((BitVec.ofInt 32 r58 ||| (BitVec.ofInt 32 r62)).toNat : Int)), .int .i64 (if x54 < x46 then x54 else x46), .int .i64 (if x54 > x46 then x54 else x46)]))], [(6, .arr 26 1 1 [.own 117 1 0 o51.length]), (117, .arr 69 3 1 (List.map AV.p (List.map encCanonical o51)))]⟩ ?_
 refine AL_inline (avs := [.p (.agg [.int .u32 (IntKind.u32.wrap ((BitVec.ofInt 32 r58 ||| (BitVec.ofInt 32 r62)).toNat : Int)), .int .i64 (if x54 < x46 then x54 else x46), .int .i64 (if x54 > x46 then x54 else x46)]), .loc 6 1 0 0]) 558 rfl (guard_none rfl) rfl Try.func36 rfl Try.call36 Try.ntmps36 (by simp) (by simp only [go_sem, seval, h53T]; all_goals rfl) ?_
 intro i65 w66
 show AWp _ _ _ ⟨[(0, .p (.agg [.int .u32 (IntKind.u32.wrap ((BitVec.ofInt 32 r58 ||| (BitVec.ofInt 32 r62)).toNat : Int)), .int .i64 (if x54 < x46 then x54 else x46), .int .i64 (if x54 > x46 then x54 else x46)])), (1, .loc 6 1 0 0)], [(6, .arr 26 1 1 [.own 117 1 0 o51.length]), (117, .arr 69 3 1 (List.map AV.p (List.map encCanonical o51)))]⟩
 refine zs (zr ?_)
 refine zU (zl (zn ?_))
 obtain ⟨t67, h68, h⟩ := zB h
 refine zJ (fun (o69 : Bool) => tE ⟨Try.prog, 44, 558, X, [(6, .arr 26 1 1 [.own 117 1 0 o51.length]), (117, .arr 69 3 1 (List.map AV.p (List.map encCanonical o51)))], i65, w66, False⟩ .normal ⟨[(1, .loc 6 1 0 0), (2, .loc 560 1 0 0), (3, .p (.bool o69))], [(6, .arr 26 1 1 [.own 117 1 0 o51.length]), (117, .arr 69 3 1 (List.map AV.p (List.map encCanonical o51))), (560, .arr 69 3 1 [.p (.agg [.int .u32 (IntKind.u32.wrap ((BitVec.ofInt 32 r58 ||| (BitVec.ofInt 32 r62)).toNat : Int)), .int .i64 (if x54 < x46 then x54 else x46), .int .i64 (if x54 > x46 then x54 else x46)])])]⟩) t67 ?_ ?_
 replace h := h68
 clear h68
 refine zr ?_
 refine zU ?_
 rcases zI h with ⟨h70, h⟩ | ⟨h70, h⟩
 refine zw 9 true ?_
 refine zh ?_
 refine zU ?_
 refine zh ?_
 refine zU (zl ?_)
 cases h
 exact ⟨rfl, zE⟩
 refine zw 9 false ?_
 refine zg ?_
 refine zg ?_
 refine zg ?_
 refine zg ?_
 obtain ⟨h71, h⟩ := ite_none h
 refine zg ?_
 refine zg ?_
 refine zg ?_
 refine zU ?_
 rcases zI h with ⟨h72, h⟩ | ⟨h72, h⟩
 refine zw 18 true ?_
 refine zh ?_
 refine zU (zl ?_)
 cases h
 exact ⟨rfl, zE⟩
 refine zw 18 false ?_
 refine zg ?_
 refine zg ?_
 refine zg ?_
 refine zg ?_
 rcases zI h with ⟨h73, h⟩ | ⟨h73, h⟩
 refine zw 22 true ?_
 refine zg ?_
 refine zg ?_
 refine zg ?_
 refine zg ?_
 obtain ⟨h74, h⟩ := ite_none h
 replace h := h.symm
 refine zg ?_
 refine zg ?_
 refine zg ?_
 refine zg ?_
 refine zU (zl ?_)
 cases h
 exact ⟨rfl, zE⟩
 replace h := h.symm
 refine zw 22 false ?_
 refine zh ?_
 refine zg ?_
 refine zU (zl ?_)
 cases h
 exact ⟨rfl, zE⟩
 try simp only at h
 refine zA (zn ?_)
 obtain ⟨t75, h76, h⟩ := zB h
 refine zJ (fun (o77 : Bool) => tE ⟨Try.prog, 44, 558, X, [(6, .arr 26 1 1 [.own 117 1 0 o51.length]), (117, .arr 69 3 1 (List.map AV.p (List.map encCanonical o51)))], i65, w66, False⟩ .normal ⟨[(1, .loc 6 1 0 0), (2, .loc 560 1 0 0), (39, .p (.bool o77))], [(6, .arr 26 1 1 [.own 117 1 0 o51.length]), (117, .arr 69 3 1 (List.map AV.p (List.map encCanonical o51))), (560, .arr 69 3 1 [.p (.agg [.int .u32 (IntKind.u32.wrap ((BitVec.ofInt 32 r58 ||| (BitVec.ofInt 32 r62)).toNat : Int)), .int .i64 (if x54 < x46 then x54 else x46), .int .i64 (if x54 > x46 then x54 else x46)])])]⟩) t75 ?_ ?_
 replace h := h76
 clear h76
 refine zr ?_
 refine zU ?_
 rcases zI h with ⟨h78, h⟩ | ⟨h78, h⟩
 refine zw 34 false ?_
 refine zh ?_
 refine zU (zl ?_)
 cases h
 exact ⟨rfl, zE⟩
 refine zw 34 true ?_
 refine zg ?_
 refine zg ?_
 obtain ⟨r79, h80, h⟩ := zB h
 replace h := h.symm
 refine zc (slices_Contains_Canonical_con o51 (Canonical.mk (IntKind.u32.wrap ((BitVec.ofInt 32 r58 ||| (BitVec.ofInt 32 r62)).toNat : Int)) (if x54 < x46 then x54 else x46) (if x54 > x46 then x54 else x46)) _ h80) ?_
 refine zg ?_
 refine zU (zl ?_)
 cases h
 exact ⟨rfl, zE⟩
 try simp only at h
 refine zA (zn ?_)
 rcases zI h with ⟨h81, h⟩ | ⟨h81, h⟩
 refine zi (zr ?_)
 obtain ⟨h82, h⟩ := ite_some h
 refine zU (zl ?_)
 refine inlQ_n (by simp only [Try.results36]; simp only [go_sem, seval, h53T, h81]; exact rfl) ?_
 refine zl (yn (zn (zr ?_)))
 refine zU (zl ?_)
 cases h
 exact ⟨rfl, zE⟩
 have h81F := Bool.eq_false_iff.2 h81
 refine zj (zk ?_)
 refine inlQ_n (by simp only [Try.results36]; simp only [go_sem, seval, h53T, h81F]; exact rfl) ?_
 refine zl (yn (zn (zr ?_)))
 refine zU (zl ?_)
 cases h
 exact ⟨rfl, zE⟩
 have h53T := eq_false h53
 refine zj (zx (ze ?_))
 cases h
 exact ⟨rfl, zE⟩
 try simp only at h
 refine zA (yh (yn (zn (zr ?_))))
 refine zU (zl ?_)
 cases h
 exact ⟨rfl, zE⟩
 refine zj (zx (ze ?_))
 cases h
 exact ⟨rfl, zE⟩
 try simp only at h
 refine zA (yh (zn (zs (zr ?_))))
 refine zU (zl (zn (zq ?_)))
 cases h
 exact zT Try.results10
 refine zi (zs (zr ?_))
 refine zU (zl (zn (zq (zt ?_))))
 cases h
 exact zT Try.results10
end Go.Proofs.Ytimfcgdnogjlhaa
set_option linter.unusedVariables false
set_option linter.unusedSimpArgs false
namespace Go.Proofs.Ytimfcgdnogjlhaa
open Go Go.Ab
set_option maxRecDepth 20000 in
set_option maxHeartbeats 4000000 in
theorem table_isName_con {D : Prop} (s1 : List UInt8) (r2 : Bool) (h : table_isName s1 = some r2) : Con D Try.prog 82 [(.str s1)] (.bool r2) := by
 refine zP Try.call82 Try.func82 rfl Try.ntmps82 fun X w => ?_
 simp only [table_isName] at h
 refine zs (zr ?_)
 refine zU (zl (zn (zs (zs (zr ?_)))))
 refine zU ?_
 rcases zI h with ⟨h3, h⟩ | ⟨h3, h⟩
 refine zw 8 true ?_
 refine zh ?_
 refine zU ?_
 refine zh ?_
 refine zU (zl (zn ?_))
 refine zi (zs (zr ?_))
 refine zU (zl (zn (zq (zt ?_))))
 cases h
 exact zT Try.results82
 refine zw 8 false ?_
 refine zg ?_
 refine zg ?_
 refine zg ?_
 refine zU ?_
 rcases zI h with ⟨h4, h⟩ | ⟨h4, h⟩
 refine zw 13 true ?_
 refine zh ?_
 refine zU (zl (zn ?_))
 refine zi (zs (zr ?_))
 refine zU (zl (zn (zq (zt ?_))))
 cases h
 exact zT Try.results82
 refine zw 13 false ?_
 refine zg ?_
 refine zg ?_
 refine zU (zl (zn ?_))
 rcases zI h with ⟨h5, h⟩ | ⟨h5, h⟩
 refine zi (zs (zr ?_))
 refine zU (zl (zn (zq (zt ?_))))
 cases h
 exact zT Try.results82
 refine zj (zk (zn (zs (zs (zr ?_)))))
 refine zU (zl (zn (zb ?_)))
 obtain ⟨o6, h7, h⟩ := zB h
 refine zO (fun (s : Int) => ⟨[(0, .p (.str s1)), (18, .p (.int .i64 (s1.length : Int))), (19, .p (.int .i64 s))], []⟩) (fun (o : (Unit) ⊕ (Bool)) => match o with | .inl o8 => tE (cX Try.f82 X w D) (.exit 0) ⟨[], []⟩ | .inr o9 => tR Try.prog Try.f82 (.bool o9)) h7 ?_ ?_
 clear h h3 h4 h5 h7
 intro t10 x h
 simp only [table_isName_l1] at h
 refine zs (zr ?_)
 refine zU (zl (zn (zs ?_)))
 rcases zI h with ⟨h11, h⟩ | ⟨h11, h⟩
 refine zi (zk (zn (zs (zb (zs (zr ?_))))))
 refine zU (zl (zn (zs (zr ?_))))
 obtain ⟨c12, h13, h13a, h13b, h⟩ := zX h
 refine zU (zl (zn ?_))
 obtain ⟨l14, h15, h⟩ := zB h
 refine zJ (fun (o16 : Bool) => tE (cX Try.f82 X w D) .normal ⟨[(0, .p (.str s1)), (3, .p (.int .i64 t10)), (4, .p (.int .u8 ((c12.toNat : Nat) : Int))), (5, .p (.bool o16)), (18, .p (.int .i64 (s1.length : Int))), (19, .p (.int .i64 t10))], []⟩) l14 ?_ ?_
 replace h := h15
 clear h15
 refine zr ?_
 refine zU ?_
 rcases zI h with ⟨h17, h⟩ | ⟨h17, h⟩
 refine zw 27 true ?_
 refine zg ?_
 refine zg ?_
 refine zU ?_
 rcases zI h with ⟨h18, h⟩ | ⟨h18, h⟩
 refine zw 31 true ?_
 refine zh ?_
 refine zU ?_
 refine zh ?_
 refine zU (zl ?_)
 cases h
 exact ⟨rfl, zE⟩
 refine zw 31 false ?_
 refine zg ?_
 refine zg ?_
 refine zg ?_
 rcases zI h with ⟨h19, h⟩ | ⟨h19, h⟩
 refine zw 34 true ?_
 refine zg ?_
 refine zg ?_
 refine zg ?_
 refine zU ?_
 rcases zI h with ⟨h20, h⟩ | ⟨h20, h⟩
 refine zw 39 true ?_
 refine zh ?_
 refine zU (zl ?_)
 cases h
 exact ⟨rfl, zE⟩
 replace h := h.symm
 refine zw 39 false ?_
 refine zg ?_
 refine zg ?_
 refine zU (zl ?_)
 cases h
 exact ⟨rfl, zE⟩
 replace h := h.symm
 refine zw 34 false ?_
 refine zh ?_
 refine zg ?_
 refine zU ?_
 refine zg ?_
 refine zg ?_
 refine zU (zl ?_)
 cases h
 exact ⟨rfl, zE⟩
 refine zw 27 false ?_
 refine zh ?_
 refine zU ?_
 refine zg ?_
 refine zg ?_
 refine zg ?_
 rcases zI h with ⟨h21, h⟩ | ⟨h21, h⟩
 refine zw 34 true ?_
 refine zg ?_
 refine zg ?_
 refine zg ?_
 refine zU ?_
 rcases zI h with ⟨h22, h⟩ | ⟨h22, h⟩
 refine zw 39 true ?_
 refine zh ?_
 refine zU (zl ?_)
 cases h
 exact ⟨rfl, zE⟩
 replace h := h.symm
 refine zw 39 false ?_
 refine zg ?_
 refine zg ?_
 refine zU (zl ?_)
 cases h
 exact ⟨rfl, zE⟩
 replace h := h.symm
 refine zw 34 false ?_
 refine zh ?_
 refine zg ?_
 refine zU ?_
 refine zg ?_
 refine zg ?_
 refine zU (zl ?_)
 cases h
 exact ⟨rfl, zE⟩
 try simp only at h
 refine zA (zn (zs (zr ?_)))
 refine zU ?_
 rcases zI h with ⟨h23, h⟩ | ⟨h23, h⟩
 refine zw 45 false ?_
 refine zh ?_
 refine zU (zl (zn ?_))
 refine zj (zk (yn (zn (zr ?_))))
 refine zU (zl ?_)
 cases h
 exact ⟨rfl, zE⟩
 refine zw 45 true ?_
 refine zg ?_
 refine zg ?_
 refine zg ?_
 rcases zI h with ⟨h24, h⟩ | ⟨h24, h⟩
 replace h := h.symm
 refine zw 48 true ?_
 refine zh ?_
 refine zg ?_
 refine zg ?_
 refine zh ?_
 refine zg ?_
 refine zU (zl (zn ?_))
 refine zi (zs (zr ?_))
 refine zU (zl (zn (zq (yr (zt ?_)))))
 cases h
 exact ⟨rfl, zT Try.results82⟩
 refine zw 48 false ?_
 refine zg ?_
 refine zg ?_
 refine zg ?_
 refine zg ?_
 rcases zI h with ⟨h25, h⟩ | ⟨h25, h⟩
 replace h := h.symm
 refine zw 52 true ?_
 refine zh ?_
 refine zg ?_
 refine zU (zl (zn ?_))
 refine zi (zs (zr ?_))
 refine zU (zl (zn (zq (yr (zt ?_)))))
 cases h
 exact ⟨rfl, zT Try.results82⟩
 refine zw 52 false ?_
 refine zg ?_
 refine zg ?_
 refine zg ?_
 refine zU (zl (zn ?_))
 rcases zI h with ⟨h26, h⟩ | ⟨h26, h⟩
 refine zi (zs (zr ?_))
 refine zU (zl (zn (zq (yr (zt ?_)))))
 cases h
 exact ⟨rfl, zT Try.results82⟩
 refine zj (zk (yn (zn (zr ?_))))
 refine zU (zl ?_)
 cases h
 exact ⟨rfl, zE⟩
 refine zj (zx (ze ?_))
 cases h
 exact ⟨rfl, zE⟩
 rcases o6 with ⟨⟩ | r27
 try simp only at h
 refine zA (yh (zn (zs (zr ?_))))
 refine zU (zl (zn (zq ?_)))
 cases h
 exact zT Try.results82
 try simp only at h
 refine zZ fun s hq => ?_
 refine yr (zt ?_)
 cases h
 exact hq
end Go.Proofs.Ytimfcgdnogjlhaa
set_option linter.unusedVariables false
set_option linter.unusedSimpArgs false
namespace Go.Proofs.Ytimfcgdnogjlhaa
open Go Go.Ab
set_option maxHeartbeats 4000000 in
theorem slices_Index_string_con {D : Prop} (s1 : List (List UInt8)) (v2 : List UInt8) (r3 : Int) (h : slices_Index_string s1 v2 = some r3) : Con D Try.prog 104 [(.slc (List.map PV.str s1)), (.str v2)] (.int .i64 r3) := by
 refine zP Try.call104 Try.func104 rfl Try.ntmps104 fun X w => ?_
 simp only [slices_Index_string] at h
 refine zs (zr ?_)
 refine zU (zl (zn (zs (zs (zr ?_)))))
 refine zU (zl (zn (zb ?_)))
 obtain ⟨o4, h5, h⟩ := zB h
 refine zO (fun (s : Int) => ⟨[(0, .p (.slc (List.map PV.str s1))), (1, .p (.str v2)), (7, .p (.int .i64 (s1.length : Int))), (8, .p (.int .i64 s))], []⟩) (fun (o : (Unit) ⊕ (Int)) => match o with | .inl o6 => tE (cX Try.f104 X w D) (.exit 0) ⟨[], []⟩ | .inr o7 => tR Try.prog Try.f104 (.int .i64 o7)) h5 ?_ ?_
 clear h h5
 intro t8 x h
 simp only [slices_Index_string_l1] at h
 refine zs (zr ?_)
 refine zU (zl (zn (zs ?_)))
 rcases zI h with ⟨h9, h⟩ | ⟨h9, h⟩
 refine zi (zk (zn (zs (zb (zs (zr ?_))))))
 refine zU (zl (zn (zs (zr ?_))))
 obtain ⟨x10, h11, h11a, h11b, h⟩ := zX h
 refine zU (zl (zn ?_))
 rcases zI h with ⟨h12, h⟩ | ⟨h12, h⟩
 refine zi (zs (zr ?_))
 refine zU (zl (zn (zq (yr (zt ?_)))))
 cases h
 exact ⟨rfl, zT Try.results104⟩
 refine zj (zk (yn (zn (zr ?_))))
 refine zU (zl ?_)
 cases h
 exact ⟨rfl, zE⟩
 refine zj (zx (ze ?_))
 cases h
 exact ⟨rfl, zE⟩
 rcases o4 with ⟨⟩ | r13
 try simp only at h
 refine zA (yh (zn (zs (zr ?_))))
 refine zU (zl (zn (zq ?_)))
 cases h
 exact zT Try.results104
 try simp only at h
 refine zZ fun s hq => ?_
 refine yr (zt ?_)
 cases h
 exact hq
end Go.Proofs.Ytimfcgdnogjlhaa
set_option linter.unusedVariables false
set_option linter.unusedSimpArgs false
namespace Go.Proofs.Ytimfcgdnogjlhaa
open Go Go.Ab
set_option maxHeartbeats 4000000 in
theorem slices_Contains_string_con {D : Prop} (s1 : List (List UInt8)) (v2 : List UInt8) (r3 : Bool) (h : slices_Contains_string s1 v2 = some r3) : Con D Try.prog 83 [(.slc (List.map PV.str s1)), (.str v2)] (.bool r3) := by
 refine zP Try.call83 Try.func83 rfl Try.ntmps83 fun X w => ?_
 simp only [slices_Contains_string] at h
 refine zs (zr ?_)
 refine zU (zl (zn (zs (zr ?_))))
 refine zU ?_
 obtain ⟨r4, h5, h⟩ := zB h
 refine zc (slices_Index_string_con s1 v2 _ h5) ?_
 refine zU (zl (zn (zq ?_)))
 cases h
 exact zT Try.results83
end Go.Proofs.Ytimfcgdnogjlhaa
set_option linter.unusedVariables false
set_option linter.unusedSimpArgs false
namespace Go.Proofs.Ytimfcgdnogjlhaa
open Go Go.Ab
set_option maxHeartbeats 4000000 in
theorem slices_IndexFunc_Value_con {D : Prop} (s1 : List Value) (f2 : Value → Option (Bool)) (f2_k : FuncId) (f2_cs : List PV) (f2_h : ∀ (y3 : Value) (r4 : Bool), f2 y3 = some r4 → Con D Try.prog f2_k ((encValue y3) :: f2_cs) (.bool r4)) (r5 : Int) (h : slices_IndexFunc_Value s1 f2 = some r5) : Con D Try.prog 117 [(.slc (List.map encValue s1)), .func (.func f2_k) f2_cs] (.int .i64 r5) := by
 refine zP Try.call117 Try.func117 rfl Try.ntmps117 fun X w => ?_
 simp only [slices_IndexFunc_Value] at h
 refine zs (zr ?_)
 refine zU (zl (zn (zs (zs (zr ?_)))))
 refine zU (zl (zn (zb ?_)))
 obtain ⟨o6, h7, h⟩ := zB h
 refine zO (fun (s : Int) => ⟨[(0, .p (.slc (List.map encValue s1))), (1, .p (.func (.func f2_k) f2_cs)), (7, .p (.int .i64 (s1.length : Int))), (8, .p (.int .i64 s))], []⟩) (fun (o : (Unit) ⊕ (Int)) => match o with | .inl o8 => tE (cX Try.f117 X w D) (.exit 0) ⟨[], []⟩ | .inr o9 => tR Try.prog Try.f117 (.int .i64 o9)) h7 ?_ ?_
 clear h h7
 intro t10 x h
 simp only [slices_IndexFunc_Value_l1] at h
 refine zs (zr ?_)
 refine zU (zl (zn (zs ?_)))
 rcases zI h with ⟨h11, h⟩ | ⟨h11, h⟩
 refine zi (zk (zn (zs (zb (zs (zr ?_))))))
 refine zU (zl (zn (zs (zr ?_))))
 obtain ⟨x12, h13, h13a, h13b, h⟩ := zX h
 refine zU ?_
 obtain ⟨r14, h15, h⟩ := zB h
 refine zc (f2_h x12 _ h15) ?_
 refine zl (zn ?_)
 rcases zI h with ⟨h16, h⟩ | ⟨h16, h⟩
 refine zi (zs (zr ?_))
 refine zU (zl (zn (zq (yr (zt ?_)))))
 cases h
 exact ⟨rfl, zT Try.results117⟩
 refine zj (zk (yn (zn (zr ?_))))
 refine zU (zl ?_)
 cases h
 exact ⟨rfl, zE⟩
 refine zj (zx (ze ?_))
 cases h
 exact ⟨rfl, zE⟩
 rcases o6 with ⟨⟩ | r17
 try simp only at h
 refine zA (yh (zn (zs (zr ?_))))
 refine zU (zl (zn (zq ?_)))
 cases h
 exact zT Try.results117
 try simp only at h
 refine zZ fun s hq => ?_
 refine yr (zt ?_)
 cases h
 exact hq
end Go.Proofs.Ytimfcgdnogjlhaa
set_option linter.unusedVariables false
set_option linter.unusedSimpArgs false
namespace Go.Proofs.Ytimfcgdnogjlhaa
open Go Go.Ab
set_option maxHeartbeats 4000000 in
theorem slices_ContainsFunc_Value_con {D : Prop} (s1 : List Value) (f2 : Value → Option (Bool)) (f2_k : FuncId) (f2_cs : List PV) (f2_h : ∀ (y3 : Value) (r4 : Bool), f2 y3 = some r4 → Con D Try.prog f2_k ((encValue y3) :: f2_cs) (.bool r4)) (r5 : Bool) (h : slices_ContainsFunc_Value s1 f2 = some r5) : Con D Try.prog 105 [(.slc (List.map encValue s1)), .func (.func f2_k) f2_cs] (.bool r5) := by
 refine zP Try.call105 Try.func105 rfl Try.ntmps105 fun X w => ?_
 simp only [slices_ContainsFunc_Value] at h
 refine zs (zr ?_)
 refine zU (zl (zn (zs (zr ?_))))
 refine zU ?_
 obtain ⟨r6, h7, h⟩ := zB h
 refine zc (slices_IndexFunc_Value_con s1 f2 f2_k f2_cs f2_h _ h7) ?_
 refine zU (zl (zn (zq ?_)))
 cases h
 exact zT Try.results105
end Go.Proofs.Ytimfcgdnogjlhaa
set_option linter.unusedVariables false
set_option linter.unusedSimpArgs false
namespace Go.Proofs.Ytimfcgdnogjlhaa
open Go Go.Ab
set_option maxHeartbeats 4000000 in
theorem value_Valid_con {D : Prop} (v1 : Value) (r2 : Bool) (h : value_Valid v1 = some r2) : Con D Try.prog 107 [(encValue v1)] (.bool r2) := by
 refine zP Try.call107 Try.func107 rfl Try.ntmps107 fun X w => ?_
 simp only [value_Valid] at h
 refine zs (zr ?_)
 refine zU (zl (zn (zs (zs (zr ?_)))))
 refine zU (zl (zn (zb (zs (zr ?_)))))
 refine zU (zl (zn ?_))
 rcases zI h with ⟨h3, h⟩ | ⟨h3, h⟩
 refine zi (zs (zr ?_))
 refine zU ?_
 rcases zI h with ⟨h4, h⟩ | ⟨h4, h⟩
 replace h := h.symm
 refine zw 10 true ?_
 refine zg ?_
 refine zg ?_
 refine zg ?_
 refine zU (zl (zn (zq (yr (zt ?_)))))
 cases h
 exact zT Try.results107
 refine zw 10 false ?_
 refine zh ?_
 refine zU (zl (zn (zq (yr (zt ?_)))))
 cases h
 exact zT Try.results107
 refine zj (zs (zr ?_))
 refine zU (zl (zn ?_))
 rcases zI h with ⟨h5, h⟩ | ⟨h5, h⟩
 refine zi (zs (zr ?_))
 refine zU (zl (zn (zq (yr (zt ?_)))))
 cases h
 exact zT Try.results107
 refine zj (zs (zr ?_))
 refine zU (zl (zn ?_))
 rcases zI h with ⟨h6, h⟩ | ⟨h6, h⟩
 refine zi (zs (zr ?_))
 refine zU ?_
 rcases zI h with ⟨h7, h⟩ | ⟨h7, h⟩
 replace h := h.symm
 refine zw 25 true ?_
 refine zg ?_
 refine zg ?_
 refine zg ?_
 refine zg ?_
 refine zU (zl (zn (zq (yr (zt ?_)))))
 cases h
 exact zT Try.results107
 refine zw 25 false ?_
 refine zh ?_
 refine zU (zl (zn (zq (yr (zt ?_)))))
 cases h
 exact zT Try.results107
 refine zj (zs (zr ?_))
 refine zU (zl (zn ?_))
 rcases zI h with ⟨h8, h⟩ | ⟨h8, h⟩
 refine zi (zs (zr ?_))
 refine zU ?_
 rcases zI h with ⟨h9, h⟩ | ⟨h9, h⟩
 replace h := h.symm
 refine zw 36 true ?_
 refine zg ?_
 refine zg ?_
 refine zg ?_
 refine zU (zl (zn (zq (yr (zt ?_)))))
 cases h
 exact zT Try.results107
 refine zw 36 false ?_
 refine zh ?_
 refine zU (zl (zn (zq (yr (zt ?_)))))
 cases h
 exact zT Try.results107
 refine zj (zk (yn (zn (zs (zr ?_)))))
 refine zU (zl (zn (zq ?_)))
 cases h
 exact zT Try.results107
end Go.Proofs.Ytimfcgdnogjlhaa
set_option linter.unusedVariables false
set_option linter.unusedSimpArgs false
namespace Go.Proofs.Ytimfcgdnogjlhaa
open Go Go.Ab
set_option maxHeartbeats 4000000 in
theorem table_validValues_1_con {D : Prop} (v1 : Value) (r2 : Bool) (h : table_validValues_1 v1 = some r2) : Con D Try.prog 106 [(encValue v1)] (.bool r2) := by
 refine zP Try.call106 Try.func106 rfl Try.ntmps106 fun X w => ?_
 simp only [table_validValues_1] at h
 refine zs (zr ?_)
 refine zU (zl (zn (zs (zr ?_))))
 refine zU ?_
 obtain ⟨r3, h4, h⟩ := zB h
 refine zc (value_Valid_con v1 _ h4) ?_
 refine zU (zl (zn (zq ?_)))
 cases h
 exact zT Try.results106
end Go.Proofs.Ytimfcgdnogjlhaa
set_option linter.unusedVariables false
set_option linter.unusedSimpArgs false
namespace Go.Proofs.Ytimfcgdnogjlhaa
open Go Go.Ab
set_option maxHeartbeats 4000000 in
theorem table_validValues_con {D : Prop} (l1 : List Value) (r2 : Bool) (h : table_validValues l1 = some r2) : Con D Try.prog 84 [(.slc (List.map encValue l1))] (.bool r2) := by
 refine zP Try.call84 Try.func84 rfl Try.ntmps84 fun X w => ?_
 simp only [table_validValues] at h
 refine zs (zr ?_)
 refine zU (zl (zn (zs (zr ?_))))
 refine zU ?_
 obtain ⟨r3, h4, h⟩ := zB h
 refine zc (slices_ContainsFunc_Value_con l1 (fun (y5 : Value) => table_validValues_1 y5) 106 [] (fun y5 r h => table_validValues_1_con y5 r h) _ h4) ?_
 refine zU (zl (zn (zq ?_)))
 cases h
 exact zT Try.results84
end Go.Proofs.Ytimfcgdnogjlhaa
set_option linter.unusedVariables false
set_option linter.unusedSimpArgs false
namespace Go.Proofs.Ytimfcgdnogjlhaa
open Go Go.Ab
set_option maxHeartbeats 4000000 in
theorem table_Valid_con {D : Prop} (t1 : Table) (r2 : Int) (h : table_Valid t1 = some r2) : Con D Try.prog 69 [(encTable t1)] (.int .i64 r2) := by
 refine zP Try.call69 Try.func69 rfl Try.ntmps69 fun X w => ?_
 simp only [table_Valid] at h
 refine zs (zr ?_)
 refine zU (zl (zn (zs (zs (zr ?_)))))
 refine zU ?_
 obtain ⟨r3, h4, h⟩ := zB h
 refine zc (table_isName_con t1.Name _ h4) ?_
 refine zU (zl (zn ?_))
 rcases zI h with ⟨h5, h⟩ | ⟨h5, h⟩
 refine zj (zk (zn (zs (zs (zr ?_)))))
 refine zU ?_
 rcases zI h with ⟨h6, h⟩ | ⟨h6, h⟩
 refine zw 16 true ?_
 refine zh ?_
 refine zU (zl (zn ?_))
 refine zi (zs (zr ?_))
 refine zU (zl (zn (zq (zt ?_))))
 cases h
 exact zT Try.results69
 refine zw 16 false ?_
 refine zg ?_
 refine zg ?_
 refine zg ?_
 refine zg ?_
 refine zU (zl (zn ?_))
 rcases zI h with ⟨h7, h⟩ | ⟨h7, h⟩
 refine zi (zs (zr ?_))
 refine zU (zl (zn (zq (zt ?_))))
 cases h
 exact zT Try.results69
 refine zj (zk (zn (zs (zs (zr ?_)))))
 refine zU (zl (zn (zb ?_)))
 obtain ⟨o8, h9, h⟩ := zB h
 refine zO (fun (s : Int) => ⟨[(1, .loc 1 1 0 0), (23, .p (.slc (List.map PV.str t1.Attrs))), (24, .p (.int .i64 (t1.Attrs.length : Int))), (25, .p (.int .i64 s))], [(1, .arr 39 3 1 [.p (encTable t1)])]⟩) (fun (o : (Unit) ⊕ (Int)) => match o with | .inl o10 => tE (cX Try.f69 X w D) (.exit 0) ⟨[(1, .loc 1 1 0 0)], [(1, .arr 39 3 1 [.p (encTable t1)])]⟩ | .inr o11 => tR Try.prog Try.f69 (.int .i64 o11)) h9 ?_ ?_
 clear h h4 h5 h6 h7 h9
 intro t12 x h
 simp only [table_Valid_l1] at h
 refine zs (zr ?_)
 refine zU (zl (zn (zs ?_)))
 rcases zI h with ⟨h13, h⟩ | ⟨h13, h⟩
 refine zi (zk (zn (zs (zb (zs (zr ?_))))))
 obtain ⟨x14, h15, h15a, h15b, h⟩ := zX h
 refine zU (zl (zn (zs (zr ?_))))
 refine zU ?_
 obtain ⟨r16, h17, h⟩ := zB h
 refine zc (table_isName_con x14 _ h17) ?_
 refine zU ?_
 rcases zI h with ⟨h18, h⟩ | ⟨h18, h⟩
 refine zw 33 false ?_
 refine zg ?_
 refine zg ?_
 refine zg ?_
 obtain ⟨h19, h⟩ := ite_some h
 obtain ⟨h20, h⟩ := ite_some h
 refine zg ?_
 refine zg ?_
 obtain ⟨r21, h22, h⟩ := zB h
 refine zc (slices_Contains_string_con (t1.Attrs.take (t12.toNat)) x14 _ h22) ?_
 refine zU (zl (zn ?_))
 rcases zI h with ⟨h23, h⟩ | ⟨h23, h⟩
 refine zi (zs (zr ?_))
 refine zU (zl (zn (zq (yr (zt ?_)))))
 cases h
 exact ⟨rfl, zT Try.results69⟩
 refine zj (zk (yn (zn (zr ?_))))
 refine zU (zl ?_)
 cases h
 exact ⟨rfl, zE⟩
 refine zw 33 true ?_
 refine zh ?_
 refine zU (zl (zn ?_))
 refine zi (zs (zr ?_))
 refine zU (zl (zn (zq (yr (zt ?_)))))
 cases h
 exact ⟨rfl, zT Try.results69⟩
 refine zj (zx (ze ?_))
 cases h
 exact ⟨rfl, zE⟩
 rcases o8 with ⟨⟩ | r24
 try simp only at h
 refine zA (yh (zn (zs (zr ?_))))
 refine zU (zl (zn (zs (zs (zr ?_)))))
 refine zU (zl (zn (zb ?_)))
 obtain ⟨o25, h26, h⟩ := zB h
 refine zO (fun (s : Int × Int) => ⟨[(1, .loc 1 1 0 0), (5, .p (.int .i64 s.1)), (43, .p (.slc (List.map encRow t1.Rows))), (44, .p (.int .i64 (t1.Rows.length : Int))), (45, .p (.int .i64 s.2))], [(1, .arr 39 3 1 [.p (encTable t1)])]⟩) (fun (o : (Unit) ⊕ (Int)) => match o with | .inl o27 => tE (cX Try.f69 X w D) (.exit 2) ⟨[], []⟩ | .inr o28 => tR Try.prog Try.f69 (.int .i64 o28)) h26 ?_ ?_
 clear h h4 h5 h6 h7 h9 h26
 intro s x h
 obtain ⟨l29, t30⟩ := s
 simp only [table_Valid_l2] at h
 dsimp only
 refine zs (zr ?_)
 refine zU (zl (zn (zs ?_)))
 rcases zI h with ⟨h31, h⟩ | ⟨h31, h⟩
 refine zi (zk (zn (zs (zb (zs (zr ?_))))))
 obtain ⟨x32, h33, h33a, h33b, h⟩ := zX h
 refine zU (zl (zn (zs (zb (zs (zr ?_))))))
 refine zU (zl (zn ?_))
 rcases zI h with ⟨h34, h⟩ | ⟨h34, h⟩
 refine zi (zs (zr ?_))
 refine zU (zl (zn (zq (yr (zt (yr (zt ?_)))))))
 cases h
 exact ⟨rfl, zT Try.results69⟩
 refine zj (zs (zr ?_))
 refine zU (zl (zn ?_))
 rcases zI h with ⟨h35, h⟩ | ⟨h35, h⟩
 refine zi (zs (zr ?_))
 refine zU (zl (zn (zq (yr (zt (yr (zt ?_)))))))
 cases h
 exact ⟨rfl, zT Try.results69⟩
 refine zj (zs (zr ?_))
 refine zU ?_
 obtain ⟨r36, h37, h⟩ := zB h
 refine zc (table_validValues_con x32.Values _ h37) ?_
 refine zU (zl (zn ?_))
 rcases zI h with ⟨h38, h⟩ | ⟨h38, h⟩
 refine zj (zk (yn (zn (zr ?_))))
 refine zU (zl (yn (zn (zr ?_))))
 refine zU (zl ?_)
 cases h
 exact ⟨rfl, zE⟩
 refine zi (zs (zr ?_))
 refine zU (zl (zn (zq (yr (zt (yr (zt ?_)))))))
 cases h
 exact ⟨rfl, zT Try.results69⟩
 refine zj (zx (ze ?_))
 cases h
 exact ⟨rfl, zE⟩
 rcases o25 with ⟨⟩ | r39
 try simp only at h
 refine zA (yh (zn (zs (zr ?_))))
 refine zU (zl (zn (zq ?_)))
 cases h
 exact zT Try.results69
 try simp only at h
 refine zZ fun s hq => ?_
 refine yr (zt ?_)
 cases h
 exact hq
 try simp only at h
 refine zZ fun s hq => ?_
 refine yr (zt ?_)
 cases h
 exact hq
 refine zi (zs (zr ?_))
 refine zU (zl (zn (zq (zt ?_))))
 cases h
 exact zT Try.results69
end Go.Proofs.Ytimfcgdnogjlhaa
set_option linter.unusedVariables false
set_option linter.unusedSimpArgs false
namespace Go.Proofs.Ytimfcgdnogjlhaa
open Go Go.Ab
set_option maxHeartbeats 4000000 in
theorem ordering_check_con {D : Prop} (t1 : Table) (o2 : Int → Option (Bool)) (o2_k : FuncId) (o2_cs : List PV) (o2_h : ∀ (y3 : Int) (r4 : Bool), o2 y3 = some r4 → Con D Try.prog o2_k ((.int .i64 y3) :: o2_cs) (.bool r4)) (r5 : Int) (h : ordering_check t1 o2 = some r5) : Con D Try.prog 46 [(encTable t1), .func (.func o2_k) o2_cs] (.int .i64 r5) := by
 refine zP Try.call46 Try.func46 rfl Try.ntmps46 fun X w => ?_
 simp only [ordering_check] at h
 refine zs (zr ?_)
 refine zU (zl (zn (zs (zs (zr ?_)))))
 refine zU ?_
 obtain ⟨r6, h7, h⟩ := zB h
 refine zc (table_Valid_con t1 _ h7) ?_
 refine zU (zl (zn (zs (zr ?_))))
 refine zU (zl (zn ?_))
 rcases zI h with ⟨h8, h⟩ | ⟨h8, h⟩
 refine zi (zs (zr ?_))
 refine zU (zl (zn (zq (zt ?_))))
 cases h
 exact zT Try.results46
 refine zj (zk (zn (zs (zs (zr ?_)))))
 refine zU ?_
 obtain ⟨r9, h10, h⟩ := zB h
 refine zc (o2_h (t1.Attrs.length : Int) _ h10) ?_
 refine zU (zl (zn ?_))
 rcases zI h with ⟨h11, h⟩ | ⟨h11, h⟩
 refine zj (zk (zn (zs (zr ?_))))
 refine zU (zl (zn (zq ?_)))
 cases h
 exact zT Try.results46
 refine zi (zs (zr ?_))
 refine zU (zl (zn (zq (zt ?_))))
 cases h
 exact zT Try.results46
end Go.Proofs.Ytimfcgdnogjlhaa
set_option linter.unusedVariables false
set_option linter.unusedSimpArgs false
namespace Go.Proofs.Ytimfcgdnogjlhaa
open Go Go.Ab
set_option maxHeartbeats 4000000 in
theorem cmp_Or_int_con {D : Prop} (v1 : List Int) (r2 : Int) (h : cmp_Or_int v1 = some r2) : Con D Try.prog 73 [(.slc (List.map (PV.int .i64) v1))] (.int .i64 r2) := by
 refine zP Try.call73 Try.func73 rfl Try.ntmps73 fun X w => ?_
 simp only [cmp_Or_int] at h
 refine zs (zr ?_)
 refine zU (zl (zn (zs (zr ?_))))
 refine zU (zl (zn (zs (zs (zr ?_)))))
 refine zU (zl (zn (zb ?_)))
 obtain ⟨o3, h4, h⟩ := zB h
 refine zO (fun (s : Int) => ⟨[(3, .p (.int .i64 0)), (6, .p (.slc (List.map (PV.int .i64) v1))), (7, .p (.int .i64 (v1.length : Int))), (8, .p (.int .i64 s))], []⟩) (fun (o : (Unit) ⊕ (Int)) => match o with | .inl o5 => tE (cX Try.f73 X w D) (.exit 0) ⟨[(3, .p (.int .i64 0))], []⟩ | .inr o6 => tR Try.prog Try.f73 (.int .i64 o6)) h4 ?_ ?_
 clear h h4
 intro t7 x h
 simp only [cmp_Or_int_l1] at h
 refine zs (zr ?_)
 refine zU (zl (zn (zs ?_)))
 rcases zI h with ⟨h8, h⟩ | ⟨h8, h⟩
 refine zi (zk (zn (zs (zb (zs (zr ?_))))))
 obtain ⟨x9, h10, h10a, h10b, h⟩ := zX h
 refine zU (zl (zn (zs (zr ?_))))
 refine zU (zl (zn ?_))
 rcases zI h with ⟨h11, h⟩ | ⟨h11, h⟩
 refine zi (zs (zr ?_))
 refine zU (zl (zn (zq (yr (zt ?_)))))
 cases h
 exact ⟨rfl, zT Try.results73⟩
 refine zj (zk (yn (zn (zr ?_))))
 refine zU (zl ?_)
 cases h
 exact ⟨rfl, zE⟩
 refine zj (zx (ze ?_))
 cases h
 exact ⟨rfl, zE⟩
 rcases o3 with ⟨⟩ | r12
 try simp only at h
 refine zA (yh (zn (zs (zr ?_))))
 refine zU (zl (zn (zq ?_)))
 cases h
 exact zT Try.results73
 try simp only at h
 refine zZ fun s hq => ?_
 refine yr (zt ?_)
 cases h
 exact hq
end Go.Proofs.Ytimfcgdnogjlhaa
set_option linter.unusedVariables false
set_option linter.unusedSimpArgs false
namespace Go.Proofs.Ytimfcgdnogjlhaa
open Go Go.Ab
set_option maxHeartbeats 4000000 in
theorem cmp_isNaN_int_con {D : Prop} (x1 : Int) (r2 : Bool) (h : cmp_isNaN_int x1 = some r2) : Con D Try.prog 90 [(.int .i64 x1)] (.bool r2) := by
 refine zP Try.call90 Try.func90 rfl Try.ntmps90 fun X w => ?_
 simp only [cmp_isNaN_int] at h
 refine zs (zr ?_)
 refine zU (zl (zn (zs (zr ?_))))
 refine zU (zl (zn (zq ?_)))
 cases h
 exact zT Try.results90
end Go.Proofs.Ytimfcgdnogjlhaa
set_option linter.unusedVariables false
set_option linter.unusedSimpArgs false
namespace Go.Proofs.Ytimfcgdnogjlhaa
open Go Go.Ab
set_option maxHeartbeats 4000000 in
theorem cmp_Compare_int_con {D : Prop} (x1 : Int) (y2 : Int) (r3 : Int) (h : cmp_Compare_int x1 y2 = some r3) : Con D Try.prog 74 [(.int .i64 x1), (.int .i64 y2)] (.int .i64 r3) := by
 refine zP Try.call74 Try.func74 rfl Try.ntmps74 fun X w => ?_
 simp only [cmp_Compare_int] at h
 refine zs (zr ?_)
 refine zU (zl (zn (zs (zr ?_))))
 refine zU ?_
 obtain ⟨r4, h5, h⟩ := zB h
 refine zc (cmp_isNaN_int_con x1 _ h5) ?_
 refine zU (zl (zn (zs (zr ?_))))
 refine zU ?_
 obtain ⟨r6, h7, h⟩ := zB h
 refine zc (cmp_isNaN_int_con y2 _ h7) ?_
 refine zU (zl (zn (zs (zs (zr ?_)))))
 refine zU (zl (zn ?_))
 rcases zI h with ⟨h8, h⟩ | ⟨h8, h⟩
 refine zi (zs (zs (zr ?_)))
 refine zU (zl (zn ?_))
 rcases zI h with ⟨h9, h⟩ | ⟨h9, h⟩
 refine zi (zs (zr ?_))
 refine zU (zl (zn (zq (zt (zt ?_)))))
 cases h
 exact zT Try.results74
 refine zj (zk (zn (zs (zr ?_))))
 refine zU (zl (zn (zq (zt ?_))))
 cases h
 exact zT Try.results74
 refine zj (zk (zn (zs (zs (zr ?_)))))
 refine zU (zl (zn ?_))
 rcases zI h with ⟨h10, h⟩ | ⟨h10, h⟩
 refine zi (zs (zr ?_))
 refine zU (zl (zn (zq (zt ?_))))
 cases h
 exact zT Try.results74
 refine zj (zk (zn (zs (zs (zr ?_)))))
 refine zU (zl (zn ?_))
 rcases zI h with ⟨h11, h⟩ | ⟨h11, h⟩
 refine zi (zs (zr ?_))
 refine zU (zl (zn (zq (zt ?_))))
 cases h
 exact zT Try.results74
 refine zj (zk (zn (zs (zs (zr ?_)))))
 refine zU (zl (zn ?_))
 rcases zI h with ⟨h12, h⟩ | ⟨h12, h⟩
 refine zi (zs (zr ?_))
 refine zU (zl (zn (zq (zt ?_))))
 cases h
 exact zT Try.results74
 refine zj (zk (zn (zs (zr ?_))))
 refine zU (zl (zn (zq ?_)))
 cases h
 exact zT Try.results74
end Go.Proofs.Ytimfcgdnogjlhaa
set_option linter.unusedVariables false
set_option linter.unusedSimpArgs false
namespace Go.Proofs.Ytimfcgdnogjlhaa
open Go Go.Ab
set_option maxHeartbeats 4000000 in
theorem cmp_isNaN_int64_con {D : Prop} (x1 : Int) (r2 : Bool) (h : cmp_isNaN_int64 x1 = some r2) : Con D Try.prog 91 [(.int .i64 x1)] (.bool r2) := by
 refine zP Try.call91 Try.func91 rfl Try.ntmps91 fun X w => ?_
 simp only [cmp_isNaN_int64] at h
 refine zs (zr ?_)
 refine zU (zl (zn (zs (zr ?_))))
 refine zU (zl (zn (zq ?_)))
 cases h
 exact zT Try.results91
end Go.Proofs.Ytimfcgdnogjlhaa
set_option linter.unusedVariables false
set_option linter.unusedSimpArgs false
namespace Go.Proofs.Ytimfcgdnogjlhaa
open Go Go.Ab
set_option maxHeartbeats 4000000 in
theorem cmp_Compare_int64_con {D : Prop} (x1 : Int) (y2 : Int) (r3 : Int) (h : cmp_Compare_int64 x1 y2 = some r3) : Con D Try.prog 75 [(.int .i64 x1), (.int .i64 y2)] (.int .i64 r3) := by
 refine zP Try.call75 Try.func75 rfl Try.ntmps75 fun X w => ?_
 simp only [cmp_Compare_int64] at h
 refine zs (zr ?_)
 refine zU (zl (zn (zs (zr ?_))))
 refine zU ?_
 obtain ⟨r4, h5, h⟩ := zB h
 refine zc (cmp_isNaN_int64_con x1 _ h5) ?_
 refine zU (zl (zn (zs (zr ?_))))
 refine zU ?_
 obtain ⟨r6, h7, h⟩ := zB h
 refine zc (cmp_isNaN_int64_con y2 _ h7) ?_
 refine zU (zl (zn (zs (zs (zr ?_)))))
 refine zU (zl (zn ?_))
 rcases zI h with ⟨h8, h⟩ | ⟨h8, h⟩
 refine zi (zs (zs (zr ?_)))
 refine zU (zl (zn ?_))
 rcases zI h with ⟨h9, h⟩ | ⟨h9, h⟩
 refine zi (zs (zr ?_))
 refine zU (zl (zn (zq (zt (zt ?_)))))
 cases h
 exact zT Try.results75
 refine zj (zk (zn (zs (zr ?_))))
 refine zU (zl (zn (zq (zt ?_))))
 cases h
 exact zT Try.results75
 refine zj (zk (zn (zs (zs (zr ?_)))))
 refine zU (zl (zn ?_))
 rcases zI h with ⟨h10, h⟩ | ⟨h10, h⟩
 refine zi (zs (zr ?_))
 refine zU (zl (zn (zq (zt ?_))))
 cases h
 exact zT Try.results75
 refine zj (zk (zn (zs (zs (zr ?_)))))
 refine zU (zl (zn ?_))
 rcases zI h with ⟨h11, h⟩ | ⟨h11, h⟩
 refine zi (zs (zr ?_))
 refine zU (zl (zn (zq (zt ?_))))
 cases h
 exact zT Try.results75
 refine zj (zk (zn (zs (zs (zr ?_)))))
 refine zU (zl (zn ?_))
 rcases zI h with ⟨h12, h⟩ | ⟨h12, h⟩
 refine zi (zs (zr ?_))
 refine zU (zl (zn (zq (zt ?_))))
 cases h
 exact zT Try.results75
 refine zj (zk (zn (zs (zr ?_))))
 refine zU (zl (zn (zq ?_)))
 cases h
 exact zT Try.results75
end Go.Proofs.Ytimfcgdnogjlhaa
namespace Go.Proofs.Ytimfcgdnogjlhaa
open Go Go.Ab
theorem ext111 (a b : List UInt8) (w : World) : (callFunc 111 #[.string ⟨a.toArray⟩, .string ⟨b.toArray⟩]).run Try.prog w = .ok (.value (.int .i64 (Lib.compareBytes a b))) w := by
  rw [run_callFunc_extern Try.func111 (by kernel_rfl) (by kernel_rfl) (by kernel_rfl) (e := Extern.BytealgCompare.compare) (by kernel_rfl), Lib.run_compareString]
  rfl
end Go.Proofs.Ytimfcgdnogjlhaa
set_option linter.unusedVariables false
set_option linter.unusedSimpArgs false
namespace Go.Proofs.Ytimfcgdnogjlhaa
open Go Go.Ab
set_option maxHeartbeats 4000000 in
theorem bytealg_CompareString_con {D : Prop} (a1 : List UInt8) (b2 : List UInt8) (r3 : Int) (h : bytealg_CompareString a1 b2 = some r3) : Con D Try.prog 92 [(.str a1), (.str b2)] (.int .i64 r3) := by
 refine zP Try.call92 Try.func92 rfl Try.ntmps92 fun X w => ?_
 simp only [bytealg_CompareString] at h
 refine zs (zr ?_)
 refine zU (zl (zn (zs (zr ?_))))
 refine zU ?_
 refine AL_ext2 (ext111 a1 b2) (by simp only [go_sem, seval]; all_goals ((repeat' refine And.intro ?_ ?_) <;> first | rfl | (simp; done) | (simp; rfl) | (simp [*]; done) | (simp [*]; rfl))) (by simp only [go_sem, seval]; all_goals ((repeat' refine And.intro ?_ ?_) <;> first | rfl | (simp; done) | (simp; rfl) | (simp [*]; done) | (simp [*]; rfl))) rfl ?_
 refine zU (zl (zn (zq ?_)))
 cases h
 exact zT Try.results92
end Go.Proofs.Ytimfcgdnogjlhaa
set_option linter.unusedVariables false
set_option linter.unusedSimpArgs false
namespace Go.Proofs.Ytimfcgdnogjlhaa
open Go Go.Ab
set_option maxHeartbeats 4000000 in
theorem strings_Compare_con {D : Prop} (a1 : List UInt8) (b2 : List UInt8) (r3 : Int) (h : strings_Compare a1 b2 = some r3) : Con D Try.prog 76 [(.str a1), (.str b2)] (.int .i64 r3) := by
 refine zP Try.call76 Try.func76 rfl Try.ntmps76 fun X w => ?_
 simp only [strings_Compare] at h
 refine zs (zr ?_)
 refine zU (zl (zn (zs (zr ?_))))
 refine zU ?_
 obtain ⟨r4, h5, h⟩ := zB h
 refine zc (bytealg_CompareString_con a1 b2 _ h5) ?_
 refine zU (zl (zn (zq ?_)))
 cases h
 exact zT Try.results76
end Go.Proofs.Ytimfcgdnogjlhaa
set_option linter.unusedVariables false
set_option linter.unusedSimpArgs false
namespace Go.Proofs.Ytimfcgdnogjlhaa
open Go Go.Ab
set_option maxRecDepth 20000 in
set_option maxHeartbeats 4000000 in
theorem value_Compare_con {D : Prop} (a1 : Value) (b2 : Value) (r3 : Int) (h : value_Compare a1 b2 = some r3) : Con D Try.prog 58 [(encValue a1), (encValue b2)] (.int .i64 r3) := by
 refine zP Try.call58 Try.func58 rfl Try.ntmps58 fun X w => ?_
 simp only [value_Compare] at h
 refine zs (zr ?_)
 refine zU (zl (zn (zs (zd ?_))))
 refine yU ?_
 obtain ⟨r4, h5, h⟩ := zB h
 refine yc (cmp_Compare_int_con a1.Kind b2.Kind _ h5) ?_
 refine yU ?_
 obtain ⟨r6, h7, h⟩ := zB h
 refine yc (cmp_Compare_int64_con a1.Num b2.Num _ h7) ?_
 refine yU ?_
 obtain ⟨r8, h9, h⟩ := zB h
 refine yc (strings_Compare_con a1.Str b2.Str _ h9) ?_
 refine yU ?_
 obtain ⟨r10, h11, h⟩ := zB h
 refine yc (cmp_Or_int_con [r4, r6, r8] _ h11) ?_
 refine yU ?_
 refine yd (zn (zq ?_))
 cases h
 exact zT Try.results58
end Go.Proofs.Ytimfcgdnogjlhaa
set_option linter.unusedVariables false
set_option linter.unusedSimpArgs false
namespace Go.Proofs.Ytimfcgdnogjlhaa
open Go Go.Ab
set_option maxHeartbeats 4000000 in
theorem ordering_compare_con {D : Prop} (a1 : Row) (b2 : Row) (l3 : List Int) (r4 : Int) (h : ordering_compare a1 b2 l3 = some r4) : Con D Try.prog 57 [(encRow a1), (encRow b2), (.slc (List.map (PV.int .i64) l3))] (.int .i64 r4) := by
 refine zP Try.call57 Try.func57 rfl Try.ntmps57 fun X w => ?_
 simp only [ordering_compare] at h
 refine zs (zr ?_)
 refine zU (zl (zn (zs (zs (zr ?_)))))
 refine zU (zl (zn (zb ?_)))
 obtain ⟨o5, h6, h⟩ := zB h
 refine zO (fun (s : Int) => ⟨[(3, .loc 3 1 0 0), (4, .loc 4 1 0 0), (10, .p (.slc (List.map (PV.int .i64) l3))), (11, .p (.int .i64 (l3.length : Int))), (12, .p (.int .i64 s))], [(3, .arr 53 2 1 [.p (encRow a1)]), (4, .arr 53 2 1 [.p (encRow b2)])]⟩) (fun (o : (Unit) ⊕ (Int)) => match o with | .inl o7 => tE (cX Try.f57 X w D) (.exit 0) ⟨[], []⟩ | .inr o8 => tR Try.prog Try.f57 (.int .i64 o8)) h6 ?_ ?_
 clear h h6
 intro t9 x h
 simp only [ordering_compare_l1] at h
 refine zs (zr ?_)
 refine zU (zl (zn (zs ?_)))
 rcases zI h with ⟨h10, h⟩ | ⟨h10, h⟩
 refine zi (zk (zn (zs (zb (zs (zr ?_))))))
 obtain ⟨x11, h12, h12a, h12b, h⟩ := zX h
 refine zU (zl (zn (zs (zd ?_))))
 obtain ⟨x13, h14, h14a, h14b, h⟩ := zX h
 obtain ⟨x15, h16, h16a, h16b, h⟩ := zX h
 refine yU ?_
 obtain ⟨r17, h18, h⟩ := zB h
 refine yc (value_Compare_con x13 x15 _ h18) ?_
 refine yU ?_
 refine yd (zn (zs (zr ?_)))
 refine zU (zl (zn ?_))
 rcases zI h with ⟨h19, h⟩ | ⟨h19, h⟩
 refine zi (zs (zr ?_))
 refine zU (zl (zn (zq (yr (zt ?_)))))
 cases h
 exact ⟨rfl, zT Try.results57⟩
 refine zj (zk (yn (zn (zr ?_))))
 refine zU (zl ?_)
 cases h
 exact ⟨rfl, zE⟩
 refine zj (zx (ze ?_))
 cases h
 exact ⟨rfl, zE⟩
 rcases o5 with ⟨⟩ | r20
 try simp only at h
 refine zA (yh (zn (zs (zr ?_))))
 refine zU (zl (zn (zq ?_)))
 cases h
 exact zT Try.results57
 try simp only at h
 refine zZ fun s hq => ?_
 refine yr (zt ?_)
 cases h
 exact hq
end Go.Proofs.Ytimfcgdnogjlhaa
set_option linter.unusedVariables false
set_option linter.unusedSimpArgs false
namespace Go.Proofs.Ytimfcgdnogjlhaa
open Go Go.Ab
set_option maxHeartbeats 4000000 in
theorem ordering_kind_con {D : Prop} (a1 : Row) (b2 : Row) (d3 : OD) (r4 : Int) (h : ordering_kind a1 b2 d3 = some r4) : Con D Try.prog 48 [(encRow a1), (encRow b2), (encOD d3)] (.int .i64 r4) := by
 refine zP Try.call48 Try.func48 rfl Try.ntmps48 fun X w => ?_
 simp only [ordering_kind] at h
 refine zs (zr ?_)
 refine zU (zl (zn (zs (zd ?_))))
 refine yU ?_
 obtain ⟨r5, h6, h⟩ := zB h
 refine yc (ordering_compare_con a1 b2 d3.Lhs _ h6) ?_
 refine yU ?_
 obtain ⟨r7, h8, h⟩ := zB h
 refine yc (ordering_compare_con a1 b2 d3.Rhs _ h8) ?_
 refine yU ?_
 refine yd (zn (zs (zb ?_)))
 obtain ⟨t9, h10, h⟩ := zB h
 refine zJ (fun (o11 : Bool) => tE (cX Try.f48 X w D) .normal ⟨[(7, .p (.int .i64 r5)), (8, .p (.int .i64 r7)), (19, .p (.bool o11))], []⟩) t9 ?_ ?_
 replace h := h10
 clear h10
 refine zr ?_
 refine zU ?_
 rcases zI h with ⟨h12, h⟩ | ⟨h12, h⟩
 replace h := h.symm
 refine zw 22 true ?_
 refine zg ?_
 refine zg ?_
 refine zU (zl ?_)
 cases h
 exact ⟨rfl, zE⟩
 refine zw 22 false ?_
 refine zh ?_
 refine zU (zl ?_)
 cases h
 exact ⟨rfl, zE⟩
 try simp only at h
 refine zA (zn ?_)
 rcases zI h with ⟨h13, h⟩ | ⟨h13, h⟩
 refine zi (zs (zr ?_))
 refine zU (zl (zn (zq (yr (zt ?_)))))
 cases h
 exact zT Try.results48
 refine zj (zs (zr ?_))
 refine zU (zl (zn ?_))
 rcases zI h with ⟨h14, h⟩ | ⟨h14, h⟩
 refine zi (zs (zr ?_))
 refine zU (zl (zn (zq (yr (zt ?_)))))
 cases h
 exact zT Try.results48
 refine zj (zk (yn (zn (zs (zr ?_)))))
 refine zU (zl (zn (zq ?_)))
 cases h
 exact zT Try.results48
end Go.Proofs.Ytimfcgdnogjlhaa
set_option linter.unusedVariables false
set_option linter.unusedSimpArgs false
namespace Go.Proofs.Ytimfcgdnogjlhaa
open Go Go.Ab
set_option maxHeartbeats 4000000 in
theorem ordering_Violation_1_con {D : Prop} (n1 : Int) (c2 : OD) (r3 : Bool) (h : ordering_Violation_1 n1 c2 = some r3) : Con D Try.prog 51 [(.int .i64 n1), .imm [.slc (List.map (PV.int .i64) c2.Lhs), .slc (List.map (PV.int .i64) c2.Rhs)]] (.bool r3) := by
 refine zP Try.call51 Try.func51 rfl Try.ntmps51 fun X w => ?_
 simp only [ordering_Violation_1] at h
 refine zs (zr ?_)
 refine zU (zl (zn (zs (zr ?_))))
 refine zU ?_
 obtain ⟨r4, h5, h⟩ := zB h
 refine zc (ordering_Valid_con n1 c2 _ h5) ?_
 refine zU (zl (zn (zq ?_)))
 cases h
 exact zT Try.results51
end Go.Proofs.Ytimfcgdnogjlhaa
set_option linter.unusedVariables false
set_option linter.unusedSimpArgs false
namespace Go.Proofs.Ytimfcgdnogjlhaa
open Go Go.Ab
set_option maxHeartbeats 4000000 in
theorem ordering_Violation_con {D : Prop} (t1 : Table) (d2 : OD) (r3 : Int × Int × Int × Bool) (h : ordering_Violation t1 d2 = some r3) : Con D Try.prog 23 [(encTable t1), (encOD d2)] (.tup [(.int .i64 r3.1), (.int .i64 r3.2.1), (.int .i64 r3.2.2.1), (.bool r3.2.2.2)]) := by
 refine zP Try.call23 Try.func23 rfl Try.ntmps23 fun X w => ?_
 simp only [ordering_Violation] at h
 refine zs (zr ?_)
 refine zU (zl (zn (zs (zs (zr ?_)))))
 refine zU ?_
 obtain ⟨r4, h5, h⟩ := zB h
 refine zc (ordering_check_con t1 (fun (y6 : Int) => ordering_Violation_1 y6 d2) 51 [.imm [.slc (List.map (PV.int .i64) d2.Lhs), .slc (List.map (PV.int .i64) d2.Rhs)]] (fun y6 r h => ordering_Violation_1_con y6 d2 r h) _ h5) ?_
 refine zU (zl (zn ?_))
 rcases zI h with ⟨h7, h⟩ | ⟨h7, h⟩
 refine zi (zs (zr ?_))
 refine zU (zl (zn (zq (zt ?_))))
 cases h
 exact zT Try.results23
 refine zj (zk (zn (zs (zs (zr ?_)))))
 refine zU (zl (zn (zb ?_)))
 obtain ⟨o8, h9, h⟩ := zB h
 refine zO (fun (s : Int) => ⟨[(2, .loc 2 1 0 0), (3, .loc 3 1 0 0), (18, .p (.slc (List.map encRow t1.Rows))), (19, .p (.int .i64 (t1.Rows.length : Int))), (20, .p (.int .i64 s))], [(2, .arr 39 3 1 [.p (encTable t1)]), (3, .arr 24 2 1 [.p (encOD d2)])]⟩) (fun (o : (Unit) ⊕ (Int × Int × Int × Bool)) => match o with | .inl o10 => tE (cX Try.f23 X w D) (.exit 0) ⟨[], []⟩ | .inr o11 => tR Try.prog Try.f23 (.tup [(.int .i64 o11.1), (.int .i64 o11.2.1), (.int .i64 o11.2.2.1), (.bool o11.2.2.2)])) h9 ?_ ?_
 clear h h5 h7 h9
 intro t12 x h
 simp only [ordering_Violation_l4] at h
 refine zs (zr ?_)
 refine zU (zl (zn (zs ?_)))
 rcases zI h with ⟨h13, h⟩ | ⟨h13, h⟩
 refine zi (zk (zn (zs (zb (zs (zr ?_))))))
 obtain ⟨x14, h15, h15a, h15b, h⟩ := zX h
 refine zU (zl (zn (zs (zr ?_))))
 obtain ⟨h16, h⟩ := ite_some h
 obtain ⟨h17, h⟩ := ite_some h
 refine zU (zl (zn (zb ?_)))
 obtain ⟨o18, h19, h⟩ := zB h
 refine zO (fun (s : Int) => ⟨[(2, .loc 2 1 0 0), (3, .loc 3 1 0 0), (9, .loc 9 1 0 0), (18, .p (.slc (List.map encRow t1.Rows))), (19, .p (.int .i64 (t1.Rows.length : Int))), (20, .p (.int .i64 t12)), (29, .p (.slc (List.map encRow ((t1.Rows.drop (IntKind.i64.wrap (t12 + 1)).toNat).take (t1.Rows.length - (IntKind.i64.wrap (t12 + 1)).toNat))))), (30, .p (.int .i64 (((t1.Rows.drop (IntKind.i64.wrap (t12 + 1)).toNat).take (t1.Rows.length - (IntKind.i64.wrap (t12 + 1)).toNat)).length : Int))), (31, .p (.int .i64 s))], [(2, .arr 39 3 1 [.p (encTable t1)]), (3, .arr 24 2 1 [.p (encOD d2)]), (9, .arr 53 2 1 [.p (encRow x14)])]⟩) (fun (o : (Unit) ⊕ (Int × Int × Int × Bool)) => match o with | .inl o20 => tE (cX Try.f23 X w D) (.exit 2) ⟨[(2, .loc 2 1 0 0), (3, .loc 3 1 0 0), (18, .p (.slc (List.map encRow t1.Rows))), (19, .p (.int .i64 (t1.Rows.length : Int))), (20, .p (.int .i64 t12))], [(2, .arr 39 3 1 [.p (encTable t1)]), (3, .arr 24 2 1 [.p (encOD d2)])]⟩ | .inr o21 => tR Try.prog Try.f23 (.tup [(.int .i64 o21.1), (.int .i64 o21.2.1), (.int .i64 o21.2.2.1), (.bool o21.2.2.2)])) h19 ?_ ?_
 clear h h13 h15 h15a h15b h16 h17 h19
 intro t22 x h
 simp only [ordering_Violation_l3] at h
 refine zs (zr ?_)
 refine zU (zl (zn (zs ?_)))
 rcases zI h with ⟨h23, h⟩ | ⟨h23, h⟩
 refine zi (zk (zn (zs (zb (zs (zr ?_))))))
 obtain ⟨x24, h25, h25a, h25b, h⟩ := zX h
 refine zU (zl (zn (zs (zr ?_))))
 refine zU ?_
 obtain ⟨r26, h27, h⟩ := zB h
 refine zc (ordering_kind_con x14 x24 d2 _ h27) ?_
 refine zU (zl (zn (zs (zr ?_))))
 refine zU (zl (zn ?_))
 rcases zI h with ⟨h28, h⟩ | ⟨h28, h⟩
 refine zi (zs (zd ?_))
 refine yU ?_
 refine yd (zn (zq (yr (zt ?_))))
 cases h
 exact ⟨rfl, zT Try.results23⟩
 refine zj (zk (yn (zn (zr ?_))))
 refine zU (zl ?_)
 cases h
 exact ⟨rfl, zE⟩
 refine zj (zx (ze ?_))
 cases h
 exact ⟨rfl, zE⟩
 rcases o18 with ⟨⟩ | r29
 try simp only at h
 refine zA (yh (yn (zn (zr ?_))))
 refine zU (zl ?_)
 cases h
 exact ⟨rfl, zE⟩
 try simp only at h
 refine zZ fun s hq => ?_
 refine yr (yr (zt ?_))
 cases h
 refine ⟨rfl, ?_⟩
 exact hq
 refine zj (zx (ze ?_))
 cases h
 exact ⟨rfl, zE⟩
 rcases o8 with ⟨⟩ | r30
 try simp only at h
 refine zA (yh (zn (zs (zr ?_))))
 refine zU (zl (zn (zq ?_)))
 cases h
 exact zT Try.results23
 try simp only at h
 refine zZ fun s hq => ?_
 refine yr (zt ?_)
 cases h
 exact hq
end Go.Proofs.Ytimfcgdnogjlhaa
set_option linter.unusedVariables false
set_option linter.unusedSimpArgs false
namespace Go.Proofs.Ytimfcgdnogjlhaa
open Go Go.Ab
set_option maxHeartbeats 4000000 in
theorem ordering_Holds_1_con {D : Prop} (n1 : Int) (c2 : OD) (r3 : Bool) (h : ordering_Holds_1 n1 c2 = some r3) : Con D Try.prog 55 [(.int .i64 n1), .imm [.slc (List.map (PV.int .i64) c2.Lhs), .slc (List.map (PV.int .i64) c2.Rhs)]] (.bool r3) := by
 refine zP Try.call55 Try.func55 rfl Try.ntmps55 fun X w => ?_
 simp only [ordering_Holds_1] at h
 refine zs (zr ?_)
 refine zU (zl (zn (zs (zr ?_))))
 refine zU ?_
 obtain ⟨r4, h5, h⟩ := zB h
 refine zc (ordering_Valid_con n1 c2 _ h5) ?_
 refine zU (zl (zn (zq ?_)))
 cases h
 exact zT Try.results55
end Go.Proofs.Ytimfcgdnogjlhaa
set_option linter.unusedVariables false
set_option linter.unusedSimpArgs false
namespace Go.Proofs.Ytimfcgdnogjlhaa
open Go Go.Ab
set_option maxHeartbeats 4000000 in
theorem ordering_Holds_con {D : Prop} (t1 : Table) (d2 : OD) (r3 : Bool × Int) (h : ordering_Holds t1 d2 = some r3) : Con D Try.prog 28 [(encTable t1), (encOD d2)] (.tup [(.bool r3.1), (.int .i64 r3.2)]) := by
 refine zP Try.call28 Try.func28 rfl Try.ntmps28 fun X w => ?_
 simp only [ordering_Holds] at h
 refine zs (zr ?_)
 refine zU (zl (zn (zs (zs (zr ?_)))))
 refine zU ?_
 obtain ⟨r4, h5, h⟩ := zB h
 refine zc (ordering_check_con t1 (fun (y6 : Int) => ordering_Holds_1 y6 d2) 55 [.imm [.slc (List.map (PV.int .i64) d2.Lhs), .slc (List.map (PV.int .i64) d2.Rhs)]] (fun y6 r h => ordering_Holds_1_con y6 d2 r h) _ h5) ?_
 refine zU (zl (zn (zs (zr ?_))))
 refine zU (zl (zn ?_))
 rcases zI h with ⟨h7, h⟩ | ⟨h7, h⟩
 refine zi (zs (zr ?_))
 refine zU (zl (zn (zq (zt ?_))))
 cases h
 exact zT Try.results28
 refine zj (zk (zn (zs (zr ?_))))
 refine zU ?_
 obtain ⟨r8, h9, h⟩ := zB h
 refine zc (ordering_Violation_con t1 d2 _ h9) ?_
 refine zU (zl (zn (zs (zr ?_))))
 refine zU (zl (zn (zq ?_)))
 cases h
 exact zT Try.results28
end Go.Proofs.Ytimfcgdnogjlhaa
set_option linter.unusedVariables false
set_option linter.unusedSimpArgs false
namespace Go.Proofs.Ytimfcgdnogjlhaa
open Go Go.Ab
set_option maxHeartbeats 4000000 in
theorem drossref01_Of_con {D : Prop} (c1 : Int) (r2 : Value) (h : drossref01_Of c1 = some r2) : Con D Try.prog 72 [(.int .u8 c1)] (encValue r2) := by
 refine zP Try.call72 Try.func72 rfl Try.ntmps72 fun X w => ?_
 simp only [drossref01_Of] at h
 refine zs (zr ?_)
 refine zU (zl (zn (zs (zs (zr ?_)))))
 refine zU (zl (zn (zb (zs (zr ?_)))))
 refine zU (zl (zn ?_))
 rcases zI h with ⟨h3, h⟩ | ⟨h3, h⟩
 refine zi (zs (zr ?_))
 refine zU (zl (zn (zq (yr (zt ?_)))))
 cases h
 exact zT Try.results72
 refine zj (zs (zr ?_))
 refine zU (zl (zn ?_))
 rcases zI h with ⟨h4, h⟩ | ⟨h4, h⟩
 refine zi (zs (zr ?_))
 refine zU (zl (zn (zq (yr (zt ?_)))))
 cases h
 exact zT Try.results72
 refine zj (zs (zr ?_))
 refine zU (zl (zn ?_))
 rcases zI h with ⟨h5, h⟩ | ⟨h5, h⟩
 refine zi (zs (zr ?_))
 refine zU (zl (zn (zq (yr (zt ?_)))))
 cases h
 exact zT Try.results72
 refine zj (zs (zr ?_))
 refine zU (zl (zn ?_))
 rcases zI h with ⟨h6, h⟩ | ⟨h6, h⟩
 refine zi (zs (zr ?_))
 refine zU (zl (zn (zq (yr (zt ?_)))))
 cases h
 exact zT Try.results72
 refine zj (zs (zr ?_))
 refine zU (zl (zn ?_))
 rcases zI h with ⟨h7, h⟩ | ⟨h7, h⟩
 refine zi (zs (zr ?_))
 refine zU (zl (zn (zq (yr (zt ?_)))))
 cases h
 exact zT Try.results72
 refine zj (zs (zr ?_))
 refine zU (zl (zn ?_))
 rcases zI h with ⟨h8, h⟩ | ⟨h8, h⟩
 refine zi (zs (zr ?_))
 refine zU (zl (zn (zq (yr (zt ?_)))))
 cases h
 exact zT Try.results72
 refine zj (zs (zr ?_))
 refine zU (zl (zn ?_))
 rcases zI h with ⟨h9, h⟩ | ⟨h9, h⟩
 refine zi (zs (zr ?_))
 refine zU (zl (zn (zq (yr (zt ?_)))))
 cases h
 exact zT Try.results72
 refine zj (zs (zr ?_))
 refine zU (zl (zn ?_))
 rcases zI h with ⟨h10, h⟩ | ⟨h10, h⟩
 refine zi (zs (zr ?_))
 refine zU (zl (zn (zq (yr (zt ?_)))))
 cases h
 exact zT Try.results72
 refine zj (zs (zr ?_))
 refine zU (zl (zn ?_))
 rcases zI h with ⟨h11, h⟩ | ⟨h11, h⟩
 refine zi (zs (zr ?_))
 refine zU (zl (zn (zq (yr (zt ?_)))))
 cases h
 exact zT Try.results72
 refine zj (zs (zr ?_))
 refine zU (zl (zn ?_))
 rcases zI h with ⟨h12, h⟩ | ⟨h12, h⟩
 refine zi (zs (zr ?_))
 refine zU (zl (zn (zq (yr (zt ?_)))))
 cases h
 exact zT Try.results72
 refine zj (zs (zr ?_))
 refine zU (zl (zn ?_))
 rcases zI h with ⟨h13, h⟩ | ⟨h13, h⟩
 refine zi (zs (zr ?_))
 refine zU (zl (zn (zq (yr (zt ?_)))))
 cases h
 exact zT Try.results72
 refine zj (zk (yn (zn (zs (zr ?_)))))
 refine zU (zl (zn (zq ?_)))
 cases h
 exact zT Try.results72
end Go.Proofs.Ytimfcgdnogjlhaa
set_option linter.unusedVariables false
set_option linter.unusedSimpArgs false
namespace Go.Proofs.Ytimfcgdnogjlhaa
open Go Go.Ab
set_option maxHeartbeats 4000000 in
theorem drossref01_List_con {D : Prop} (c1 : List Int) (r2 : List Value) (h : drossref01_List c1 = some r2) : Con D Try.prog 60 [(.slc (List.map (PV.int .u8) c1))] (.slc (List.map encValue r2)) := by
 refine zP Try.call60 Try.func60 rfl Try.ntmps60 fun X w => ?_
 simp only [drossref01_List] at h
 refine zs (zr ?_)
 refine zU (zl (zn (zs (zr ?_))))
 refine zU (zl (zn (zs (zs (zr ?_)))))
 refine zU (zl (zn (zb ?_)))
 obtain ⟨o3, h4, h⟩ := zB h
 refine zO (fun (s : List Value × Int) => ⟨[(0, .p (.slc (List.map (PV.int .u8) c1))), (3, .own 18 1 0 s.1.length), (4, .p (.int .i64 s.2))], [(18, .arr 94 3 1 (List.map AV.p (List.map encValue s.1)))]⟩) (fun (o5 : List Value) => tE (cX Try.f60 X w D) (.exit 0) ⟨[(3, .own 18 1 0 o5.length)], [(18, .arr 94 3 1 (List.map AV.p (List.map encValue o5)))]⟩) h4 ?_ ?_
 clear h h4
 intro s x h
 obtain ⟨o6, i7⟩ := s
 simp only [drossref01_List_l1] at h
 dsimp only
 refine zs (zs (zr ?_))
 refine zU (zl (zn ?_))
 rcases zI h with ⟨h8, h⟩ | ⟨h8, h⟩
 refine zi (zk (zn (zs (zb (zr ?_)))))
 obtain ⟨x9, h10, h10a, h10b, h⟩ := zX h
 refine zU ?_
 obtain ⟨r11, h12, h⟩ := zB h
 refine zc (drossref01_Of_con x9 _ h12) ?_
 obtain ⟨h13, h⟩ := ite_some h
 refine zU (zl (yn (zn (zr ?_))))
 refine zU (zl ?_)
 cases h
 exact ⟨rfl, zE⟩
 refine zj (zx (ze ?_))
 cases h
 exact ⟨rfl, zE⟩
 try simp only at h
 refine zA (yh (zn (zs (zr ?_))))
 refine zU (zl (zn (zq ?_)))
 cases h
 exact zT Try.results60
end Go.Proofs.Ytimfcgdnogjlhaa
set_option linter.unusedVariables false
set_option linter.unusedSimpArgs false
namespace Go.Proofs.Ytimfcgdnogjlhaa
open Go Go.Ab
set_option maxHeartbeats 4000000 in
theorem drosslaw17_example_con {D : Prop} (r1 : Table) (h : drosslaw17_example = some r1) : Con D Try.prog 33 [] (encTable r1) := by
 refine zP Try.call33 Try.func33 rfl Try.ntmps33 fun X w => ?_
 simp only [drosslaw17_example] at h
 refine zs (zr ?_)
 refine zU (zl (zn (zs (zr ?_))))
 refine zU (zl (zn (zs (zs (zr ?_)))))
 refine zU (zl (zn (zb ?_)))
 refine zL ⟨[(0, .loc 0 1 0 0), (1, .loc 1 1 0 0), (9, .own 9 1 0 3), (10, .p (.int .i64 3)), (11, .p (.int .i64 0))], [(0, .arr 39 3 1 [.agg [.p (.str []), .nils, .nils]]), (1, .arr 39 3 1 [.agg [.p (.str [116]), .own 4 1 0 2, .nils]]), (4, .arr 9 1 1 [.p (.str [97]), .p (.str [98])]), (9, .arr 57 1 1 [.p (.slc (List.map (PV.int .u8) [1, 1])), .p (.slc (List.map (PV.int .u8) [2, 11])), .p (.slc (List.map (PV.int .u8) [11, 2]))])]⟩ ?_
 obtain ⟨l2, h3, h⟩ := zB h
 replace h3 := Option.some.inj h3
 refine awp_le (st' := ⟨[(0, .loc 0 1 0 0), (1, .loc 1 1 0 0), (9, .own 9 1 0 l2.length), (10, .p (.int .i64 3)), (11, .p (.int .i64 0))], [(0, .arr 39 3 1 [.agg [.p (.str []), .nils, .nils]]), (1, .arr 39 3 1 [.agg [.p (.str [116]), .own 4 1 0 2, .nils]]), (4, .arr 9 1 1 [.p (.str [97]), .p (.str [98])]), (9, .arr 57 1 1 (List.map AV.p (List.map (encL (PV.int .u8)) l2)))]⟩) (by simp only [go_sem, seval, ← h3]; all_goals ((repeat' refine And.intro ?_ ?_) <;> first | rfl | (simp; done) | (simp; rfl) | (simp [*]; done) | (simp [*]; rfl))) ?_
 have h3n : l2.length = 3 := by rw [← h3]; rfl
 clear h3
 obtain ⟨t4, h5, h⟩ := zB h
 refine zO (fun (s : List Row × Int) => ⟨[(0, .loc 0 1 0 0), (1, .loc 1 1 0 0), (9, .own 9 1 0 l2.length), (10, .p (.int .i64 3)), (11, .p (.int .i64 s.2))], [(0, .arr 39 3 1 [.agg [.p (.str []), .nils, .nils]]), (1, .arr 39 3 1 [.agg [.p (.str [116]), .own 4 1 0 ([[97], [98]]).length, .own 24 1 0 s.1.length]]), (4, .arr 9 1 1 (List.map AV.p (List.map PV.str [[97], [98]]))), (9, .arr 57 1 1 (List.map AV.p (List.map (encL (PV.int .u8)) l2))), (24, .arr 53 2 1 (List.map AV.p (List.map encRow s.1)))]⟩) (fun (o6 : List Row) => tE (cX Try.f33 X w D) (.exit 0) ⟨[(0, .loc 0 1 0 0), (1, .loc 1 1 0 0)], [(0, .arr 39 3 1 [.agg [.p (.str []), .nils, .nils]]), (1, .arr 39 3 1 [.agg [.p (.str [116]), .own 4 1 0 ([[97], [98]]).length, .own 24 1 0 o6.length]]), (4, .arr 9 1 1 (List.map AV.p (List.map PV.str [[97], [98]]))), (24, .arr 53 2 1 (List.map AV.p (List.map encRow o6)))]⟩) h5 ?_ ?_
 clear h h3n h5
 intro s x h
 obtain ⟨t7, t8⟩ := s
 simp only [drosslaw17_example_l1] at h
 dsimp only
 refine zs (zr ?_)
 refine zU (zl (zn (zs ?_)))
 rcases zI h with ⟨h9, h⟩ | ⟨h9, h⟩
 refine zi (zk (zn (zs (zb (zs (zr ?_))))))
 obtain ⟨x10, h11, h11a, h11b, h⟩ := zX h
 refine zU (zl (zn (zd ?_)))
 refine yU ?_
 obtain ⟨r12, h13, h⟩ := zB h
 refine yc (drossref01_List_con x10 _ h13) ?_
 obtain ⟨h14, h⟩ := ite_some h
 refine yU ?_
 refine yd (yn (zn (zr ?_)))
 refine zU (zl ?_)
 cases h
 exact ⟨rfl, zE⟩
 refine zj (zx (ze ?_))
 cases h
 exact ⟨rfl, zE⟩
 try simp only at h
 refine zA (yh (zn (zs (zr ?_))))
 refine zU (zl (zn (zq ?_)))
 cases h
 exact zT Try.results33
end Go.Proofs.Ytimfcgdnogjlhaa
set_option linter.unusedVariables false
set_option linter.unusedSimpArgs false
namespace Go.Proofs.Ytimfcgdnogjlhaa
open Go Go.Ab
set_option maxHeartbeats 4000000 in
theorem slices_Equal_Canonical_con {D : Prop} (s1 : List Canonical) (s2 : List Canonical) (r3 : Bool) (h : slices_Equal_Canonical s1 s2 = some r3) : Con D Try.prog 34 [(.slc (List.map encCanonical s1)), (.slc (List.map encCanonical s2))] (.bool r3) := by
 refine zP Try.call34 Try.func34 rfl Try.ntmps34 fun X w => ?_
 simp only [slices_Equal_Canonical] at h
 refine zs (zr ?_)
 refine zU (zl (zn (zs (zs (zr ?_)))))
 refine zU (zl (zn ?_))
 rcases zI h with ⟨h4, h⟩ | ⟨h4, h⟩
 refine zi (zs (zr ?_))
 refine zU (zl (zn (zq (zt ?_))))
 cases h
 exact zT Try.results34
 refine zj (zk (zn (zs (zs (zr ?_)))))
 refine zU (zl (zn (zb ?_)))
 obtain ⟨o5, h6, h⟩ := zB h
 refine zO (fun (s : Int) => ⟨[(0, .p (.slc (List.map encCanonical s1))), (1, .p (.slc (List.map encCanonical s2))), (12, .p (.int .i64 (s1.length : Int))), (13, .p (.int .i64 s))], []⟩) (fun (o : (Unit) ⊕ (Bool)) => match o with | .inl o7 => tE (cX Try.f34 X w D) (.exit 0) ⟨[], []⟩ | .inr o8 => tR Try.prog Try.f34 (.bool o8)) h6 ?_ ?_
 clear h h4 h6
 intro t9 x h
 simp only [slices_Equal_Canonical_l1] at h
 refine zs (zr ?_)
 refine zU (zl (zn (zs ?_)))
 rcases zI h with ⟨h10, h⟩ | ⟨h10, h⟩
 refine zi (zk (zn (zs (zb (zs (zr ?_))))))
 refine zU (zl (zn (zs (zd ?_))))
 obtain ⟨x11, h12, h12a, h12b, h⟩ := zX h
 obtain ⟨x13, h14, h14a, h14b, h⟩ := zX h
 refine yU ?_
 refine yd (zn ?_)
 rcases zI h with ⟨h15, h⟩ | ⟨h15, h⟩
 refine zj (zk (yn (zn (zr ?_))))
 refine zU (zl ?_)
 cases h
 exact ⟨rfl, zE⟩
 refine zi (zs (zr ?_))
 refine zU (zl (zn (zq (yr (zt ?_)))))
 cases h
 exact ⟨rfl, zT Try.results34⟩
 refine zj (zx (ze ?_))
 cases h
 exact ⟨rfl, zE⟩
 rcases o5 with ⟨⟩ | r16
 try simp only at h
 refine zA (yh (zn (zs (zr ?_))))
 refine zU (zl (zn (zq ?_)))
 cases h
 exact zT Try.results34
 try simp only at h
 refine zZ fun s hq => ?_
 refine yr (zt ?_)
 cases h
 exact hq
end Go.Proofs.Ytimfcgdnogjlhaa
set_option linter.unusedVariables false
set_option linter.unusedSimpArgs false
namespace Go.Proofs.Ytimfcgdnogjlhaa
open Go Go.Ab
set_option maxRecDepth 20000 in
set_option maxHeartbeats 4000000 in
theorem drosslaw17_awake_con  (r1 : Bool) (h : drosslaw17_awake = some r1) : Con False Try.prog 9 [] (.bool r1) := by
 refine zP Try.call9 Try.func9 rfl Try.ntmps9 fun X w => ?_
 simp only [drosslaw17_awake] at h
 refine zs (zr ?_)
 refine zU (zl (zn (zs (zr ?_))))
 obtain ⟨r2, h3, h⟩ := zB h
 refine zc (drosslaw17_example_con  _ h3) ?_
 refine zU (zl (zn (zs (zr ?_))))
 refine zU ?_
 obtain ⟨r4, h5, h⟩ := zB h
 refine zc (ordering_Holds_con r2 (OD.mk [0] [0]) _ h5) ?_
 refine zU (zl (zn (zs (zr ?_))))
 refine zU ?_
 obtain ⟨r6, h7, h⟩ := zB h
 refine zc (ordering_Violation_con r2 (OD.mk [0] [1]) _ h7) ?_
 refine zU (zl (zn (zs (zr ?_))))
 refine zU ?_
 obtain ⟨r8, h9, h⟩ := zB h
 refine zc (ordering_Violation_con r2 (OD.mk [] [0]) _ h9) ?_
 refine zU (zl (zn (zs (zr ?_))))
 refine zU ?_
 refine zM ⟨[(2, .p (.bool r4.1)), (3, .p (.int .i64 r4.2)), (4, .p (.int .i64 r6.1)), (5, .p (.int .i64 r6.2.1)), (6, .p (.int .i64 r6.2.2.1)), (7, .p (.bool r6.2.2.2)), (8, .p (.int .i64 r8.1)), (9, .p (.int .i64 r8.2.1)), (10, .p (.int .i64 r8.2.2.1)), (11, .p (.bool r8.2.2.2)), (45, .p (.agg [.slc (List.map (PV.int .i64) [0, 1]), .slc (List.map (PV.int .i64) [2, 0])]))], []⟩ ?_
 obtain ⟨r10, h11, h⟩ := zB h
 refine zc (ordering_Canonical_con (OD.mk [0, 1] [2, 0]) _ h11) ?_
 refine zU (zl (zn (zs (zr ?_))))
 refine zU ?_
 rcases zI h with ⟨h12, h⟩ | ⟨h12, h⟩
 refine zw 51 true ?_
 refine zg ?_
 refine zU ?_
 rcases zI h with ⟨h13, h⟩ | ⟨h13, h⟩
 refine zw 54 true ?_
 refine zg ?_
 refine zU ?_
 rcases zI h with ⟨h14, h⟩ | ⟨h14, h⟩
 refine zw 57 true ?_
 refine zg ?_
 refine zg ?_
 refine zU ?_
 rcases zI h with ⟨h15, h⟩ | ⟨h15, h⟩
 refine zw 61 true ?_
 refine zg ?_
 refine zg ?_
 refine zU ?_
 rcases zI h with ⟨h16, h⟩ | ⟨h16, h⟩
 refine zw 65 true ?_
 refine zg ?_
 refine zg ?_
 refine zU ?_
 rcases zI h with ⟨h17, h⟩ | ⟨h17, h⟩
 refine zw 69 true ?_
 refine zg ?_
 refine zU ?_
 rcases zI h with ⟨h18, h⟩ | ⟨h18, h⟩
 refine zw 72 true ?_
 refine zg ?_
 refine zg ?_
 refine zU ?_
 rcases zI h with ⟨h19, h⟩ | ⟨h19, h⟩
 refine zw 76 true ?_
 refine zg ?_
 refine zg ?_
 refine zU ?_
 rcases zI h with ⟨h20, h⟩ | ⟨h20, h⟩
 refine zw 80 true ?_
 refine zg ?_
 refine zg ?_
 refine zU ?_
 rcases zI h with ⟨h21, h⟩ | ⟨h21, h⟩
 refine zw 84 true ?_
 refine zg ?_
 refine zg ?_
 refine zU ?_
 rcases zI h with ⟨h22, h⟩ | ⟨h22, h⟩
 refine zw 88 true ?_
 refine zg ?_
 refine zg ?_
 refine zg ?_
 refine zg ?_
 refine zg ?_
 obtain ⟨r23, h24, h⟩ := zB h
 refine zc (slices_Equal_Canonical_con r10.1 [(Canonical.mk 3 2 (-1)), (Canonical.mk 0 0 2), (Canonical.mk 1 1 2)] _ h24) ?_
 refine zU (zl (zn (zq ?_)))
 cases h
 exact zT Try.results9
 refine zw 88 false ?_
 refine zh ?_
 refine zU (zl (zn (zq ?_)))
 cases h
 exact zT Try.results9
 refine zw 84 false ?_
 refine zh ?_
 refine zU ?_
 refine zh ?_
 refine zU (zl (zn (zq ?_)))
 cases h
 exact zT Try.results9
 refine zw 80 false ?_
 refine zh ?_
 refine zU ?_
 refine zh ?_
 refine zU ?_
 refine zh ?_
 refine zU (zl (zn (zq ?_)))
 cases h
 exact zT Try.results9
 refine zw 76 false ?_
 refine zh ?_
 refine zU ?_
 refine zh ?_
 refine zU ?_
 refine zh ?_
 refine zU ?_
 refine zh ?_
 refine zU (zl (zn (zq ?_)))
 cases h
 exact zT Try.results9
 refine zw 72 false ?_
 refine zh ?_
 refine zU ?_
 refine zh ?_
 refine zU ?_
 refine zh ?_
 refine zU ?_
 refine zh ?_
 refine zU ?_
 refine zh ?_
 refine zU (zl (zn (zq ?_)))
 cases h
 exact zT Try.results9
 refine zw 69 false ?_
 refine zh ?_
 refine zU ?_
 refine zh ?_
 refine zU ?_
 refine zh ?_
 refine zU ?_
 refine zh ?_
 refine zU ?_
 refine zh ?_
 refine zU ?_
 refine zh ?_
 refine zU (zl (zn (zq ?_)))
 cases h
 exact zT Try.results9
 refine zw 65 false ?_
 refine zh ?_
 refine zU ?_
 refine zh ?_
 refine zU ?_
 refine zh ?_
 refine zU ?_
 refine zh ?_
 refine zU ?_
 refine zh ?_
 refine zU ?_
 refine zh ?_
 refine zU ?_
 refine zh ?_
 refine zU (zl (zn (zq ?_)))
 cases h
 exact zT Try.results9
 refine zw 61 false ?_
 refine zh ?_
 refine zU ?_
 refine zh ?_
 refine zU ?_
 refine zh ?_
 refine zU ?_
 refine zh ?_
 refine zU ?_
 refine zh ?_
 refine zU ?_
 refine zh ?_
 refine zU ?_
 refine zh ?_
 refine zU ?_
 refine zh ?_
 refine zU (zl (zn (zq ?_)))
 cases h
 exact zT Try.results9
 refine zw 57 false ?_
 refine zh ?_
 refine zU ?_
 refine zh ?_
 refine zU ?_
 refine zh ?_
 refine zU ?_
 refine zh ?_
 refine zU ?_
 refine zh ?_
 refine zU ?_
 refine zh ?_
 refine zU ?_
 refine zh ?_
 refine zU ?_
 refine zh ?_
 refine zU ?_
 refine zh ?_
 refine zU (zl (zn (zq ?_)))
 cases h
 exact zT Try.results9
 refine zw 54 false ?_
 refine zh ?_
 refine zU ?_
 refine zh ?_
 refine zU ?_
 refine zh ?_
 refine zU ?_
 refine zh ?_
 refine zU ?_
 refine zh ?_
 refine zU ?_
 refine zh ?_
 refine zU ?_
 refine zh ?_
 refine zU ?_
 refine zh ?_
 refine zU ?_
 refine zh ?_
 refine zU ?_
 refine zh ?_
 refine zU (zl (zn (zq ?_)))
 cases h
 exact zT Try.results9
 refine zw 51 false ?_
 refine zh ?_
 refine zU ?_
 refine zh ?_
 refine zU ?_
 refine zh ?_
 refine zU ?_
 refine zh ?_
 refine zU ?_
 refine zh ?_
 refine zU ?_
 refine zh ?_
 refine zU ?_
 refine zh ?_
 refine zU ?_
 refine zh ?_
 refine zU ?_
 refine zh ?_
 refine zU ?_
 refine zh ?_
 refine zU ?_
 refine zh ?_
 refine zU (zl (zn (zq ?_)))
 cases h
 exact zT Try.results9
end Go.Proofs.Ytimfcgdnogjlhaa
set_option linter.unusedVariables false
set_option linter.unusedSimpArgs false
namespace Go.Proofs.Ytimfcgdnogjlhaa
open Go Go.Ab
set_option maxHeartbeats 4000000 in
theorem drossref03_Wide_con {D : Prop} (x1 : Drossref03_Recipe) (n2 : Int) (r3 : Table) (h : drossref03_Wide x1 n2 = some r3) : Con D Try.prog 53 [(encDrossref03_Recipe x1), (.int .i64 n2)] (encTable r3) := by
 refine zP Try.call53 Try.func53 rfl Try.ntmps53 fun X w => ?_
 simp only [drossref03_Wide] at h
 refine zs (zr ?_)
 refine zU (zl (zn (zs (zr ?_))))
 obtain ⟨h4, h⟩ := ite_some h
 obtain ⟨h5, h⟩ := ite_some h
 refine zW 4 ?_
 obtain ⟨l6, h7, h⟩ := zB h
 replace h7 := Option.some.inj h7
 refine AL_le (st' := ⟨[(1, .p (.int .i64 n2)), (2, .loc 2 1 0 0), (4, .loc 4 1 0 0), (10, .own 10 1 0 0), (13, .own 11 1 0 n2.toNat)], [(2, .arr 56 3 1 [.p (encDrossref03_Recipe x1)]), (4, .arr 39 3 1 [.agg [.p (.str []), .nils, .nils]]), (10, .arr 9 1 1 []), (11, .arr 9 1 1 (List.map AV.p (List.map PV.str l6)))]⟩) (by simp only [go_sem, seval, ← h7]; all_goals ((repeat' refine And.intro ?_ ?_) <;> first | rfl | (simp; done) | (simp; rfl) | (simp [*]; done) | (simp [*]; rfl))) ?_
 have h7n : l6.length = 8 := by rw [← h7]; rfl
 clear h7
 obtain ⟨h8, h⟩ := ite_some h
 refine zU (zl (zn (zs (zs (zr ?_)))))
 refine zU (zl (zn (zb ?_)))
 obtain ⟨t9, h10, h⟩ := zB h
 refine zO (fun (s : List Row × Int) => ⟨[(1, .p (.int .i64 n2)), (2, .loc 2 1 0 0), (4, .loc 4 1 0 0), (5, .loc 5 1 0 0), (6, .p (.int .i64 s.2))], [(2, .arr 56 3 1 [.p (encDrossref03_Recipe x1)]), (4, .arr 39 3 1 [.agg [.p (.str []), .nils, .nils]]), (5, .arr 39 3 1 [.agg [.p (.str [114]), .own 10 1 0 ((l6.take n2.toNat)).length, .own 64 1 0 s.1.length]]), (10, .arr 9 1 1 (List.map AV.p (List.map PV.str (l6.take n2.toNat)))), (64, .arr 53 2 1 (List.map AV.p (List.map encRow s.1)))]⟩) (fun (o11 : List Row) => tE (cX Try.f53 X w D) (.exit 0) ⟨[(4, .loc 4 1 0 0), (5, .loc 5 1 0 0)], [(4, .arr 39 3 1 [.agg [.p (.str []), .nils, .nils]]), (5, .arr 39 3 1 [.agg [.p (.str [114]), .own 10 1 0 ((l6.take n2.toNat)).length, .own 64 1 0 o11.length]]), (10, .arr 9 1 1 (List.map AV.p (List.map PV.str (l6.take n2.toNat)))), (64, .arr 53 2 1 (List.map AV.p (List.map encRow o11)))]⟩) h10 ?_ ?_
 clear h h4 h5 h7n h8 h10
 intro s x h
 obtain ⟨t12, i13⟩ := s
 simp only [drossref03_Wide_l4] at h
 dsimp only
 refine zs (zs (zr ?_))
 refine zU (zl (zn ?_))
 rcases zI h with ⟨h14, h⟩ | ⟨h14, h⟩
 refine zi (zk (zn (zs (zb (zs (zr ?_))))))
 refine zU (zl (zn (zs (zs (zr ?_)))))
 refine zU (zl (zn (zb ?_)))
 obtain ⟨r15, h16, h⟩ := zB h
 refine zO (fun (s : List Value × Int) => ⟨[(1, .p (.int .i64 n2)), (2, .loc 2 1 0 0), (4, .loc 4 1 0 0), (5, .loc 5 1 0 0), (6, .p (.int .i64 i13)), (7, .loc 7 1 0 0), (8, .p (.int .i64 s.2))], [(2, .arr 56 3 1 [.p (encDrossref03_Recipe x1)]), (4, .arr 39 3 1 [.agg [.p (.str []), .nils, .nils]]), (5, .arr 39 3 1 [.agg [.p (.str [114]), .own 10 1 0 ((l6.take n2.toNat)).length, .own 64 1 0 t12.length]]), (7, .arr 53 2 1 [.agg [.p (.int .i64 (IntKind.i64.wrap (1 + (IntKind.i64.wrap (i13 * (IntKind.i64.wrap (1 + (IntKind.i64.wrap (Int.tmod x1.Gap 3))))))))), .own 58 1 0 s.1.length]]), (10, .arr 9 1 1 (List.map AV.p (List.map PV.str (l6.take n2.toNat)))), (58, .arr 94 3 1 (List.map AV.p (List.map encValue s.1))), (64, .arr 53 2 1 (List.map AV.p (List.map encRow t12)))]⟩) (fun (o17 : List Value) => tE (cX Try.f53 X w D) (.exit 2) ⟨[(1, .p (.int .i64 n2)), (2, .loc 2 1 0 0), (4, .loc 4 1 0 0), (5, .loc 5 1 0 0), (6, .p (.int .i64 i13)), (7, .loc 7 1 0 0)], [(2, .arr 56 3 1 [.p (encDrossref03_Recipe x1)]), (4, .arr 39 3 1 [.agg [.p (.str []), .nils, .nils]]), (5, .arr 39 3 1 [.agg [.p (.str [114]), .own 10 1 0 ((l6.take n2.toNat)).length, .own 64 1 0 t12.length]]), (7, .arr 53 2 1 [.agg [.p (.int .i64 (IntKind.i64.wrap (1 + (IntKind.i64.wrap (i13 * (IntKind.i64.wrap (1 + (IntKind.i64.wrap (Int.tmod x1.Gap 3))))))))), .own 58 1 0 o17.length]]), (10, .arr 9 1 1 (List.map AV.p (List.map PV.str (l6.take n2.toNat)))), (58, .arr 94 3 1 (List.map AV.p (List.map encValue o17))), (64, .arr 53 2 1 (List.map AV.p (List.map encRow t12)))]⟩) h16 ?_ ?_
 clear h h14 h16
 intro s x h
 obtain ⟨r18, k19⟩ := s
 simp only [drossref03_Wide_l3] at h
 dsimp only
 refine zs (zs (zr ?_))
 refine zU (zl (zn ?_))
 rcases zI h with ⟨h20, h⟩ | ⟨h20, h⟩
 refine zi (zk (zn (zs (zb (zs (zr ?_))))))
 refine zU (zl (zn (zs (zs (zr ?_)))))
 obtain ⟨x21, h22, h22a, h22b, h⟩ := zX h
 refine zU (zl (zn ?_))
 rcases zI h with ⟨h23, h⟩ | ⟨h23, h⟩
 refine zi (zr ?_)
 obtain ⟨x24, h25, h25a, h25b, h⟩ := zX h
 refine zU (zl (zn (zd ?_)))
 refine yU ?_
 obtain ⟨r26, h27, h⟩ := zB h
 refine yc (drossref01_Of_con x24 _ h27) ?_
 obtain ⟨h28, h⟩ := ite_some h
 refine yU ?_
 refine yd (yn (zn (zr ?_)))
 refine zU (zl ?_)
 cases h
 exact ⟨rfl, zE⟩
 refine zj (zk (zn (zd ?_)))
 refine yU ?_
 obtain ⟨r29, h30, h⟩ := zB h
 refine yc (drossref01_Of_con 0 _ h30) ?_
 obtain ⟨h31, h⟩ := ite_some h
 refine yU ?_
 refine yd (yn (zn (zr ?_)))
 refine zU (zl ?_)
 cases h
 exact ⟨rfl, zE⟩
 refine zj (zx (ze ?_))
 cases h
 exact ⟨rfl, zE⟩
 try simp only at h
 refine zA (yh (zn (zr ?_)))
 refine zW 4 ?_
 refine zM ⟨[(1, .p (.int .i64 n2)), (2, .loc 2 1 0 0), (4, .loc 4 1 0 0), (5, .loc 5 1 0 0), (6, .p (.int .i64 i13)), (61, .own 64 1 0 t12.length), (63, .own 63 1 0 1)], [(2, .arr 56 3 1 [.p (encDrossref03_Recipe x1)]), (4, .arr 39 3 1 [.agg [.p (.str []), .nils, .nils]]), (5, .arr 39 3 1 [.agg [.p (.str [114]), .own 10 1 0 ((l6.take n2.toNat)).length, .own 64 1 0 t12.length]]), (10, .arr 9 1 1 (List.map AV.p (List.map PV.str (l6.take n2.toNat)))), (63, .arr 53 2 1 [.p (.agg [.int .i64 (IntKind.i64.wrap (1 + (IntKind.i64.wrap (i13 * (IntKind.i64.wrap (1 + (IntKind.i64.wrap (Int.tmod x1.Gap 3)))))))), .slc (List.map encValue r15)])]), (64, .arr 53 2 1 (List.map AV.p (List.map encRow t12)))]⟩ ?_
 obtain ⟨h32, h⟩ := ite_some h
 refine zU (zl (yn (zn (zr ?_))))
 refine zU (zl ?_)
 cases h
 exact ⟨rfl, zE⟩
 refine zj (zx (ze ?_))
 cases h
 exact ⟨rfl, zE⟩
 try simp only at h
 refine zA (yh (zn (zs (zr ?_))))
 refine zU (zl (zn (zq ?_)))
 cases h
 exact zT Try.results53
end Go.Proofs.Ytimfcgdnogjlhaa
set_option linter.unusedVariables false
set_option linter.unusedSimpArgs false
namespace Go.Proofs.Ytimfcgdnogjlhaa
open Go Go.Ab
set_option maxHeartbeats 4000000 in
theorem drossref03_Table_con {D : Prop} (x1 : Drossref03_Recipe) (m2 : Int) (r3 : Table × Bool) (h : drossref03_Table x1 m2 = some r3) : Con D Try.prog 26 [(encDrossref03_Recipe x1), (.int .i64 m2)] (.tup [(encTable r3.1), (.bool r3.2)]) := by
 refine zP Try.call26 Try.func26 rfl Try.ntmps26 fun X w => ?_
 simp only [drossref03_Table] at h
 refine zs (zr ?_)
 refine zU (zl (zn (zs (zs (zr ?_)))))
 refine zU (zl (zn ?_))
 rcases zI h with ⟨h4, h⟩ | ⟨h4, h⟩
 refine zi (zs (zr ?_))
 refine zU (zl (zn (zq (zt ?_))))
 cases h
 exact zT Try.results26
 refine zj (zk (zn (zs (zr ?_))))
 refine zU ?_
 obtain ⟨r5, h6, h⟩ := zB h
 refine zc (drossref03_Wide_con x1 (IntKind.i64.wrap (Int.tmod x1.Attrs 6)) _ h6) ?_
 refine zU (zl (zn (zq ?_)))
 cases h
 exact zT Try.results26
end Go.Proofs.Ytimfcgdnogjlhaa
set_option linter.unusedVariables false
set_option linter.unusedSimpArgs false
namespace Go.Proofs.Ytimfcgdnogjlhaa
open Go Go.Ab
set_option maxHeartbeats 4000000 in
theorem drossref17_members_con {D : Prop} (n1 : Int) (l2 : List Int) (r3 : List Int) (h : drossref17_members n1 l2 = some r3) : Con D Try.prog 54 [(.int .i64 n1), (.slc (List.map (PV.int .u8) l2))] (.slc (List.map (PV.int .i64) r3)) := by
 refine zP Try.call54 Try.func54 rfl Try.ntmps54 fun X w => ?_
 simp only [drossref17_members] at h
 refine zs (zr ?_)
 refine zU (zl (zn (zs (zr ?_))))
 refine zU (zl (zn (zs (zs (zr ?_)))))
 refine zU (zl (zn (zb ?_)))
 obtain ⟨o4, h5, h⟩ := zB h
 refine zO (fun (s : List Int × Int) => ⟨[(0, .p (.int .i64 n1)), (1, .p (.slc (List.map (PV.int .u8) l2))), (5, .own 30 1 0 s.1.length), (6, .p (.int .i64 s.2))], [(30, .arr 3 1 1 (List.map AV.p (List.map (PV.int .i64) s.1)))]⟩) (fun (o6 : List Int) => tE (cX Try.f54 X w D) (.exit 0) ⟨[(5, .own 30 1 0 o6.length)], [(30, .arr 3 1 1 (List.map AV.p (List.map (PV.int .i64) o6)))]⟩) h5 ?_ ?_
 clear h h5
 intro s x h
 obtain ⟨o7, i8⟩ := s
 simp only [drossref17_members_l1] at h
 dsimp only
 refine zs (zs (zr ?_))
 refine zU ?_
 rcases zI h with ⟨h9, h⟩ | ⟨h9, h⟩
 refine zw 11 true ?_
 refine zg ?_
 refine zg ?_
 refine zU ?_
 rcases zI h with ⟨h10, h⟩ | ⟨h10, h⟩
 refine zw 15 true ?_
 refine zg ?_
 refine zg ?_
 refine zU (zl (zn ?_))
 rcases zI h with ⟨h11, h⟩ | ⟨h11, h⟩
 refine zi (zk (zn (zs (zb (zr ?_)))))
 obtain ⟨x12, h13, h13a, h13b, h⟩ := zX h
 obtain ⟨h14, h⟩ := ite_none h
 obtain ⟨h15, h⟩ := ite_some h
 refine zU (zl (yn (zn (zr ?_))))
 refine zU (zl ?_)
 cases h
 exact ⟨rfl, zE⟩
 refine zj (zx (ze ?_))
 cases h
 exact ⟨rfl, zE⟩
 refine zw 15 false ?_
 refine zh ?_
 refine zU (zl (zn ?_))
 refine zj (zx (ze ?_))
 cases h
 exact ⟨rfl, zE⟩
 refine zw 11 false ?_
 refine zh ?_
 refine zU ?_
 refine zh ?_
 refine zU (zl (zn ?_))
 refine zj (zx (ze ?_))
 cases h
 exact ⟨rfl, zE⟩
 try simp only at h
 refine zA (yh (zn (zs (zr ?_))))
 refine zU (zl (zn (zq ?_)))
 cases h
 exact zT Try.results54
end Go.Proofs.Ytimfcgdnogjlhaa
set_option linter.unusedVariables false
set_option linter.unusedSimpArgs false
namespace Go.Proofs.Ytimfcgdnogjlhaa
open Go Go.Ab
set_option maxHeartbeats 4000000 in
theorem drossref17_Of_con {D : Prop} (n1 : Int) (x2 : Drossref17_Lists) (r3 : OD) (h : drossref17_Of n1 x2 = some r3) : Con D Try.prog 27 [(.int .i64 n1), (encDrossref17_Lists x2)] (encOD r3) := by
 refine zP Try.call27 Try.func27 rfl Try.ntmps27 fun X w => ?_
 simp only [drossref17_Of] at h
 refine zs (zr ?_)
 refine zU (zl (zn (zs (zd ?_))))
 refine yU ?_
 obtain ⟨r4, h5, h⟩ := zB h
 refine yc (drossref17_members_con n1 x2.X _ h5) ?_
 refine yU ?_
 obtain ⟨r6, h7, h⟩ := zB h
 refine yc (drossref17_members_con n1 x2.Y _ h7) ?_
 refine yU ?_
 refine yd (zn (zq ?_))
 cases h
 exact zT Try.results27
end Go.Proofs.Ytimfcgdnogjlhaa
set_option linter.unusedVariables false
set_option linter.unusedSimpArgs false
namespace Go.Proofs.Ytimfcgdnogjlhaa
open Go Go.Ab
set_option maxHeartbeats 4000000 in
theorem drosslaw17_OrderingChain_1_con {D : Prop} (x1 : List Int) (y2 : List Int) (c3 : Table) (r4 : Bool) (h : drosslaw17_OrderingChain_1 x1 y2 c3 = some r4) : Con D Try.prog 31 [(.slc (List.map (PV.int .i64) x1)), (.slc (List.map (PV.int .i64) y2)), .imm [.str c3.Name, .slc (List.map PV.str c3.Attrs), .slc (List.map encRow c3.Rows)]] (.bool r4) := by
 refine zP Try.call31 Try.func31 rfl Try.ntmps31 fun X w => ?_
 simp only [drosslaw17_OrderingChain_1] at h
 refine zs (zr ?_)
 refine zU (zl (zn (zs (zr ?_))))
 refine zU ?_
 obtain ⟨r5, h6, h⟩ := zB h
 refine zc (ordering_Holds_con c3 (OD.mk x1 y2) _ h6) ?_
 refine zU (zl (zn (zs (zr ?_))))
 refine zU ?_
 rcases zI h with ⟨h7, h⟩ | ⟨h7, h⟩
 replace h := h.symm
 refine zw 18 true ?_
 refine zg ?_
 refine zU (zl (zn (zq ?_)))
 cases h
 exact zT Try.results31
 refine zw 18 false ?_
 refine zh ?_
 refine zU (zl (zn (zq ?_)))
 cases h
 exact zT Try.results31
end Go.Proofs.Ytimfcgdnogjlhaa
namespace Go.Proofs
open Go Go.Ab Go.Shelf
def Ytimfcgdnogjlhaa.grow59_ren : Go.Shelf.Ren := ⟨fun | 4 => 59 | n => n, fun | 22 => 22 | 25 => 3 | 3 => 3 | 4 => 4 | 9 => 9 | 20 => 20 | 0 => 0 | n => n, fun | n => n⟩
theorem Ytimfcgdnogjlhaa.grow59 : Go.Proofs.Lays8.n4 Try.prog Ytimfcgdnogjlhaa.grow59_ren := {
  mixed := by kernel_rfl
  f4 := ⟨Try.f59.name, by decide, Try.func59.trans (congrArg some (by kernel_rfl))⟩
  t0 := Try.underlying0
  a0 := Try.isAgg0
  z0 := Try.sizeOf0
  v0 := Try.zeroValue0
  t3 := Try.underlying3
  a3 := Try.isAgg3
  z3 := Try.sizeOf3
  v3 := Try.zeroValue3
  t4 := Try.underlying4
  a4 := Try.isAgg4
  z4 := Try.sizeOf4
  v4 := Try.zeroValue4
  t9 := Try.underlying9
  a9 := Try.isAgg9
  z9 := Try.sizeOf9
  v9 := Try.zeroValue9
  t20 := Try.underlying20
  a20 := Try.isAgg20
  z20 := Try.sizeOf20
  v20 := Try.zeroValue20
  t22 := Try.underlying22
  a22 := Try.isAgg22
  z22 := Try.sizeOf22
  v22 := Try.zeroValue22 }
theorem Ytimfcgdnogjlhaa.grw59 : Grw Try.prog 59 3 1 := ⟨Try.call59, fun n w h0 hn => by
  obtain ⟨m, rfl⟩ := Int.eq_ofNat_of_zero_le h0
  have hi : Try.prog.info? 3 = some Try.t3 := by kernel_rfl
  obtain ⟨z, hz, hzs⟩ : ∃ z, Try.t3.zero = some z ∧ z.cells.size = 1 := ⟨_, rfl, rfl⟩
  cases m with
  | zero =>
    refine (Any8.slices_Grow_room Ytimfcgdnogjlhaa.grow59 none 0 0 0 w (Nat.le_refl _) (by omega) (by omega) (Nat.le_refl _)).mono fun e' w' h => ?_
    obtain ⟨rfl, rfl⟩ := h
    exact ⟨_, rfl, World.ownsRow_nil _ _ _ _, RowKit.Below.refl _ _, Nat.le_refl _⟩
  | succ m =>
    have hby : Try.t3.bytes = 8 := rfl
    refine (Any8.slices_Grow_grow Ytimfcgdnogjlhaa.grow59 Try.t3 z hi hz (by decide) none 0 0 (m + 1) [] w (Nat.le_refl _) (by omega) (by rw [hby]; omega) (by omega) (by simp) (fun _ => rfl) (fun a h => by cases h)).mono fun e' w' h => ?_
    obtain ⟨rfl, rfl⟩ := h
    have hge := grownCap_ge w (0 + (m + 1)) 0 3
    refine ⟨_, rfl, World.ownsRow_made w.drew _ _ (Nat.le_refl _) (grownCap_le_maxLen w (0 + (m + 1)) 0 3 (by unfold maxLen; omega)) ?_, (RowKit.Below.refl _ w).drew.alloc (Nat.le_refl _) _, Nat.le_succ _⟩
    simp only [Array.size_append, size_zeroCells, hzs, List.size_toArray, List.length_nil]
    generalize hG : grownCap w (0 + (m + 1)) 0 3 = G at hge
    show 0 + (0 + (m + 1) - 0) * 1 + (grownCap w (0 + (m + 1)) 0 3 - (0 + (m + 1))) * 1 = grownCap w (0 + (m + 1)) 0 3 * 1
    rw [hG]; omega⟩
end Go.Proofs
set_option linter.unusedVariables false
set_option linter.unusedSimpArgs false
namespace Go.Proofs.Ytimfcgdnogjlhaa
open Go Go.Ab
set_option maxHeartbeats 4000000 in
theorem slices_Concat_int_con {D : Prop} (s1 : List (List Int)) (r2 : List Int) (h : slices_Concat_int s1 = some r2) : Con D Try.prog 32 [(.slc (List.map (encL (PV.int .i64)) s1))] (.slc (List.map (PV.int .i64) r2)) := by
 refine zP Try.call32 Try.func32 rfl Try.ntmps32 fun X w => ?_
 simp only [slices_Concat_int] at h
 refine zs (zr ?_)
 refine zU (zl (zn (zs (zr ?_))))
 refine zU (zl (zn (zs (zs (zr ?_)))))
 refine zU (zl (zn (zb ?_)))
 obtain ⟨s3, h4, h⟩ := zB h
 refine zO (fun (s : Int × Int) => ⟨[(0, .p (.slc (List.map (encL (PV.int .i64)) s1))), (3, .p (.int .i64 s.1)), (9, .p (.slc (List.map (encL (PV.int .i64)) s1))), (10, .p (.int .i64 (s1.length : Int))), (11, .p (.int .i64 s.2))], []⟩) (fun (o5 : Int) => tE (cX Try.f32 X w D) (.exit 0) ⟨[(0, .p (.slc (List.map (encL (PV.int .i64)) s1))), (3, .p (.int .i64 o5))], []⟩) h4 ?_ ?_
 clear h h4
 intro s x h
 obtain ⟨s6, t7⟩ := s
 simp only [slices_Concat_int_l1] at h
 dsimp only
 refine zs (zr ?_)
 refine zU (zl (zn (zs ?_)))
 rcases zI h with ⟨h8, h⟩ | ⟨h8, h⟩
 refine zi (zk (zn (zs (zb (zs (zr ?_))))))
 obtain ⟨x9, h10, h10a, h10b, h⟩ := zX h
 refine zU (zl (zn (zs (zr ?_))))
 refine zU (zl (zn (zs (zr ?_))))
 refine zU (zl (zn ?_))
 rcases zI h with ⟨h11, h⟩ | ⟨h11, h⟩
 cases h
 refine zj (zk (yn (zn (zr ?_))))
 refine zU (zl ?_)
 cases h
 exact ⟨rfl, zE⟩
 refine zj (zx (ze ?_))
 cases h
 exact ⟨rfl, zE⟩
 try simp only at h
 refine zA (yh (zn (zs (zr ?_))))
 refine zU ?_
 obtain ⟨h12, h⟩ := ite_some h
 obtain ⟨h13, h⟩ := ite_some h
 refine zN grw59 24 h12 h13 ?_
 refine zU (zl (zn (zs (zs (zr ?_)))))
 refine zU (zl (zn (zb ?_)))
 obtain ⟨n14, h15, h⟩ := zB h
 refine zO (fun (s : List Int × Int) => ⟨[(6, .own 24 1 0 s.1.length), (25, .p (.slc (List.map (encL (PV.int .i64)) s1))), (26, .p (.int .i64 (s1.length : Int))), (27, .p (.int .i64 s.2))], [(24, .arr 3 1 1 (List.map AV.p (List.map (PV.int .i64) s.1)))]⟩) (fun (o16 : List Int) => tE (cX Try.f32 X w D) (.exit 2) ⟨[(6, .own 24 1 0 o16.length)], [(24, .arr 3 1 1 (List.map AV.p (List.map (PV.int .i64) o16)))]⟩) h15 ?_ ?_
 clear h h4 h12 h13 h15
 intro s x h
 obtain ⟨n17, t18⟩ := s
 simp only [slices_Concat_int_l2] at h
 dsimp only
 refine zs (zr ?_)
 refine zU (zl (zn (zs ?_)))
 rcases zI h with ⟨h19, h⟩ | ⟨h19, h⟩
 refine zi (zk (zn (zs (zb (zs (zr ?_))))))
 obtain ⟨x20, h21, h21a, h21b, h⟩ := zX h
 refine zU (zl (zn (zr ?_)))
 obtain ⟨h22, h⟩ := ite_some h
 refine zU (zl (yn (zn (zr ?_))))
 refine zU (zl ?_)
 cases h
 exact ⟨rfl, zE⟩
 refine zj (zx (ze ?_))
 cases h
 exact ⟨rfl, zE⟩
 try simp only at h
 refine zA (yh (zn (zs (zr ?_))))
 refine zU (zl (zn (zq ?_)))
 cases h
 exact zT Try.results32
end Go.Proofs.Ytimfcgdnogjlhaa
set_option linter.unusedVariables false
set_option linter.unusedSimpArgs false
namespace Go.Proofs.Ytimfcgdnogjlhaa
open Go Go.Ab
set_option maxHeartbeats 4000000 in
theorem drosslaw17_OrderingChain_con (x1 : Drossref03_Recipe) (l2 : Drossref17_Lists) (m3 : List Int) (r4 : Bool) (h : drosslaw17_OrderingChain x1 l2 m3 = some r4) : Con False Try.prog 8 [(encDrossref03_Recipe x1), (encDrossref17_Lists l2), (.slc (List.map (PV.int .u8) m3))] (.bool r4) := by
 refine zP Try.call8 Try.func8 rfl Try.ntmps8 fun X w => ?_
 simp only [drosslaw17_OrderingChain] at h
 refine zs (zr ?_)
 refine zU (zl (zn (zs (zr ?_))))
 refine zU ?_
 obtain ⟨r5, h6, h⟩ := zB h
 refine zc (drossref03_Table_con x1 8 _ h6) ?_
 refine zU (zl (zn (zs ?_)))
 obtain ⟨t7, h8, h⟩ := zB h
 refine zJ (fun (o9 : Bool) => tE (cX Try.f8 X w False) .normal ⟨[(2, .p (.slc (List.map (PV.int .u8) m3))), (4, .loc 4 1 0 0), (7, .loc 7 1 0 0), (23, .p (.bool o9))], [(4, .arr 59 2 1 [.p (encDrossref17_Lists l2)]), (7, .arr 39 3 1 [.p (encTable r5.1)])]⟩) t7 ?_ ?_
 replace h := h8
 clear h8
 refine zr ?_
 obtain ⟨r10, h11, h⟩ := zB h
 refine zc (drosslaw17_awake_con  _ h11) ?_
 refine zU ?_
 rcases zI h with ⟨h12, h⟩ | ⟨h12, h⟩
 replace h := h.symm
 refine zw 20 false ?_
 refine zg ?_
 refine zg ?_
 refine zU (zl ?_)
 cases h
 exact ⟨rfl, zE⟩
 refine zw 20 true ?_
 refine zh ?_
 refine zU (zl ?_)
 cases h
 exact ⟨rfl, zE⟩
 try simp only at h
 refine zA (zn ?_)
 rcases zI h with ⟨h13, h⟩ | ⟨h13, h⟩
 refine zi (zs (zr ?_))
 obtain ⟨r14, h15, h⟩ := zB h
 refine zc (drosslaw17_awake_con  _ h15) ?_
 refine zU (zl (zn (zq (zt ?_))))
 cases h
 exact zT Try.results8
 refine zj (zk (zn (zs (zr ?_))))
 refine zU (zl (zn (zs (zr ?_))))
 refine zU ?_
 obtain ⟨r16, h17, h⟩ := zB h
 refine zc (drossref17_Of_con (r5.1.Attrs.length : Int) l2 _ h17) ?_
 refine zU (zl (zn (zs (zr ?_))))
 refine zU ?_
 refine zM ⟨[(7, .loc 7 1 0 0), (10, .loc 10 1 0 0), (31, .p (.int .i64 (r5.1.Attrs.length : Int))), (33, .p (.agg [.slc (List.map (PV.int .u8) m3), .slc (List.map (PV.int .u8) [])]))], [(7, .arr 39 3 1 [.p (encTable r5.1)]), (10, .arr 24 2 1 [.p (encOD r16)])]⟩ ?_
 obtain ⟨r18, h19, h⟩ := zB h
 refine zc (drossref17_Of_con (r5.1.Attrs.length : Int) (Drossref17_Lists.mk m3 []) _ h19) ?_
 refine zU (zl (zn (zs (zr ?_))))
 refine zU (zl (zn (zs (zs (zd ?_)))))
 obtain ⟨h20, h⟩ := ite_some h
 obtain ⟨h21, h⟩ := ite_some h
 refine yU ?_
 obtain ⟨r22, h23, h⟩ := zB h
 refine yc (drosslaw17_OrderingChain_1_con r16.Lhs (r16.Lhs.take ((IntKind.i64.wrap (Int.tdiv (r16.Lhs.length : Int) 2)).toNat)) r5.1 _ h23) ?_
 refine yU ?_
 refine yd (zn ?_)
 rcases zI h with ⟨h24, h⟩ | ⟨h24, h⟩
 refine zj (zk (zn (zs (zs (zr ?_)))))
 refine zU ?_
 obtain ⟨r25, h26, h⟩ := zB h
 refine zc (drosslaw17_OrderingChain_1_con r16.Lhs r16.Rhs r5.1 _ h26) ?_
 refine zU (zl (zn ?_))
 rcases zI h with ⟨h27, h⟩ | ⟨h27, h⟩
 refine zj (zk (zn (zs (zs (zr ?_)))))
 refine zU ?_
 obtain ⟨r28, h29, h⟩ := zB h
 refine zc (drosslaw17_OrderingChain_1_con r16.Rhs r18.Lhs r5.1 _ h29) ?_
 refine zU ?_
 rcases zI h with ⟨h30, h⟩ | ⟨h30, h⟩
 refine zw 61 true ?_
 refine zg ?_
 refine zg ?_
 refine zg ?_
 refine zg ?_
 obtain ⟨r31, h32, h⟩ := zB h
 refine zc (drosslaw17_OrderingChain_1_con r16.Lhs r18.Lhs r5.1 _ h32) ?_
 refine zg ?_
 refine zU (zl (zn ?_))
 rcases zI h with ⟨h33, h⟩ | ⟨h33, h⟩
 refine zj (zk (zn (zs (zr ?_))))
 obtain ⟨h34, h⟩ := ite_some h
 obtain ⟨h35, h⟩ := ite_some h
 refine zU (zl (zn (zs (zd ?_))))
 refine yV 4 ?_
 refine yS 78 ?_
 obtain ⟨r36, h37, h⟩ := zB h
 refine yc (slices_Concat_int_con [(r18.Lhs.take ((if (r18.Lhs.length : Int) < 3 then (r18.Lhs.length : Int) else 3).toNat)), r16.Lhs] _ h37) ?_
 refine yV 3 ?_
 refine yS 83 ?_
 obtain ⟨r38, h39, h⟩ := zB h
 refine yc (slices_Concat_int_con [(r18.Lhs.take ((if (r18.Lhs.length : Int) < 3 then (r18.Lhs.length : Int) else 3).toNat)), r16.Rhs] _ h39) ?_
 obtain ⟨r40, h41, h⟩ := zB h
 refine yc (drosslaw17_OrderingChain_1_con r36 r38 r5.1 _ h41) ?_
 refine yU ?_
 refine yd (zn (zq ?_))
 cases h
 exact zT Try.results8
 refine zi (zs (zr ?_))
 refine zU (zl (zn (zq (zt ?_))))
 cases h
 exact zT Try.results8
 refine zw 61 false ?_
 refine zh ?_
 refine zU (zl (zn ?_))
 refine zj (zk (zn (zs (zr ?_))))
 obtain ⟨h42, h⟩ := ite_some h
 obtain ⟨h43, h⟩ := ite_some h
 refine zU (zl (zn (zs (zd ?_))))
 refine yV 4 ?_
 refine yS 78 ?_
 obtain ⟨r44, h45, h⟩ := zB h
 refine yc (slices_Concat_int_con [(r18.Lhs.take ((if (r18.Lhs.length : Int) < 3 then (r18.Lhs.length : Int) else 3).toNat)), r16.Lhs] _ h45) ?_
 refine yV 3 ?_
 refine yS 83 ?_
 obtain ⟨r46, h47, h⟩ := zB h
 refine yc (slices_Concat_int_con [(r18.Lhs.take ((if (r18.Lhs.length : Int) < 3 then (r18.Lhs.length : Int) else 3).toNat)), r16.Rhs] _ h47) ?_
 obtain ⟨r48, h49, h⟩ := zB h
 refine yc (drosslaw17_OrderingChain_1_con r44 r46 r5.1 _ h49) ?_
 refine yU ?_
 refine yd (zn (zq ?_))
 cases h
 exact zT Try.results8
 refine zi (zs (zr ?_))
 refine zU (zl (zn (zq (zt ?_))))
 cases h
 exact zT Try.results8
 refine zi (zs (zr ?_))
 refine zU (zl (zn (zq (zt ?_))))
 cases h
 exact zT Try.results8
end Go.Proofs.Ytimfcgdnogjlhaa
