/- Each function of the program computes what its Lean function says, where that has a value. -/
import Derived.Shelf.SlSortCmp.NoneTotal
import Derived.Ground.SlsfProg
import Derived.Shelf.SortM.Plain
import Derived.Shelf.SortM.SortNone
import Derived.Ground.SlgmProg
import Derived.Shelf.Small.Strs
import Derived.Test.YthgnkhchpjcboaaGreatT1
import Derived.Test.YthgnkhchpjcboaaGreatL1
import Derived.Test.YthgnkhchpjcboaaGreatA2
set_option linter.unusedVariables false
set_option linter.unusedSimpArgs false
namespace Go.Proofs.YthgnkhchpjcboaaGreat
open Go Go.Ab
theorem mixed : Tryz.prog.follows .mixedOrders = true := by kernel_rfl
@[reducible] noncomputable def cX (f : Func) (X : Nat → Prop) (w : World) (D : Prop) : Cx := ⟨Tryz.prog, f.ntmps, 0, X, [], fun _ => none, w, D⟩
theorem zd {N B : Nat} {X : Nat → Prop} {H0 : List (Nat × AO)} {inj0 : Inj} {w0 : World} {D : Prop} {Q : Exit → St → Prop} {st : St} {id : Nat} {l : List Oper} (h : DGo ⟨Tryz.prog, N, B, X, H0, inj0, w0, D⟩ l.toArray l st [] (DK ⟨Tryz.prog, N, B, X, H0, inj0, w0, D⟩ l.toArray Q)) (hs : slotsOk l.toArray = true := by kernel_rfl) : AWp ⟨Tryz.prog, N, B, X, H0, inj0, w0, D⟩ (.region id l.toArray true) Q st := awp_drawn_walk mixed hs h
theorem zdl (n : Nat) {N B : Nat} {X : Nat → Prop} {H0 : List (Nat × AO)} {inj0 : Inj} {w0 : World} {D : Prop} {Q : Exit → St → Prop} {st : St} {id : Nat} {l : List Oper} (h : DGo ⟨Tryz.prog, N, B, X, H0, inj0, w0, D⟩ l.toArray (l.take n) st [] (DKL ⟨Tryz.prog, N, B, X, H0, inj0, w0, D⟩ l.toArray (l.drop n) Q)) (hs : slotsOk l.toArray = true := by kernel_rfl) (hl : lastOk l.toArray n = true := by kernel_rfl) : AWp ⟨Tryz.prog, N, B, X, H0, inj0, w0, D⟩ (.region id l.toArray true) Q st := awp_drawn_last n mixed hs hl h
def encCanonical (x : Canonical) : PV := .agg [.int .u32 x.Context, .int .i64 x.A, .int .i64 x.B]
@[go_sem] theorem encCanonical_fold (x : Canonical) : PV.agg [.int .u32 x.Context, .int .i64 x.A, .int .i64 x.B] = encCanonical x := rfl
@[go_sem] theorem encCanonical_cells (x : Canonical) : (encCanonical x).cells = [.int .u32 x.Context, .int .i64 x.A, .int .i64 x.B] := rfl
@[go_sem] theorem encCanonical_isAgg (x : Canonical) : (encCanonical x).isAgg = true := rfl
@[go_sem] theorem encCanonical_isTup (x : Canonical) : (encCanonical x).isTup = false := rfl
@[go_sem] theorem encCanonical_sl (l : List Canonical) : ((l.map encCanonical).all fun y => y.cells.length == 3) = true := by simp [encCanonical, PV.cells]
@[go_sem] theorem encCanonical_ok (l : List Canonical) : ((l.map encCanonical).map AV.p).all (elemOk 3) = true := elemOkAll_map _ _ _ fun _ => ⟨rfl, rfl⟩
@[go_sem] theorem encCanonical_flat (x : Canonical) : (encCanonical x).flat = true := rfl
def encValue (x : Value) : PV := .agg [.int .i64 x.Kind, .int .i64 x.Num, .str x.Str]
@[go_sem] theorem encValue_fold (x : Value) : PV.agg [.int .i64 x.Kind, .int .i64 x.Num, .str x.Str] = encValue x := rfl
@[go_sem] theorem encValue_cells (x : Value) : (encValue x).cells = [.int .i64 x.Kind, .int .i64 x.Num, .str x.Str] := rfl
@[go_sem] theorem encValue_isAgg (x : Value) : (encValue x).isAgg = true := rfl
@[go_sem] theorem encValue_isTup (x : Value) : (encValue x).isTup = false := rfl
@[go_sem] theorem encValue_sl (l : List Value) : ((l.map encValue).all fun y => y.cells.length == 3) = true := by simp [encValue, PV.cells]
@[go_sem] theorem encValue_ok (l : List Value) : ((l.map encValue).map AV.p).all (elemOk 3) = true := elemOkAll_map _ _ _ fun _ => ⟨rfl, rfl⟩
@[go_sem] theorem encValue_flat (x : Value) : (encValue x).flat = true := rfl
def encRow (x : Row) : PV := .agg [.int .i64 x.ID, .slc (List.map encValue x.Values)]
@[go_sem] theorem encRow_fold (x : Row) : PV.agg [.int .i64 x.ID, .slc (List.map encValue x.Values)] = encRow x := rfl
@[go_sem] theorem encRow_cells (x : Row) : (encRow x).cells = [.int .i64 x.ID, .slc (List.map encValue x.Values)] := rfl
@[go_sem] theorem encRow_isAgg (x : Row) : (encRow x).isAgg = true := rfl
@[go_sem] theorem encRow_isTup (x : Row) : (encRow x).isTup = false := rfl
@[go_sem] theorem encRow_sl (l : List Row) : ((l.map encRow).all fun y => y.cells.length == 2) = true := by simp [encRow, PV.cells]
@[go_sem] theorem encRow_ok (l : List Row) : ((l.map encRow).map AV.p).all (elemOk 2) = true := elemOkAll_map _ _ _ fun _ => ⟨rfl, rfl⟩
def encTable (x : Table) : PV := .agg [.str x.Name, .slc (List.map PV.str x.Attrs), .slc (List.map encRow x.Rows)]
@[go_sem] theorem encTable_fold (x : Table) : PV.agg [.str x.Name, .slc (List.map PV.str x.Attrs), .slc (List.map encRow x.Rows)] = encTable x := rfl
@[go_sem] theorem encTable_cells (x : Table) : (encTable x).cells = [.str x.Name, .slc (List.map PV.str x.Attrs), .slc (List.map encRow x.Rows)] := rfl
@[go_sem] theorem encTable_isAgg (x : Table) : (encTable x).isAgg = true := rfl
@[go_sem] theorem encTable_isTup (x : Table) : (encTable x).isTup = false := rfl
@[go_sem] theorem encTable_sl (l : List Table) : ((l.map encTable).all fun y => y.cells.length == 3) = true := by simp [encTable, PV.cells]
@[go_sem] theorem encTable_ok (l : List Table) : ((l.map encTable).map AV.p).all (elemOk 3) = true := elemOkAll_map _ _ _ fun _ => ⟨rfl, rfl⟩
def encOdmine_miner (x : Odmine_miner) : PV := .agg [.str x.t.Name, .slc (List.map PV.str x.t.Attrs), .slc (List.map encRow x.t.Rows), .mapv (encK encCanonical x.known) (encW PV.bool x.known)]
@[go_sem] theorem encOdmine_miner_fold (x : Odmine_miner) : PV.agg [.str x.t.Name, .slc (List.map PV.str x.t.Attrs), .slc (List.map encRow x.t.Rows), .mapv (encK encCanonical x.known) (encW PV.bool x.known)] = encOdmine_miner x := rfl
@[go_sem] theorem encOdmine_miner_cells (x : Odmine_miner) : (encOdmine_miner x).cells = [.str x.t.Name, .slc (List.map PV.str x.t.Attrs), .slc (List.map encRow x.t.Rows), .mapv (encK encCanonical x.known) (encW PV.bool x.known)] := rfl
@[go_sem] theorem encOdmine_miner_isAgg (x : Odmine_miner) : (encOdmine_miner x).isAgg = true := rfl
@[go_sem] theorem encOdmine_miner_isTup (x : Odmine_miner) : (encOdmine_miner x).isTup = false := rfl
@[go_sem] theorem encOdmine_miner_sl (l : List Odmine_miner) : ((l.map encOdmine_miner).all fun y => y.cells.length == 4) = true := by simp [encOdmine_miner, PV.cells]
@[go_sem] theorem encOdmine_miner_ok (l : List Odmine_miner) : ((l.map encOdmine_miner).map AV.p).all (elemOk 4) = true := elemOkAll_map _ _ _ fun _ => ⟨rfl, rfl⟩
def encOD (x : OD) : PV := .agg [.slc (List.map (PV.int .i64) x.Lhs), .slc (List.map (PV.int .i64) x.Rhs)]
@[go_sem] theorem encOD_fold (x : OD) : PV.agg [.slc (List.map (PV.int .i64) x.Lhs), .slc (List.map (PV.int .i64) x.Rhs)] = encOD x := rfl
@[go_sem] theorem encOD_cells (x : OD) : (encOD x).cells = [.slc (List.map (PV.int .i64) x.Lhs), .slc (List.map (PV.int .i64) x.Rhs)] := rfl
@[go_sem] theorem encOD_isAgg (x : OD) : (encOD x).isAgg = true := rfl
@[go_sem] theorem encOD_isTup (x : OD) : (encOD x).isTup = false := rfl
@[go_sem] theorem encOD_sl (l : List OD) : ((l.map encOD).all fun y => y.cells.length == 2) = true := by simp [encOD, PV.cells]
@[go_sem] theorem encOD_ok (l : List OD) : ((l.map encOD).map AV.p).all (elemOk 2) = true := elemOkAll_map _ _ _ fun _ => ⟨rfl, rfl⟩
def encDrossref03_Recipe (x : Drossref03_Recipe) : PV := .agg [.int .u8 x.Attrs, .int .u8 x.Gap, .slc (List.map (encL (PV.int .u8)) x.Rows)]
@[go_sem] theorem encDrossref03_Recipe_fold (x : Drossref03_Recipe) : PV.agg [.int .u8 x.Attrs, .int .u8 x.Gap, .slc (List.map (encL (PV.int .u8)) x.Rows)] = encDrossref03_Recipe x := rfl
@[go_sem] theorem encDrossref03_Recipe_cells (x : Drossref03_Recipe) : (encDrossref03_Recipe x).cells = [.int .u8 x.Attrs, .int .u8 x.Gap, .slc (List.map (encL (PV.int .u8)) x.Rows)] := rfl
@[go_sem] theorem encDrossref03_Recipe_isAgg (x : Drossref03_Recipe) : (encDrossref03_Recipe x).isAgg = true := rfl
@[go_sem] theorem encDrossref03_Recipe_isTup (x : Drossref03_Recipe) : (encDrossref03_Recipe x).isTup = false := rfl
@[go_sem] theorem encDrossref03_Recipe_sl (l : List Drossref03_Recipe) : ((l.map encDrossref03_Recipe).all fun y => y.cells.length == 3) = true := by simp [encDrossref03_Recipe, PV.cells]
@[go_sem] theorem encDrossref03_Recipe_ok (l : List Drossref03_Recipe) : ((l.map encDrossref03_Recipe).map AV.p).all (elemOk 3) = true := elemOkAll_map _ _ _ fun _ => ⟨rfl, rfl⟩
def encDrossref17_Lists (x : Drossref17_Lists) : PV := .agg [.slc (List.map (PV.int .u8) x.X), .slc (List.map (PV.int .u8) x.Y)]
@[go_sem] theorem encDrossref17_Lists_fold (x : Drossref17_Lists) : PV.agg [.slc (List.map (PV.int .u8) x.X), .slc (List.map (PV.int .u8) x.Y)] = encDrossref17_Lists x := rfl
@[go_sem] theorem encDrossref17_Lists_cells (x : Drossref17_Lists) : (encDrossref17_Lists x).cells = [.slc (List.map (PV.int .u8) x.X), .slc (List.map (PV.int .u8) x.Y)] := rfl
@[go_sem] theorem encDrossref17_Lists_isAgg (x : Drossref17_Lists) : (encDrossref17_Lists x).isAgg = true := rfl
@[go_sem] theorem encDrossref17_Lists_isTup (x : Drossref17_Lists) : (encDrossref17_Lists x).isTup = false := rfl
@[go_sem] theorem encDrossref17_Lists_sl (l : List Drossref17_Lists) : ((l.map encDrossref17_Lists).all fun y => y.cells.length == 2) = true := by simp [encDrossref17_Lists, PV.cells]
@[go_sem] theorem encDrossref17_Lists_ok (l : List Drossref17_Lists) : ((l.map encDrossref17_Lists).map AV.p).all (elemOk 2) = true := elemOkAll_map _ _ _ fun _ => ⟨rfl, rfl⟩
theorem encCanonical_38_key (a b : Canonical) : keyEqK Tryz.prog 38 (encCanonical a) (encCanonical b) = some (decide (a = b)) := by
  obtain ⟨a0, a1, a2⟩ := a
  obtain ⟨b0, b1, b2⟩ := b
  simp only [encCanonical, keyEqK, keyB, eqC, go_sem, seval, beq_self_eq_true, Bool.true_and, Bool.and_true, if_true, Option.bind_some, Option.isSome_some]
  congr 1
  rw [Bool.eq_iff_iff]
  simp
@[go_sem] theorem encCanonical_38_keyB (x : Canonical) : keyB Tryz.prog 38 (encCanonical x) = true := by
  obtain ⟨a0, a1, a2⟩ := x
  simp only [encCanonical, keyEqK, keyB, eqC, go_sem, seval, beq_self_eq_true, Bool.true_and, Bool.and_true, if_true, Option.bind_some, Option.isSome_some]
@[go_sem] theorem encCanonical_38_keyL (a0 : Int) (a1 : Int) (a2 : Int) : keyB Tryz.prog 38 (.agg [.int .u32 a0, .int .i64 a1, .int .i64 a2]) = true := encCanonical_38_keyB (Canonical.mk a0 a1 a2)
@[go_sem] theorem encCanonical_38_find {V : Type} (k : Canonical) (m : List (Canonical × V)) (g : V → PV) : findA Tryz.prog 38 (encCanonical k) (encK encCanonical m) ((encW g m).map AV.p) = some ((mget m k).map fun v => AV.p (g v)) := findA_gen _ _ _ encCanonical_38_key k m g
@[go_sem] theorem encCanonical_38_findL {V : Type} (a0 : Int) (a1 : Int) (a2 : Int) (m : List (Canonical × V)) (g : V → PV) : findA Tryz.prog 38 (.agg [.int .u32 a0, .int .i64 a1, .int .i64 a2]) (encK encCanonical m) ((encW g m).map AV.p) = some ((mget m (Canonical.mk a0 a1 a2)).map fun v => AV.p (g v)) := encCanonical_38_find (Canonical.mk a0 a1 a2) m g
@[go_sem] theorem encCanonical_38_upd {V : Type} (k : Canonical) (m : List (Canonical × V)) (g : V → PV) (v : V) : updA Tryz.prog 38 (encCanonical k) (.p (g v)) (encK encCanonical m) ((encW g m).map AV.p) = some (encK encCanonical (mset m k v), (encW g (mset m k v)).map AV.p) := updA_gen _ _ _ encCanonical_38_key k m g v
@[go_sem] theorem encCanonical_38_updL {V : Type} (a0 : Int) (a1 : Int) (a2 : Int) (m : List (Canonical × V)) (g : V → PV) (v : V) : updA Tryz.prog 38 (.agg [.int .u32 a0, .int .i64 a1, .int .i64 a2]) (.p (g v)) (encK encCanonical m) ((encW g m).map AV.p) = some (encK encCanonical (mset m (Canonical.mk a0 a1 a2) v), (encW g (mset m (Canonical.mk a0 a1 a2) v)).map AV.p) := encCanonical_38_upd (Canonical.mk a0 a1 a2) m g v
end Go.Proofs.YthgnkhchpjcboaaGreat
set_option linter.unusedVariables false
set_option linter.unusedSimpArgs false
namespace Go.Proofs.YthgnkhchpjcboaaGreat
open Go Go.Ab
set_option maxHeartbeats 4000000 in
theorem drossref17_Same_con {D : Prop} (a1 : List Canonical) (b2 : List Canonical) (r3 : Bool) (h : drossref17_Same a1 b2 = some r3) : Con D Tryz.prog 13 [(.slc (List.map encCanonical a1)), (.slc (List.map encCanonical b2))] (.bool r3) := by
 refine zP Tryz.call13 Tryz.func13 rfl Tryz.ntmps13 fun X w => ?_
 simp only [drossref17_Same] at h
 refine zs (zr ?_)
 refine zU (zl (zn (zs (zs (zr ?_)))))
 refine zU (zl (zn ?_))
 rcases zI h with ⟨h4, h⟩ | ⟨h4, h⟩
 refine zi (zs (zr ?_))
 refine zU (zl (zn (zq (zt ?_))))
 cases h
 exact zT Tryz.results13
 refine zj (zk (zn (zs (zs (zr ?_)))))
 refine zU (zl (zn (zb ?_)))
 obtain ⟨o5, h6, h⟩ := zB h
 refine zO (fun (s : Int) => ⟨[(0, .p (.slc (List.map encCanonical a1))), (1, .p (.slc (List.map encCanonical b2))), (5, .p (.int .i64 s))], []⟩) (fun (o : (Unit) ⊕ (Bool)) => match o with | .inl o7 => tE (cX Tryz.f13 X w D) (.exit 0) ⟨[], []⟩ | .inr o8 => tR Tryz.prog Tryz.f13 (.bool o8)) h6 ?_ ?_
 clear h h4 h6
 intro i9 x h
 simp only [drossref17_Same_l1] at h
 refine zs (zs (zr ?_))
 refine zU (zl (zn ?_))
 rcases zI h with ⟨h10, h⟩ | ⟨h10, h⟩
 refine zi (zk (zn (zs (zb (zs (zd ?_))))))
 obtain ⟨x11, h12, h12a, h12b, h⟩ := zX h
 obtain ⟨x13, h14, h14a, h14b, h⟩ := zX h
 refine yU ?_
 refine yd (zn ?_)
 rcases zI h with ⟨h15, h⟩ | ⟨h15, h⟩
 refine zj (zk (yn (zn (zr ?_))))
 refine zU (zl ?_)
 cases h
 exact ⟨rfl, zE⟩
 refine zi (zs (zr ?_))
 refine zU (zl (zn (zq (yr (zt ?_)))))
 cases h
 exact ⟨rfl, zT Tryz.results13⟩
 refine zj (zx (ze ?_))
 cases h
 exact ⟨rfl, zE⟩
 rcases o5 with ⟨⟩ | r16
 try simp only at h
 refine zA (yh (zn (zs (zr ?_))))
 refine zU (zl (zn (zq ?_)))
 cases h
 exact zT Tryz.results13
 try simp only at h
 refine zZ fun s hq => ?_
 refine yr (zt ?_)
 cases h
 exact hq
end Go.Proofs.YthgnkhchpjcboaaGreat
set_option linter.unusedVariables false
set_option linter.unusedSimpArgs false
namespace Go.Proofs.YthgnkhchpjcboaaGreat
open Go Go.Ab
set_option maxRecDepth 20000 in
set_option maxHeartbeats 4000000 in
theorem table_isName_con {D : Prop} (s1 : List UInt8) (r2 : Bool) (h : table_isName s1 = some r2) : Con D Tryz.prog 90 [(.str s1)] (.bool r2) := by
 refine zP Tryz.call90 Tryz.func90 rfl Tryz.ntmps90 fun X w => ?_
 simp only [table_isName] at h
 refine zs (zr ?_)
 refine zU (zl (zn (zs (zs (zr ?_)))))
 refine zU ?_
 rcases zI h with ⟨h3, h⟩ | ⟨h3, h⟩
 refine zw 8 true ?_
 refine zh ?_
 refine zU ?_
 refine zh ?_
 refine zU (zl (zn ?_))
 refine zi (zs (zr ?_))
 refine zU (zl (zn (zq (zt ?_))))
 cases h
 exact zT Tryz.results90
 refine zw 8 false ?_
 refine zg ?_
 refine zg ?_
 refine zg ?_
 refine zU ?_
 rcases zI h with ⟨h4, h⟩ | ⟨h4, h⟩
 refine zw 13 true ?_
 refine zh ?_
 refine zU (zl (zn ?_))
 refine zi (zs (zr ?_))
 refine zU (zl (zn (zq (zt ?_))))
 cases h
 exact zT Tryz.results90
 refine zw 13 false ?_
 refine zg ?_
 refine zg ?_
 refine zU (zl (zn ?_))
 rcases zI h with ⟨h5, h⟩ | ⟨h5, h⟩
 refine zi (zs (zr ?_))
 refine zU (zl (zn (zq (zt ?_))))
 cases h
 exact zT Tryz.results90
 refine zj (zk (zn (zs (zs (zr ?_)))))
 refine zU (zl (zn (zb ?_)))
 obtain ⟨o6, h7, h⟩ := zB h
 refine zO (fun (s : Int) => ⟨[(0, .p (.str s1)), (18, .p (.int .i64 (s1.length : Int))), (19, .p (.int .i64 s))], []⟩) (fun (o : (Unit) ⊕ (Bool)) => match o with | .inl o8 => tE (cX Tryz.f90 X w D) (.exit 0) ⟨[], []⟩ | .inr o9 => tR Tryz.prog Tryz.f90 (.bool o9)) h7 ?_ ?_
 clear h h3 h4 h5 h7
 intro t10 x h
 simp only [table_isName_l1] at h
 refine zs (zr ?_)
 refine zU (zl (zn (zs ?_)))
 rcases zI h with ⟨h11, h⟩ | ⟨h11, h⟩
 refine zi (zk (zn (zs (zb (zs (zr ?_))))))
 refine zU (zl (zn (zs (zr ?_))))
 obtain ⟨c12, h13, h13a, h13b, h⟩ := zX h
 refine zU (zl (zn ?_))
 obtain ⟨l14, h15, h⟩ := zB h
 refine zJ (fun (o16 : Bool) => tE (cX Tryz.f90 X w D) .normal ⟨[(0, .p (.str s1)), (3, .p (.int .i64 t10)), (4, .p (.int .u8 ((c12.toNat : Nat) : Int))), (5, .p (.bool o16)), (18, .p (.int .i64 (s1.length : Int))), (19, .p (.int .i64 t10))], []⟩) l14 ?_ ?_
 replace h := h15
 clear h15
 refine zr ?_
 refine zU ?_
 rcases zI h with ⟨h17, h⟩ | ⟨h17, h⟩
 refine zw 27 true ?_
 refine zg ?_
 refine zg ?_
 refine zU ?_
 rcases zI h with ⟨h18, h⟩ | ⟨h18, h⟩
 refine zw 31 true ?_
 refine zh ?_
 refine zU ?_
 refine zh ?_
 refine zU (zl ?_)
 cases h
 exact ⟨rfl, zE⟩
 refine zw 31 false ?_
 refine zg ?_
 refine zg ?_
 refine zg ?_
 rcases zI h with ⟨h19, h⟩ | ⟨h19, h⟩
 refine zw 34 true ?_
 refine zg ?_
 refine zg ?_
 refine zg ?_
 refine zU ?_
 rcases zI h with ⟨h20, h⟩ | ⟨h20, h⟩
 refine zw 39 true ?_
 refine zh ?_
 refine zU (zl ?_)
 cases h
 exact ⟨rfl, zE⟩
 replace h := h.symm
 refine zw 39 false ?_
 refine zg ?_
 refine zg ?_
 refine zU (zl ?_)
 cases h
 exact ⟨rfl, zE⟩
 replace h := h.symm
 refine zw 34 false ?_
 refine zh ?_
 refine zg ?_
 refine zU ?_
 refine zg ?_
 refine zg ?_
 refine zU (zl ?_)
 cases h
 exact ⟨rfl, zE⟩
 refine zw 27 false ?_
 refine zh ?_
 refine zU ?_
 refine zg ?_
 refine zg ?_
 refine zg ?_
 rcases zI h with ⟨h21, h⟩ | ⟨h21, h⟩
 refine zw 34 true ?_
 refine zg ?_
 refine zg ?_
 refine zg ?_
 refine zU ?_
 rcases zI h with ⟨h22, h⟩ | ⟨h22, h⟩
 refine zw 39 true ?_
 refine zh ?_
 refine zU (zl ?_)
 cases h
 exact ⟨rfl, zE⟩
 replace h := h.symm
 refine zw 39 false ?_
 refine zg ?_
 refine zg ?_
 refine zU (zl ?_)
 cases h
 exact ⟨rfl, zE⟩
 replace h := h.symm
 refine zw 34 false ?_
 refine zh ?_
 refine zg ?_
 refine zU ?_
 refine zg ?_
 refine zg ?_
 refine zU (zl ?_)
 cases h
 exact ⟨rfl, zE⟩
 try simp only at h
 refine zA (zn (zs (zr ?_)))
 refine zU ?_
 rcases zI h with ⟨h23, h⟩ | ⟨h23, h⟩
 refine zw 45 false ?_
 refine zh ?_
 refine zU (zl (zn ?_))
 refine zj (zk (yn (zn (zr ?_))))
 refine zU (zl ?_)
 cases h
 exact ⟨rfl, zE⟩
 refine zw 45 true ?_
 refine zg ?_
 refine zg ?_
 refine zg ?_
 rcases zI h with ⟨h24, h⟩ | ⟨h24, h⟩
 replace h := h.symm
 refine zw 48 true ?_
 refine zh ?_
 refine zg ?_
 refine zg ?_
 refine zh ?_
 refine zg ?_
 refine zU (zl (zn ?_))
 refine zi (zs (zr ?_))
 refine zU (zl (zn (zq (yr (zt ?_)))))
 cases h
 exact ⟨rfl, zT Tryz.results90⟩
 refine zw 48 false ?_
 refine zg ?_
 refine zg ?_
 refine zg ?_
 refine zg ?_
 rcases zI h with ⟨h25, h⟩ | ⟨h25, h⟩
 replace h := h.symm
 refine zw 52 true ?_
 refine zh ?_
 refine zg ?_
 refine zU (zl (zn ?_))
 refine zi (zs (zr ?_))
 refine zU (zl (zn (zq (yr (zt ?_)))))
 cases h
 exact ⟨rfl, zT Tryz.results90⟩
 refine zw 52 false ?_
 refine zg ?_
 refine zg ?_
 refine zg ?_
 refine zU (zl (zn ?_))
 rcases zI h with ⟨h26, h⟩ | ⟨h26, h⟩
 refine zi (zs (zr ?_))
 refine zU (zl (zn (zq (yr (zt ?_)))))
 cases h
 exact ⟨rfl, zT Tryz.results90⟩
 refine zj (zk (yn (zn (zr ?_))))
 refine zU (zl ?_)
 cases h
 exact ⟨rfl, zE⟩
 refine zj (zx (ze ?_))
 cases h
 exact ⟨rfl, zE⟩
 rcases o6 with ⟨⟩ | r27
 try simp only at h
 refine zA (yh (zn (zs (zr ?_))))
 refine zU (zl (zn (zq ?_)))
 cases h
 exact zT Tryz.results90
 try simp only at h
 refine zZ fun s hq => ?_
 refine yr (zt ?_)
 cases h
 exact hq
end Go.Proofs.YthgnkhchpjcboaaGreat
set_option linter.unusedVariables false
set_option linter.unusedSimpArgs false
namespace Go.Proofs.YthgnkhchpjcboaaGreat
open Go Go.Ab
set_option maxHeartbeats 4000000 in
theorem slices_Index_string_con {D : Prop} (s1 : List (List UInt8)) (v2 : List UInt8) (r3 : Int) (h : slices_Index_string s1 v2 = some r3) : Con D Tryz.prog 114 [(.slc (List.map PV.str s1)), (.str v2)] (.int .i64 r3) := by
 refine zP Tryz.call114 Tryz.func114 rfl Tryz.ntmps114 fun X w => ?_
 simp only [slices_Index_string] at h
 refine zs (zr ?_)
 refine zU (zl (zn (zs (zs (zr ?_)))))
 refine zU (zl (zn (zb ?_)))
 obtain ⟨o4, h5, h⟩ := zB h
 refine zO (fun (s : Int) => ⟨[(0, .p (.slc (List.map PV.str s1))), (1, .p (.str v2)), (7, .p (.int .i64 (s1.length : Int))), (8, .p (.int .i64 s))], []⟩) (fun (o : (Unit) ⊕ (Int)) => match o with | .inl o6 => tE (cX Tryz.f114 X w D) (.exit 0) ⟨[], []⟩ | .inr o7 => tR Tryz.prog Tryz.f114 (.int .i64 o7)) h5 ?_ ?_
 clear h h5
 intro t8 x h
 simp only [slices_Index_string_l1] at h
 refine zs (zr ?_)
 refine zU (zl (zn (zs ?_)))
 rcases zI h with ⟨h9, h⟩ | ⟨h9, h⟩
 refine zi (zk (zn (zs (zb (zs (zr ?_))))))
 refine zU (zl (zn (zs (zr ?_))))
 obtain ⟨x10, h11, h11a, h11b, h⟩ := zX h
 refine zU (zl (zn ?_))
 rcases zI h with ⟨h12, h⟩ | ⟨h12, h⟩
 refine zi (zs (zr ?_))
 refine zU (zl (zn (zq (yr (zt ?_)))))
 cases h
 exact ⟨rfl, zT Tryz.results114⟩
 refine zj (zk (yn (zn (zr ?_))))
 refine zU (zl ?_)
 cases h
 exact ⟨rfl, zE⟩
 refine zj (zx (ze ?_))
 cases h
 exact ⟨rfl, zE⟩
 rcases o4 with ⟨⟩ | r13
 try simp only at h
 refine zA (yh (zn (zs (zr ?_))))
 refine zU (zl (zn (zq ?_)))
 cases h
 exact zT Tryz.results114
 try simp only at h
 refine zZ fun s hq => ?_
 refine yr (zt ?_)
 cases h
 exact hq
end Go.Proofs.YthgnkhchpjcboaaGreat
set_option linter.unusedVariables false
set_option linter.unusedSimpArgs false
namespace Go.Proofs.YthgnkhchpjcboaaGreat
open Go Go.Ab
set_option maxHeartbeats 4000000 in
theorem slices_Contains_string_con {D : Prop} (s1 : List (List UInt8)) (v2 : List UInt8) (r3 : Bool) (h : slices_Contains_string s1 v2 = some r3) : Con D Tryz.prog 91 [(.slc (List.map PV.str s1)), (.str v2)] (.bool r3) := by
 refine zP Tryz.call91 Tryz.func91 rfl Tryz.ntmps91 fun X w => ?_
 simp only [slices_Contains_string] at h
 refine zs (zr ?_)
 refine zU (zl (zn (zs (zr ?_))))
 refine zU ?_
 obtain ⟨r4, h5, h⟩ := zB h
 refine zc (slices_Index_string_con s1 v2 _ h5) ?_
 refine zU (zl (zn (zq ?_)))
 cases h
 exact zT Tryz.results91
end Go.Proofs.YthgnkhchpjcboaaGreat
set_option linter.unusedVariables false
set_option linter.unusedSimpArgs false
namespace Go.Proofs.YthgnkhchpjcboaaGreat
open Go Go.Ab
set_option maxHeartbeats 4000000 in
theorem slices_IndexFunc_Value_con {D : Prop} (s1 : List Value) (f2 : Value → Option (Bool)) (f2_k : FuncId) (f2_cs : List PV) (f2_h : ∀ (y3 : Value) (r4 : Bool), f2 y3 = some r4 → Con D Tryz.prog f2_k ((encValue y3) :: f2_cs) (.bool r4)) (r5 : Int) (h : slices_IndexFunc_Value s1 f2 = some r5) : Con D Tryz.prog 130 [(.slc (List.map encValue s1)), .func (.func f2_k) f2_cs] (.int .i64 r5) := by
 refine zP Tryz.call130 Tryz.func130 rfl Tryz.ntmps130 fun X w => ?_
 simp only [slices_IndexFunc_Value] at h
 refine zs (zr ?_)
 refine zU (zl (zn (zs (zs (zr ?_)))))
 refine zU (zl (zn (zb ?_)))
 obtain ⟨o6, h7, h⟩ := zB h
 refine zO (fun (s : Int) => ⟨[(0, .p (.slc (List.map encValue s1))), (1, .p (.func (.func f2_k) f2_cs)), (7, .p (.int .i64 (s1.length : Int))), (8, .p (.int .i64 s))], []⟩) (fun (o : (Unit) ⊕ (Int)) => match o with | .inl o8 => tE (cX Tryz.f130 X w D) (.exit 0) ⟨[], []⟩ | .inr o9 => tR Tryz.prog Tryz.f130 (.int .i64 o9)) h7 ?_ ?_
 clear h h7
 intro t10 x h
 simp only [slices_IndexFunc_Value_l1] at h
 refine zs (zr ?_)
 refine zU (zl (zn (zs ?_)))
 rcases zI h with ⟨h11, h⟩ | ⟨h11, h⟩
 refine zi (zk (zn (zs (zb (zs (zr ?_))))))
 refine zU (zl (zn (zs (zr ?_))))
 obtain ⟨x12, h13, h13a, h13b, h⟩ := zX h
 refine zU ?_
 obtain ⟨r14, h15, h⟩ := zB h
 refine zc (f2_h x12 _ h15) ?_
 refine zl (zn ?_)
 rcases zI h with ⟨h16, h⟩ | ⟨h16, h⟩
 refine zi (zs (zr ?_))
 refine zU (zl (zn (zq (yr (zt ?_)))))
 cases h
 exact ⟨rfl, zT Tryz.results130⟩
 refine zj (zk (yn (zn (zr ?_))))
 refine zU (zl ?_)
 cases h
 exact ⟨rfl, zE⟩
 refine zj (zx (ze ?_))
 cases h
 exact ⟨rfl, zE⟩
 rcases o6 with ⟨⟩ | r17
 try simp only at h
 refine zA (yh (zn (zs (zr ?_))))
 refine zU (zl (zn (zq ?_)))
 cases h
 exact zT Tryz.results130
 try simp only at h
 refine zZ fun s hq => ?_
 refine yr (zt ?_)
 cases h
 exact hq
end Go.Proofs.YthgnkhchpjcboaaGreat
set_option linter.unusedVariables false
set_option linter.unusedSimpArgs false
namespace Go.Proofs.YthgnkhchpjcboaaGreat
open Go Go.Ab
set_option maxHeartbeats 4000000 in
theorem slices_ContainsFunc_Value_con {D : Prop} (s1 : List Value) (f2 : Value → Option (Bool)) (f2_k : FuncId) (f2_cs : List PV) (f2_h : ∀ (y3 : Value) (r4 : Bool), f2 y3 = some r4 → Con D Tryz.prog f2_k ((encValue y3) :: f2_cs) (.bool r4)) (r5 : Bool) (h : slices_ContainsFunc_Value s1 f2 = some r5) : Con D Tryz.prog 115 [(.slc (List.map encValue s1)), .func (.func f2_k) f2_cs] (.bool r5) := by
 refine zP Tryz.call115 Tryz.func115 rfl Tryz.ntmps115 fun X w => ?_
 simp only [slices_ContainsFunc_Value] at h
 refine zs (zr ?_)
 refine zU (zl (zn (zs (zr ?_))))
 refine zU ?_
 obtain ⟨r6, h7, h⟩ := zB h
 refine zc (slices_IndexFunc_Value_con s1 f2 f2_k f2_cs f2_h _ h7) ?_
 refine zU (zl (zn (zq ?_)))
 cases h
 exact zT Tryz.results115
end Go.Proofs.YthgnkhchpjcboaaGreat
set_option linter.unusedVariables false
set_option linter.unusedSimpArgs false
namespace Go.Proofs.YthgnkhchpjcboaaGreat
open Go Go.Ab
set_option maxHeartbeats 4000000 in
theorem value_Valid_con {D : Prop} (v1 : Value) (r2 : Bool) (h : value_Valid v1 = some r2) : Con D Tryz.prog 117 [(encValue v1)] (.bool r2) := by
 refine zP Tryz.call117 Tryz.func117 rfl Tryz.ntmps117 fun X w => ?_
 simp only [value_Valid] at h
 refine zs (zr ?_)
 refine zU (zl (zn (zs (zs (zr ?_)))))
 refine zU (zl (zn (zb (zs (zr ?_)))))
 refine zU (zl (zn ?_))
 rcases zI h with ⟨h3, h⟩ | ⟨h3, h⟩
 refine zi (zs (zr ?_))
 refine zU ?_
 rcases zI h with ⟨h4, h⟩ | ⟨h4, h⟩
 replace h := h.symm
 refine zw 10 true ?_
 refine zg ?_
 refine zg ?_
 refine zg ?_
 refine zU (zl (zn (zq (yr (zt ?_)))))
 cases h
 exact zT Tryz.results117
 refine zw 10 false ?_
 refine zh ?_
 refine zU (zl (zn (zq (yr (zt ?_)))))
 cases h
 exact zT Tryz.results117
 refine zj (zs (zr ?_))
 refine zU (zl (zn ?_))
 rcases zI h with ⟨h5, h⟩ | ⟨h5, h⟩
 refine zi (zs (zr ?_))
 refine zU (zl (zn (zq (yr (zt ?_)))))
 cases h
 exact zT Tryz.results117
 refine zj (zs (zr ?_))
 refine zU (zl (zn ?_))
 rcases zI h with ⟨h6, h⟩ | ⟨h6, h⟩
 refine zi (zs (zr ?_))
 refine zU ?_
 rcases zI h with ⟨h7, h⟩ | ⟨h7, h⟩
 replace h := h.symm
 refine zw 25 true ?_
 refine zg ?_
 refine zg ?_
 refine zg ?_
 refine zg ?_
 refine zU (zl (zn (zq (yr (zt ?_)))))
 cases h
 exact zT Tryz.results117
 refine zw 25 false ?_
 refine zh ?_
 refine zU (zl (zn (zq (yr (zt ?_)))))
 cases h
 exact zT Tryz.results117
 refine zj (zs (zr ?_))
 refine zU (zl (zn ?_))
 rcases zI h with ⟨h8, h⟩ | ⟨h8, h⟩
 refine zi (zs (zr ?_))
 refine zU ?_
 rcases zI h with ⟨h9, h⟩ | ⟨h9, h⟩
 replace h := h.symm
 refine zw 36 true ?_
 refine zg ?_
 refine zg ?_
 refine zg ?_
 refine zU (zl (zn (zq (yr (zt ?_)))))
 cases h
 exact zT Tryz.results117
 refine zw 36 false ?_
 refine zh ?_
 refine zU (zl (zn (zq (yr (zt ?_)))))
 cases h
 exact zT Tryz.results117
 refine zj (zk (yn (zn (zs (zr ?_)))))
 refine zU (zl (zn (zq ?_)))
 cases h
 exact zT Tryz.results117
end Go.Proofs.YthgnkhchpjcboaaGreat
set_option linter.unusedVariables false
set_option linter.unusedSimpArgs false
namespace Go.Proofs.YthgnkhchpjcboaaGreat
open Go Go.Ab
set_option maxHeartbeats 4000000 in
theorem table_validValues_1_con {D : Prop} (v1 : Value) (r2 : Bool) (h : table_validValues_1 v1 = some r2) : Con D Tryz.prog 116 [(encValue v1)] (.bool r2) := by
 refine zP Tryz.call116 Tryz.func116 rfl Tryz.ntmps116 fun X w => ?_
 simp only [table_validValues_1] at h
 refine zs (zr ?_)
 refine zU (zl (zn (zs (zr ?_))))
 refine zU ?_
 obtain ⟨r3, h4, h⟩ := zB h
 refine zc (value_Valid_con v1 _ h4) ?_
 refine zU (zl (zn (zq ?_)))
 cases h
 exact zT Tryz.results116
end Go.Proofs.YthgnkhchpjcboaaGreat
set_option linter.unusedVariables false
set_option linter.unusedSimpArgs false
namespace Go.Proofs.YthgnkhchpjcboaaGreat
open Go Go.Ab
set_option maxHeartbeats 4000000 in
theorem table_validValues_con {D : Prop} (l1 : List Value) (r2 : Bool) (h : table_validValues l1 = some r2) : Con D Tryz.prog 92 [(.slc (List.map encValue l1))] (.bool r2) := by
 refine zP Tryz.call92 Tryz.func92 rfl Tryz.ntmps92 fun X w => ?_
 simp only [table_validValues] at h
 refine zs (zr ?_)
 refine zU (zl (zn (zs (zr ?_))))
 refine zU ?_
 obtain ⟨r3, h4, h⟩ := zB h
 refine zc (slices_ContainsFunc_Value_con l1 (fun (y5 : Value) => table_validValues_1 y5) 116 [] (fun y5 r h => table_validValues_1_con y5 r h) _ h4) ?_
 refine zU (zl (zn (zq ?_)))
 cases h
 exact zT Tryz.results92
end Go.Proofs.YthgnkhchpjcboaaGreat
set_option linter.unusedVariables false
set_option linter.unusedSimpArgs false
namespace Go.Proofs.YthgnkhchpjcboaaGreat
open Go Go.Ab
set_option maxHeartbeats 4000000 in
theorem table_Valid_con {D : Prop} (t1 : Table) (r2 : Int) (h : table_Valid t1 = some r2) : Con D Tryz.prog 59 [(encTable t1)] (.int .i64 r2) := by
 refine zP Tryz.call59 Tryz.func59 rfl Tryz.ntmps59 fun X w => ?_
 simp only [table_Valid] at h
 refine zs (zr ?_)
 refine zU (zl (zn (zs (zs (zr ?_)))))
 refine zU ?_
 obtain ⟨r3, h4, h⟩ := zB h
 refine zc (table_isName_con t1.Name _ h4) ?_
 refine zU (zl (zn ?_))
 rcases zI h with ⟨h5, h⟩ | ⟨h5, h⟩
 refine zj (zk (zn (zs (zs (zr ?_)))))
 refine zU ?_
 rcases zI h with ⟨h6, h⟩ | ⟨h6, h⟩
 refine zw 16 true ?_
 refine zh ?_
 refine zU (zl (zn ?_))
 refine zi (zs (zr ?_))
 refine zU (zl (zn (zq (zt ?_))))
 cases h
 exact zT Tryz.results59
 refine zw 16 false ?_
 refine zg ?_
 refine zg ?_
 refine zg ?_
 refine zg ?_
 refine zU (zl (zn ?_))
 rcases zI h with ⟨h7, h⟩ | ⟨h7, h⟩
 refine zi (zs (zr ?_))
 refine zU (zl (zn (zq (zt ?_))))
 cases h
 exact zT Tryz.results59
 refine zj (zk (zn (zs (zs (zr ?_)))))
 refine zU (zl (zn (zb ?_)))
 obtain ⟨o8, h9, h⟩ := zB h
 refine zO (fun (s : Int) => ⟨[(1, .loc 1 1 0 0), (23, .p (.slc (List.map PV.str t1.Attrs))), (24, .p (.int .i64 (t1.Attrs.length : Int))), (25, .p (.int .i64 s))], [(1, .arr 25 3 1 [.p (encTable t1)])]⟩) (fun (o : (Unit) ⊕ (Int)) => match o with | .inl o10 => tE (cX Tryz.f59 X w D) (.exit 0) ⟨[(1, .loc 1 1 0 0)], [(1, .arr 25 3 1 [.p (encTable t1)])]⟩ | .inr o11 => tR Tryz.prog Tryz.f59 (.int .i64 o11)) h9 ?_ ?_
 clear h h4 h5 h6 h7 h9
 intro t12 x h
 simp only [table_Valid_l1] at h
 refine zs (zr ?_)
 refine zU (zl (zn (zs ?_)))
 rcases zI h with ⟨h13, h⟩ | ⟨h13, h⟩
 refine zi (zk (zn (zs (zb (zs (zr ?_))))))
 obtain ⟨x14, h15, h15a, h15b, h⟩ := zX h
 refine zU (zl (zn (zs (zr ?_))))
 refine zU ?_
 obtain ⟨r16, h17, h⟩ := zB h
 refine zc (table_isName_con x14 _ h17) ?_
 refine zU ?_
 rcases zI h with ⟨h18, h⟩ | ⟨h18, h⟩
 refine zw 33 false ?_
 refine zg ?_
 refine zg ?_
 refine zg ?_
 obtain ⟨h19, h⟩ := ite_some h
 obtain ⟨h20, h⟩ := ite_some h
 refine zg ?_
 refine zg ?_
 obtain ⟨r21, h22, h⟩ := zB h
 refine zc (slices_Contains_string_con (t1.Attrs.take (t12.toNat)) x14 _ h22) ?_
 refine zU (zl (zn ?_))
 rcases zI h with ⟨h23, h⟩ | ⟨h23, h⟩
 refine zi (zs (zr ?_))
 refine zU (zl (zn (zq (yr (zt ?_)))))
 cases h
 exact ⟨rfl, zT Tryz.results59⟩
 refine zj (zk (yn (zn (zr ?_))))
 refine zU (zl ?_)
 cases h
 exact ⟨rfl, zE⟩
 refine zw 33 true ?_
 refine zh ?_
 refine zU (zl (zn ?_))
 refine zi (zs (zr ?_))
 refine zU (zl (zn (zq (yr (zt ?_)))))
 cases h
 exact ⟨rfl, zT Tryz.results59⟩
 refine zj (zx (ze ?_))
 cases h
 exact ⟨rfl, zE⟩
 rcases o8 with ⟨⟩ | r24
 try simp only at h
 refine zA (yh (zn (zs (zr ?_))))
 refine zU (zl (zn (zs (zs (zr ?_)))))
 refine zU (zl (zn (zb ?_)))
 obtain ⟨o25, h26, h⟩ := zB h
 refine zO (fun (s : Int × Int) => ⟨[(1, .loc 1 1 0 0), (5, .p (.int .i64 s.1)), (43, .p (.slc (List.map encRow t1.Rows))), (44, .p (.int .i64 (t1.Rows.length : Int))), (45, .p (.int .i64 s.2))], [(1, .arr 25 3 1 [.p (encTable t1)])]⟩) (fun (o : (Unit) ⊕ (Int)) => match o with | .inl o27 => tE (cX Tryz.f59 X w D) (.exit 2) ⟨[], []⟩ | .inr o28 => tR Tryz.prog Tryz.f59 (.int .i64 o28)) h26 ?_ ?_
 clear h h4 h5 h6 h7 h9 h26
 intro s x h
 obtain ⟨l29, t30⟩ := s
 simp only [table_Valid_l2] at h
 dsimp only
 refine zs (zr ?_)
 refine zU (zl (zn (zs ?_)))
 rcases zI h with ⟨h31, h⟩ | ⟨h31, h⟩
 refine zi (zk (zn (zs (zb (zs (zr ?_))))))
 obtain ⟨x32, h33, h33a, h33b, h⟩ := zX h
 refine zU (zl (zn (zs (zb (zs (zr ?_))))))
 refine zU (zl (zn ?_))
 rcases zI h with ⟨h34, h⟩ | ⟨h34, h⟩
 refine zi (zs (zr ?_))
 refine zU (zl (zn (zq (yr (zt (yr (zt ?_)))))))
 cases h
 exact ⟨rfl, zT Tryz.results59⟩
 refine zj (zs (zr ?_))
 refine zU (zl (zn ?_))
 rcases zI h with ⟨h35, h⟩ | ⟨h35, h⟩
 refine zi (zs (zr ?_))
 refine zU (zl (zn (zq (yr (zt (yr (zt ?_)))))))
 cases h
 exact ⟨rfl, zT Tryz.results59⟩
 refine zj (zs (zr ?_))
 refine zU ?_
 obtain ⟨r36, h37, h⟩ := zB h
 refine zc (table_validValues_con x32.Values _ h37) ?_
 refine zU (zl (zn ?_))
 rcases zI h with ⟨h38, h⟩ | ⟨h38, h⟩
 refine zj (zk (yn (zn (zr ?_))))
 refine zU (zl (yn (zn (zr ?_))))
 refine zU (zl ?_)
 cases h
 exact ⟨rfl, zE⟩
 refine zi (zs (zr ?_))
 refine zU (zl (zn (zq (yr (zt (yr (zt ?_)))))))
 cases h
 exact ⟨rfl, zT Tryz.results59⟩
 refine zj (zx (ze ?_))
 cases h
 exact ⟨rfl, zE⟩
 rcases o25 with ⟨⟩ | r39
 try simp only at h
 refine zA (yh (zn (zs (zr ?_))))
 refine zU (zl (zn (zq ?_)))
 cases h
 exact zT Tryz.results59
 try simp only at h
 refine zZ fun s hq => ?_
 refine yr (zt ?_)
 cases h
 exact hq
 try simp only at h
 refine zZ fun s hq => ?_
 refine yr (zt ?_)
 cases h
 exact hq
 refine zi (zs (zr ?_))
 refine zU (zl (zn (zq (zt ?_))))
 cases h
 exact zT Tryz.results59
end Go.Proofs.YthgnkhchpjcboaaGreat
set_option linter.unusedVariables false
set_option linter.unusedSimpArgs false
namespace Go.Proofs.YthgnkhchpjcboaaGreat
open Go Go.Ab
set_option maxHeartbeats 4000000 in
theorem odmine_check_con {D : Prop} (t1 : Table) (r2 : Int) (h : odmine_check t1 = some r2) : Con D Tryz.prog 32 [(encTable t1)] (.int .i64 r2) := by
 refine zP Tryz.call32 Tryz.func32 rfl Tryz.ntmps32 fun X w => ?_
 simp only [odmine_check] at h
 refine zs (zr ?_)
 refine zU (zl (zn (zs (zs (zr ?_)))))
 refine zU ?_
 obtain ⟨r3, h4, h⟩ := zB h
 refine zc (table_Valid_con t1 _ h4) ?_
 refine zU (zl (zn (zs (zr ?_))))
 refine zU (zl (zn ?_))
 rcases zI h with ⟨h5, h⟩ | ⟨h5, h⟩
 refine zi (zs (zr ?_))
 refine zU (zl (zn (zq (zt ?_))))
 cases h
 exact zT Tryz.results32
 refine zj (zk (zn (zs (zs (zr ?_)))))
 refine zU ?_
 rcases zI h with ⟨h6, h⟩ | ⟨h6, h⟩
 refine zw 13 true ?_
 refine zh ?_
 refine zU (zl (zn ?_))
 refine zi (zs (zr ?_))
 refine zU (zl (zn (zq (zt ?_))))
 cases h
 exact zT Tryz.results32
 refine zw 13 false ?_
 refine zg ?_
 refine zg ?_
 refine zg ?_
 refine zg ?_
 refine zU (zl (zn ?_))
 rcases zI h with ⟨h7, h⟩ | ⟨h7, h⟩
 refine zi (zs (zr ?_))
 refine zU (zl (zn (zq (zt ?_))))
 cases h
 exact zT Tryz.results32
 refine zj (zk (zn (zs (zr ?_))))
 refine zU (zl (zn (zq ?_)))
 cases h
 exact zT Tryz.results32
end Go.Proofs.YthgnkhchpjcboaaGreat
set_option linter.unusedVariables false
set_option linter.unusedSimpArgs false
namespace Go.Proofs.YthgnkhchpjcboaaGreat
open Go Go.Ab
set_option maxRecDepth 20000 in
set_option maxHeartbeats 4000000 in
theorem bits_OnesCount32_con {D : Prop} (x : Int) (r : Int) (h : bits_OnesCount32 x = some r) : Con D Tryz.prog 93 [(.int .u32 x)] (.int .i64 r) := by
 obtain ⟨hx, h⟩ := ite_some h
 obtain ⟨n, rfl⟩ := Int.eq_ofNat_of_zero_le hx.1
 have hn : n < 4294967296 := by omega
 replace h := Option.some.inj h
 subst h
 rw [Int.toNat_natCast]
 unfold ones32
 have e1 : Int.fdiv (n : Int) (2 ^ (min 24 32)) = ((n / 16777216 : Nat) : Int) := fdiv24 n 24 (by omega)
 have e2 : Int.fdiv (n : Int) (2 ^ (min 16 32)) = ((n / 65536 : Nat) : Int) := fdiv24 n 16 (by omega)
 have e3 : Int.fdiv (n : Int) (2 ^ (min 8 32)) = ((n / 256 : Nat) : Int) := fdiv24 n 8 (by omega)
 have a2 := and255 (n := n / 65536) (by omega)
 have a3 := and255 (n := n / 256) (by omega)
 have a4 := and255 hn
 refine zP Tryz.call93 Tryz.func93 rfl Tryz.ntmps93 fun X w => ?_
 refine zs (zr ?_)
 refine zU (zl (zn (zs ?_)))
 refine zd ?_
 have q1 := pop8_le (n / 16777216)
 have q2 := pop8_le (n / 65536 % 256)
 have q3 := pop8_le (n / 256 % 256)
 have q4 := pop8_le (n % 256)
 generalize g1 : pop8 (n / 16777216) = p1 at *
 generalize g2 : pop8 (n / 65536 % 256) = p2 at *
 generalize g3 : pop8 (n / 256 % 256) = p3 at *
 generalize g4 : pop8 (n % 256) = p4 at *
 have w1 : IntKind.u8.wrap ((p1 : Int) + (p2 : Int)) = ((p1 + p2 : Nat) : Int) := by rw [← Int.natCast_add]; exact wrap_u8s (by omega)
 have w2 : IntKind.u8.wrap (((p1 + p2 : Nat) : Int) + (p3 : Int)) = ((p1 + p2 + p3 : Nat) : Int) := by rw [← Int.natCast_add]; exact wrap_u8s (by omega)
 have w3 : IntKind.u8.wrap (((p1 + p2 + p3 : Nat) : Int) + (p4 : Int)) = ((p1 + p2 + p3 + p4 : Nat) : Int) := by rw [← Int.natCast_add]; exact wrap_u8s (by omega)
 have w4 : IntKind.i64.wrap ((p1 + p2 + p3 + p4 : Nat) : Int) = ((p1 + p2 + p3 + p4 : Nat) : Int) := wrap_i64 (by omega) (by omega)
 refine yV 2 ?_
 refine DGo.gt (guard_none rfl) rfl (index_ones (s := _) (m := n / 16777216) rfl (by simp only [go_sem, seval, e1]; exact rfl) (by kernel_rfl) (by omega) (by decide)) rfl ?_
 rw [g1]
 refine yV 3 ?_
 refine DGo.gt (guard_none rfl) rfl (index_ones (s := _) (m := n / 65536 % 256) rfl (by simp only [go_sem, seval, e2]; exact ⟨rfl, a2⟩) (by kernel_rfl) (by omega) (by decide)) rfl ?_
 rw [g2]
 refine yV 4 ?_
 refine DGo.gt (guard_none rfl) rfl (index_ones (s := _) (m := n / 256 % 256) rfl (by simp only [go_sem, seval, e3]; exact ⟨rfl, a3⟩) (by kernel_rfl) (by omega) (by decide)) rfl ?_
 rw [g3]
 refine yV 3 ?_
 refine DGo.gt (guard_none rfl) rfl (index_ones (s := _) (m := n % 256) rfl (by simp only [go_sem, seval]; exact ⟨rfl, a4⟩) (by kernel_rfl) (by omega) (by decide)) rfl ?_
 rw [g4]
 refine yV 3 ?_
 refine yd (zn (zq ?_))
 exact zT Tryz.results93
end Go.Proofs.YthgnkhchpjcboaaGreat
set_option linter.unusedVariables false
set_option linter.unusedSimpArgs false
namespace Go.Proofs.YthgnkhchpjcboaaGreat
open Go Go.Ab
set_option maxHeartbeats 4000000 in
theorem attrset_Size_con {D : Prop} (s1 : Int) (r2 : Int) (h : attrset_Size s1 = some r2) : Con D Tryz.prog 60 [(.int .u32 s1)] (.int .i64 r2) := by
 refine zP Tryz.call60 Tryz.func60 rfl Tryz.ntmps60 fun X w => ?_
 simp only [attrset_Size] at h
 refine zs (zr ?_)
 refine zU (zl (zn (zs (zr ?_))))
 refine zU ?_
 obtain ⟨r3, h4, h⟩ := zB h
 refine zc (bits_OnesCount32_con s1 _ h4) ?_
 refine zU (zl (zn (zq ?_)))
 cases h
 exact zT Tryz.results60
end Go.Proofs.YthgnkhchpjcboaaGreat
namespace Go.Proofs
open Go Go.Ab Go.Shelf
def YthgnkhchpjcboaaGreat.sort95_ren : Go.Shelf.Ren := ⟨fun | 6 => 95 | 15 => 119 | 14 => 118 | 28 => 139 | 29 => 140 | 20 => 131 | 21 => 132 | 22 => 133 | 23 => 134 | 24 => 135 | 25 => 136 | 26 => 137 | 27 => 138 | 46 => 154 | 47 => 155 | 48 => 156 | 49 => 157 | 50 => 158 | 57 => 164 | n => n, fun | 22 => 65 | 24 => 36 | 25 => 123 | 3 => 3 | 39 => 137 | 0 => 0 | 53 => 35 | 55 => 92 | 4 => 4 | 46 => 148 | 45 => 147 | 50 => 152 | 5 => 5 | 9 => 9 | 66 => 162 | 70 => 166 | 76 => 171 | 77 => 172 | n => n, fun | n => n⟩
theorem YthgnkhchpjcboaaGreat.sort95 : Go.Proofs.SlLaysF.n6 Tryz.prog YthgnkhchpjcboaaGreat.sort95_ren := {
  mixed := by kernel_rfl
  f6 := ⟨Tryz.f95.name, by decide, Tryz.func95.trans (congrArg some (by kernel_rfl))⟩
  f14 := ⟨Tryz.f118.name, by decide, Tryz.func118.trans (congrArg some (by kernel_rfl))⟩
  f15 := Tryz.func119.trans (congrArg some (by kernel_rfl))
  f20 := ⟨Tryz.f131.name, by decide, Tryz.func131.trans (congrArg some (by kernel_rfl))⟩
  f21 := ⟨Tryz.f132.name, by decide, Tryz.func132.trans (congrArg some (by kernel_rfl))⟩
  f22 := ⟨Tryz.f133.name, by decide, Tryz.func133.trans (congrArg some (by kernel_rfl))⟩
  f23 := ⟨Tryz.f134.name, by decide, Tryz.func134.trans (congrArg some (by kernel_rfl))⟩
  f24 := ⟨Tryz.f135.name, by decide, Tryz.func135.trans (congrArg some (by kernel_rfl))⟩
  f25 := ⟨Tryz.f136.name, by decide, Tryz.func136.trans (congrArg some (by kernel_rfl))⟩
  f26 := ⟨Tryz.f137.name, by decide, Tryz.func137.trans (congrArg some (by kernel_rfl))⟩
  f27 := ⟨Tryz.f138.name, by decide, Tryz.func138.trans (congrArg some (by kernel_rfl))⟩
  f28 := Tryz.func139.trans (congrArg some (by kernel_rfl))
  f29 := Tryz.func140.trans (congrArg some (by kernel_rfl))
  f46 := ⟨Tryz.f154.name, by decide, Tryz.func154.trans (congrArg some (by kernel_rfl))⟩
  f47 := Tryz.func155.trans (congrArg some (by kernel_rfl))
  f48 := Tryz.func156.trans (congrArg some (by kernel_rfl))
  f49 := ⟨Tryz.f157.name, by decide, Tryz.func157.trans (congrArg some (by kernel_rfl))⟩
  f50 := ⟨Tryz.f158.name, by decide, Tryz.func158.trans (congrArg some (by kernel_rfl))⟩
  f57 := ⟨Tryz.f164.name, by decide, Tryz.func164.trans (congrArg some (by kernel_rfl))⟩
  t0 := Tryz.underlying0
  a0 := Tryz.isAgg0
  z0 := Tryz.sizeOf0
  v0 := Tryz.zeroValue0
  t3 := Tryz.underlying3
  a3 := Tryz.isAgg3
  z3 := Tryz.sizeOf3
  v3 := Tryz.zeroValue3
  t4 := Tryz.underlying4
  a4 := Tryz.isAgg4
  z4 := Tryz.sizeOf4
  v4 := Tryz.zeroValue4
  t5 := Tryz.underlying5
  a5 := Tryz.isAgg5
  z5 := Tryz.sizeOf5
  v5 := Tryz.zeroValue5
  t9 := Tryz.underlying9
  a9 := Tryz.isAgg9
  z9 := Tryz.sizeOf9
  v9 := Tryz.zeroValue9
  t22 := Tryz.underlying65
  a22 := Tryz.isAgg65
  z22 := Tryz.sizeOf65
  v22 := Tryz.zeroValue65
  a24 := Tryz.isAgg36
  z24 := Tryz.sizeOf36
  t25 := Tryz.underlying123
  a25 := Tryz.isAgg123
  z25 := Tryz.sizeOf123
  v25 := Tryz.zeroValue123
  t39 := Tryz.underlying137
  a39 := Tryz.isAgg137
  z39 := Tryz.sizeOf137
  v39 := Tryz.zeroValue137
  t45 := Tryz.underlying147
  a45 := Tryz.isAgg147
  z45 := Tryz.sizeOf147
  v45 := Tryz.zeroValue147
  t46 := Tryz.underlying148
  a46 := Tryz.isAgg148
  z46 := Tryz.sizeOf148
  v46 := Tryz.zeroValue148
  t50 := Tryz.underlying152
  a50 := Tryz.isAgg152
  z50 := Tryz.sizeOf152
  v50 := Tryz.zeroValue152
  t53 := Tryz.underlying35
  a53 := Tryz.isAgg35
  z53 := Tryz.sizeOf35
  v53 := Tryz.zeroValue35
  t55 := Tryz.underlying92
  a55 := Tryz.isAgg92
  z55 := Tryz.sizeOf92
  v55 := Tryz.zeroValue92
  t66 := Tryz.underlying162
  a66 := Tryz.isAgg162
  z66 := Tryz.sizeOf162
  v66 := Tryz.zeroValue162
  t70 := Tryz.underlying166
  a70 := Tryz.isAgg166
  z70 := Tryz.sizeOf166
  v70 := Tryz.zeroValue166
  t76 := Tryz.underlying171
  a76 := Tryz.isAgg171
  z76 := Tryz.sizeOf171
  v76 := Tryz.zeroValue171
  t77 := Tryz.underlying172
  a77 := Tryz.isAgg172
  z77 := Tryz.sizeOf172
  v77 := Tryz.zeroValue172 }
def YthgnkhchpjcboaaGreat.sort110_ren : Go.Shelf.Ren := ⟨fun | 5 => 110 | 8 => 119 | 7 => 129 | 19 => 139 | 20 => 140 | 10 => 145 | 11 => 146 | 12 => 147 | 13 => 148 | 14 => 149 | 15 => 150 | 16 => 151 | 17 => 152 | 18 => 153 | 30 => 161 | 31 => 155 | 32 => 156 | 33 => 162 | 34 => 163 | 35 => 141 | 40 => 166 | n => n, fun | 23 => 53 | 25 => 3 | 3 => 3 | 32 => 137 | 22 => 53 | 0 => 0 | 44 => 35 | 46 => 92 | 4 => 4 | 36 => 148 | 35 => 147 | 41 => 152 | 5 => 5 | 9 => 9 | 53 => 162 | 57 => 166 | 63 => 171 | 64 => 172 | n => n, fun | n => n⟩
theorem YthgnkhchpjcboaaGreat.sort110 : Go.Proofs.SlLaysM.n5 Tryz.prog YthgnkhchpjcboaaGreat.sort110_ren := {
  mixed := by kernel_rfl
  f5 := ⟨Tryz.f110.name, by decide, Tryz.func110.trans (congrArg some (by kernel_rfl))⟩
  f7 := ⟨Tryz.f129.name, by decide, Tryz.func129.trans (congrArg some (by kernel_rfl))⟩
  f8 := Tryz.func119.trans (congrArg some (by kernel_rfl))
  f10 := ⟨Tryz.f145.name, by decide, Tryz.func145.trans (congrArg some (by kernel_rfl))⟩
  f11 := ⟨Tryz.f146.name, by decide, Tryz.func146.trans (congrArg some (by kernel_rfl))⟩
  f12 := ⟨Tryz.f147.name, by decide, Tryz.func147.trans (congrArg some (by kernel_rfl))⟩
  f13 := ⟨Tryz.f148.name, by decide, Tryz.func148.trans (congrArg some (by kernel_rfl))⟩
  f14 := ⟨Tryz.f149.name, by decide, Tryz.func149.trans (congrArg some (by kernel_rfl))⟩
  f15 := ⟨Tryz.f150.name, by decide, Tryz.func150.trans (congrArg some (by kernel_rfl))⟩
  f16 := ⟨Tryz.f151.name, by decide, Tryz.func151.trans (congrArg some (by kernel_rfl))⟩
  f17 := ⟨Tryz.f152.name, by decide, Tryz.func152.trans (congrArg some (by kernel_rfl))⟩
  f18 := ⟨Tryz.f153.name, by decide, Tryz.func153.trans (congrArg some (by kernel_rfl))⟩
  f19 := Tryz.func139.trans (congrArg some (by kernel_rfl))
  f20 := Tryz.func140.trans (congrArg some (by kernel_rfl))
  f30 := ⟨Tryz.f161.name, by decide, Tryz.func161.trans (congrArg some (by kernel_rfl))⟩
  f31 := Tryz.func155.trans (congrArg some (by kernel_rfl))
  f32 := Tryz.func156.trans (congrArg some (by kernel_rfl))
  f33 := ⟨Tryz.f162.name, by decide, Tryz.func162.trans (congrArg some (by kernel_rfl))⟩
  f34 := ⟨Tryz.f163.name, by decide, Tryz.func163.trans (congrArg some (by kernel_rfl))⟩
  f35 := ⟨Tryz.f141.name, by decide, Tryz.func141.trans (congrArg some (by kernel_rfl))⟩
  f40 := ⟨Tryz.f166.name, by decide, Tryz.func166.trans (congrArg some (by kernel_rfl))⟩
  t0 := Tryz.underlying0
  a0 := Tryz.isAgg0
  z0 := Tryz.sizeOf0
  v0 := Tryz.zeroValue0
  t3 := Tryz.underlying3
  a3 := Tryz.isAgg3
  z3 := Tryz.sizeOf3
  v3 := Tryz.zeroValue3
  t4 := Tryz.underlying4
  a4 := Tryz.isAgg4
  z4 := Tryz.sizeOf4
  v4 := Tryz.zeroValue4
  t5 := Tryz.underlying5
  a5 := Tryz.isAgg5
  z5 := Tryz.sizeOf5
  v5 := Tryz.zeroValue5
  t9 := Tryz.underlying9
  a9 := Tryz.isAgg9
  z9 := Tryz.sizeOf9
  v9 := Tryz.zeroValue9
  t22 := Tryz.underlying53
  a22 := Tryz.isAgg53
  z22 := Tryz.sizeOf53
  v22 := Tryz.zeroValue53
  t23 := Tryz.underlying53
  a23 := Tryz.isAgg53
  z23 := Tryz.sizeOf53
  v23 := Tryz.zeroValue53
  t25 := Tryz.underlying3
  a25 := Tryz.isAgg3
  z25 := Tryz.sizeOf3
  v25 := Tryz.zeroValue3
  t32 := Tryz.underlying137
  a32 := Tryz.isAgg137
  z32 := Tryz.sizeOf137
  v32 := Tryz.zeroValue137
  t35 := Tryz.underlying147
  a35 := Tryz.isAgg147
  z35 := Tryz.sizeOf147
  v35 := Tryz.zeroValue147
  t36 := Tryz.underlying148
  a36 := Tryz.isAgg148
  z36 := Tryz.sizeOf148
  v36 := Tryz.zeroValue148
  t41 := Tryz.underlying152
  a41 := Tryz.isAgg152
  z41 := Tryz.sizeOf152
  v41 := Tryz.zeroValue152
  t44 := Tryz.underlying35
  a44 := Tryz.isAgg35
  z44 := Tryz.sizeOf35
  v44 := Tryz.zeroValue35
  t46 := Tryz.underlying92
  a46 := Tryz.isAgg92
  z46 := Tryz.sizeOf92
  v46 := Tryz.zeroValue92
  t53 := Tryz.underlying162
  a53 := Tryz.isAgg162
  z53 := Tryz.sizeOf162
  v53 := Tryz.zeroValue162
  t57 := Tryz.underlying166
  a57 := Tryz.isAgg166
  z57 := Tryz.sizeOf166
  v57 := Tryz.zeroValue166
  t63 := Tryz.underlying171
  a63 := Tryz.isAgg171
  z63 := Tryz.sizeOf171
  v63 := Tryz.zeroValue171
  t64 := Tryz.underlying172
  a64 := Tryz.isAgg172
  z64 := Tryz.sizeOf172
  v64 := Tryz.zeroValue172 }
theorem YthgnkhchpjcboaaGreat.srt95 : Srt1 Tryz.prog 95 := ⟨Tryz.call95, fun enc h1 cf hO g cb blk off cap d w eg hc hH hb hs => Any.slices_SortFunc_eq YthgnkhchpjcboaaGreat.sort95 enc h1 cf hO g cb blk off cap d w eg hc hH hb hs, fun p cap fv w => AnyF.slices_SortFunc_none { YthgnkhchpjcboaaGreat.sort95 with } p cap fv w⟩
theorem YthgnkhchpjcboaaGreat.srt110 : SrtI Tryz.prog 110 := ⟨Tryz.call110, fun blk off cap zs w hH hb hs => AnyM.slices_Sort_int YthgnkhchpjcboaaGreat.sort110 blk off cap zs w hH hb hs, fun p cap w => AnyM.slices_Sort_int_none YthgnkhchpjcboaaGreat.sort110 p cap w⟩
end Go.Proofs
set_option linter.unusedVariables false
set_option linter.unusedSimpArgs false
namespace Go.Proofs.YthgnkhchpjcboaaGreat
open Go Go.Ab
set_option maxHeartbeats 4000000 in
theorem cmp_Or_int_con {D : Prop} (v1 : List Int) (r2 : Int) (h : cmp_Or_int v1 = some r2) : Con D Tryz.prog 120 [(.slc (List.map (PV.int .i64) v1))] (.int .i64 r2) := by
 refine zP Tryz.call120 Tryz.func120 rfl Tryz.ntmps120 fun X w => ?_
 simp only [cmp_Or_int] at h
 refine zs (zr ?_)
 refine zU (zl (zn (zs (zr ?_))))
 refine zU (zl (zn (zs (zs (zr ?_)))))
 refine zU (zl (zn (zb ?_)))
 obtain ⟨o3, h4, h⟩ := zB h
 refine zO (fun (s : Int) => ⟨[(3, .p (.int .i64 0)), (6, .p (.slc (List.map (PV.int .i64) v1))), (7, .p (.int .i64 (v1.length : Int))), (8, .p (.int .i64 s))], []⟩) (fun (o : (Unit) ⊕ (Int)) => match o with | .inl o5 => tE (cX Tryz.f120 X w D) (.exit 0) ⟨[(3, .p (.int .i64 0))], []⟩ | .inr o6 => tR Tryz.prog Tryz.f120 (.int .i64 o6)) h4 ?_ ?_
 clear h h4
 intro t7 x h
 simp only [cmp_Or_int_l1] at h
 refine zs (zr ?_)
 refine zU (zl (zn (zs ?_)))
 rcases zI h with ⟨h8, h⟩ | ⟨h8, h⟩
 refine zi (zk (zn (zs (zb (zs (zr ?_))))))
 obtain ⟨x9, h10, h10a, h10b, h⟩ := zX h
 refine zU (zl (zn (zs (zr ?_))))
 refine zU (zl (zn ?_))
 rcases zI h with ⟨h11, h⟩ | ⟨h11, h⟩
 refine zi (zs (zr ?_))
 refine zU (zl (zn (zq (yr (zt ?_)))))
 cases h
 exact ⟨rfl, zT Tryz.results120⟩
 refine zj (zk (yn (zn (zr ?_))))
 refine zU (zl ?_)
 cases h
 exact ⟨rfl, zE⟩
 refine zj (zx (ze ?_))
 cases h
 exact ⟨rfl, zE⟩
 rcases o3 with ⟨⟩ | r12
 try simp only at h
 refine zA (yh (zn (zs (zr ?_))))
 refine zU (zl (zn (zq ?_)))
 cases h
 exact zT Tryz.results120
 try simp only at h
 refine zZ fun s hq => ?_
 refine yr (zt ?_)
 cases h
 exact hq
end Go.Proofs.YthgnkhchpjcboaaGreat
set_option linter.unusedVariables false
set_option linter.unusedSimpArgs false
namespace Go.Proofs.YthgnkhchpjcboaaGreat
open Go Go.Ab
set_option maxHeartbeats 4000000 in
theorem cmp_isNaN_int_con {D : Prop} (x1 : Int) (r2 : Bool) (h : cmp_isNaN_int x1 = some r2) : Con D Tryz.prog 141 [(.int .i64 x1)] (.bool r2) := by
 refine zP Tryz.call141 Tryz.func141 rfl Tryz.ntmps141 fun X w => ?_
 simp only [cmp_isNaN_int] at h
 refine zs (zr ?_)
 refine zU (zl (zn (zs (zr ?_))))
 refine zU (zl (zn (zq ?_)))
 cases h
 exact zT Tryz.results141
end Go.Proofs.YthgnkhchpjcboaaGreat
set_option linter.unusedVariables false
set_option linter.unusedSimpArgs false
namespace Go.Proofs.YthgnkhchpjcboaaGreat
open Go Go.Ab
set_option maxHeartbeats 4000000 in
theorem cmp_Compare_int_con {D : Prop} (x1 : Int) (y2 : Int) (r3 : Int) (h : cmp_Compare_int x1 y2 = some r3) : Con D Tryz.prog 121 [(.int .i64 x1), (.int .i64 y2)] (.int .i64 r3) := by
 refine zP Tryz.call121 Tryz.func121 rfl Tryz.ntmps121 fun X w => ?_
 simp only [cmp_Compare_int] at h
 refine zs (zr ?_)
 refine zU (zl (zn (zs (zr ?_))))
 refine zU ?_
 obtain ⟨r4, h5, h⟩ := zB h
 refine zc (cmp_isNaN_int_con x1 _ h5) ?_
 refine zU (zl (zn (zs (zr ?_))))
 refine zU ?_
 obtain ⟨r6, h7, h⟩ := zB h
 refine zc (cmp_isNaN_int_con y2 _ h7) ?_
 refine zU (zl (zn (zs (zs (zr ?_)))))
 refine zU (zl (zn ?_))
 rcases zI h with ⟨h8, h⟩ | ⟨h8, h⟩
 refine zi (zs (zs (zr ?_)))
 refine zU (zl (zn ?_))
 rcases zI h with ⟨h9, h⟩ | ⟨h9, h⟩
 refine zi (zs (zr ?_))
 refine zU (zl (zn (zq (zt (zt ?_)))))
 cases h
 exact zT Tryz.results121
 refine zj (zk (zn (zs (zr ?_))))
 refine zU (zl (zn (zq (zt ?_))))
 cases h
 exact zT Tryz.results121
 refine zj (zk (zn (zs (zs (zr ?_)))))
 refine zU (zl (zn ?_))
 rcases zI h with ⟨h10, h⟩ | ⟨h10, h⟩
 refine zi (zs (zr ?_))
 refine zU (zl (zn (zq (zt ?_))))
 cases h
 exact zT Tryz.results121
 refine zj (zk (zn (zs (zs (zr ?_)))))
 refine zU (zl (zn ?_))
 rcases zI h with ⟨h11, h⟩ | ⟨h11, h⟩
 refine zi (zs (zr ?_))
 refine zU (zl (zn (zq (zt ?_))))
 cases h
 exact zT Tryz.results121
 refine zj (zk (zn (zs (zs (zr ?_)))))
 refine zU (zl (zn ?_))
 rcases zI h with ⟨h12, h⟩ | ⟨h12, h⟩
 refine zi (zs (zr ?_))
 refine zU (zl (zn (zq (zt ?_))))
 cases h
 exact zT Tryz.results121
 refine zj (zk (zn (zs (zr ?_))))
 refine zU (zl (zn (zq ?_)))
 cases h
 exact zT Tryz.results121
end Go.Proofs.YthgnkhchpjcboaaGreat
set_option linter.unusedVariables false
set_option linter.unusedSimpArgs false
namespace Go.Proofs.YthgnkhchpjcboaaGreat
open Go Go.Ab
set_option maxHeartbeats 4000000 in
theorem cmp_isNaN_Set_con {D : Prop} (x1 : Int) (r2 : Bool) (h : cmp_isNaN_Set x1 = some r2) : Con D Tryz.prog 142 [(.int .u32 x1)] (.bool r2) := by
 refine zP Tryz.call142 Tryz.func142 rfl Tryz.ntmps142 fun X w => ?_
 simp only [cmp_isNaN_Set] at h
 refine zs (zr ?_)
 refine zU (zl (zn (zs (zr ?_))))
 refine zU (zl (zn (zq ?_)))
 cases h
 exact zT Tryz.results142
end Go.Proofs.YthgnkhchpjcboaaGreat
set_option linter.unusedVariables false
set_option linter.unusedSimpArgs false
namespace Go.Proofs.YthgnkhchpjcboaaGreat
open Go Go.Ab
set_option maxHeartbeats 4000000 in
theorem cmp_Compare_Set_con {D : Prop} (x1 : Int) (y2 : Int) (r3 : Int) (h : cmp_Compare_Set x1 y2 = some r3) : Con D Tryz.prog 122 [(.int .u32 x1), (.int .u32 y2)] (.int .i64 r3) := by
 refine zP Tryz.call122 Tryz.func122 rfl Tryz.ntmps122 fun X w => ?_
 simp only [cmp_Compare_Set] at h
 refine zs (zr ?_)
 refine zU (zl (zn (zs (zr ?_))))
 refine zU ?_
 obtain ⟨r4, h5, h⟩ := zB h
 refine zc (cmp_isNaN_Set_con x1 _ h5) ?_
 refine zU (zl (zn (zs (zr ?_))))
 refine zU ?_
 obtain ⟨r6, h7, h⟩ := zB h
 refine zc (cmp_isNaN_Set_con y2 _ h7) ?_
 refine zU (zl (zn (zs (zs (zr ?_)))))
 refine zU (zl (zn ?_))
 rcases zI h with ⟨h8, h⟩ | ⟨h8, h⟩
 refine zi (zs (zs (zr ?_)))
 refine zU (zl (zn ?_))
 rcases zI h with ⟨h9, h⟩ | ⟨h9, h⟩
 refine zi (zs (zr ?_))
 refine zU (zl (zn (zq (zt (zt ?_)))))
 cases h
 exact zT Tryz.results122
 refine zj (zk (zn (zs (zr ?_))))
 refine zU (zl (zn (zq (zt ?_))))
 cases h
 exact zT Tryz.results122
 refine zj (zk (zn (zs (zs (zr ?_)))))
 refine zU (zl (zn ?_))
 rcases zI h with ⟨h10, h⟩ | ⟨h10, h⟩
 refine zi (zs (zr ?_))
 refine zU (zl (zn (zq (zt ?_))))
 cases h
 exact zT Tryz.results122
 refine zj (zk (zn (zs (zs (zr ?_)))))
 refine zU (zl (zn ?_))
 rcases zI h with ⟨h11, h⟩ | ⟨h11, h⟩
 refine zi (zs (zr ?_))
 refine zU (zl (zn (zq (zt ?_))))
 cases h
 exact zT Tryz.results122
 refine zj (zk (zn (zs (zs (zr ?_)))))
 refine zU (zl (zn ?_))
 rcases zI h with ⟨h12, h⟩ | ⟨h12, h⟩
 refine zi (zs (zr ?_))
 refine zU (zl (zn (zq (zt ?_))))
 cases h
 exact zT Tryz.results122
 refine zj (zk (zn (zs (zr ?_))))
 refine zU (zl (zn (zq ?_)))
 cases h
 exact zT Tryz.results122
end Go.Proofs.YthgnkhchpjcboaaGreat
set_option linter.unusedVariables false
set_option linter.unusedSimpArgs false
namespace Go.Proofs.YthgnkhchpjcboaaGreat
open Go Go.Ab
set_option maxHeartbeats 4000000 in
theorem attrset_compare_con {D : Prop} (a1 : Int) (b2 : Int) (r3 : Int) (h : attrset_compare a1 b2 = some r3) : Con D Tryz.prog 96 [(.int .u32 a1), (.int .u32 b2)] (.int .i64 r3) := by
 refine zP Tryz.call96 Tryz.func96 rfl Tryz.ntmps96 fun X w => ?_
 simp only [attrset_compare] at h
 refine zs (zr ?_)
 refine zU (zl (zn (zs (zr ?_))))
 refine zU ?_
 obtain ⟨r4, h5, h⟩ := zB h
 refine zc (attrset_Size_con a1 _ h5) ?_
 refine zU ?_
 obtain ⟨r6, h7, h⟩ := zB h
 refine zc (attrset_Size_con b2 _ h7) ?_
 obtain ⟨r8, h9, h⟩ := zB h
 refine zc (cmp_Compare_int_con r4 r6 _ h9) ?_
 refine zU ?_
 obtain ⟨r10, h11, h⟩ := zB h
 refine zc (cmp_Compare_Set_con a1 b2 _ h11) ?_
 refine zU ?_
 obtain ⟨r12, h13, h⟩ := zB h
 refine zc (cmp_Or_int_con [r8, r10] _ h13) ?_
 refine zU (zl (zn (zq ?_)))
 cases h
 exact zT Tryz.results96
end Go.Proofs.YthgnkhchpjcboaaGreat
set_option linter.unusedVariables false
set_option linter.unusedSimpArgs false
namespace Go.Proofs.YthgnkhchpjcboaaGreat
open Go Go.Ab
set_option maxHeartbeats 4000000 in
theorem attrset_Order_con {D : Prop} (l1 : List Int) (r2 : List Int) (h : attrset_Order l1 = some r2) : Con D Tryz.prog 61 [(.slc (List.map (PV.int .u32) l1))] (.slc (List.map (PV.int .u32) r2)) := by
 refine zP Tryz.call61 Tryz.func61 rfl Tryz.ntmps61 fun X w => ?_
 simp only [attrset_Order] at h
 refine zs (zr ?_)
 refine zU (zl (zn (zs (zr ?_))))
 refine zU ?_
 obtain ⟨h3, h⟩ := ite_some h
 refine zM ⟨[(4, .p (.slc (List.map (PV.int .u32) l1)))], []⟩ ?_
 refine AL_inline (avs := [.p (.slc (List.map (PV.int .u32) l1))]) 10 rfl (guard_none rfl) rfl Tryz.func94 rfl Tryz.call94 Tryz.ntmps94 (by simp) (by simp only [go_sem, seval, h3]; all_goals rfl) ?_
 intro i4 w5
 refine awp_post (T := fun e s' => (e = .normal ∨ e = .ret) ∧ Le ⟨Tryz.prog, 8, 10, X, [], i4, w5, D⟩ s' ⟨[(2, .own 15 1 0 l1.length)], [(15, .arr 36 1 1 (List.map AV.p (List.map (PV.int .u32) l1)))]⟩) ?_ ?_
 show AWp _ _ _ ⟨[(0, .p (.slc (List.map (PV.int .u32) l1)))], []⟩
 refine zs (zr ?_)
 refine zU (zl (zn (zs (zs (zr ?_)))))
 refine zW 1 ?_
 refine AL_nileq (by simp only [go_sem, seval, h3]; exact rfl) (by simp only [go_sem, seval, h3]) Tryz.underlying65 rfl ?_
 intro b hb
 refine zl (zn ?_)
 cases b
 refine zj (zk (zn (zs (zr ?_))))
 refine zU (zl (zn (zq ?_)))
 refine ⟨.inr rfl, ?_⟩
 exact zV
 refine zi ?_
 have h6 : l1 = [] := by
   rcases hz : l1 with _ | ⟨x, z⟩
   · rfl
   · rw [hz] at hb; exact absurd (hb (by simp)) (by simp)
 refine zs (zr ?_)
 refine zU (zl (zn (zq (zt ?_))))
 refine ⟨.inr rfl, ?_⟩
 exact zV
 intro e s' hT
 obtain ⟨he, hle⟩ := hT
 refine Wk.to hle ?_
 refine inlQ_any he (by simp only [Tryz.results94]; simp only [go_sem, seval, h3]; exact rfl) ?_
 clear hle he
 refine zU (zl (zn (zs (zr ?_))))
 refine zU ?_
 refine zM ⟨[(3, .own 15 1 0 l1.length), (6, .own 15 1 0 l1.length)], [(15, .arr 36 1 1 (List.map AV.p (List.map (PV.int .u32) l1)))]⟩ ?_
 obtain ⟨l7, h8, h⟩ := zB h
 refine zSF srt95 (PV.int .u32) (fun (y9 : Int) (y10 : Int) => attrset_compare y9 y10) h8 (fun y9 y10 r h => attrset_compare_con y9 y10 r h) ?_
 have h11 := srtF_len h8
 refine zM ⟨[(3, .own 15 1 0 l7.length), (7, .p (.tup []))], [(15, .arr 36 1 1 (List.map AV.p (List.map (PV.int .u32) l7)))]⟩ ?_
 clear h11
 refine zl (zn (zs (zr ?_)))
 refine zU ?_
 refine zM ⟨[(8, .own 15 1 0 l7.length)], [(15, .arr 36 1 1 (List.map AV.p (List.map (PV.int .u32) l7)))]⟩ ?_
 refine AL_inline (avs := [.own 15 1 0 l7.length]) 18 rfl (guard_none rfl) rfl Tryz.func97 rfl Tryz.call97 Tryz.ntmps97 (by simp) (by simp only [go_sem, seval, h3]; all_goals rfl) ?_
 intro i12 w13
 show AWp _ _ _ ⟨[(0, .own 15 1 0 l7.length)], [(15, .arr 36 1 1 (List.map AV.p (List.map (PV.int .u32) l7)))]⟩
 refine zs (zr ?_)
 refine zU (zl (zn (zs (zs (zr ?_)))))
 refine zU (zl (zn ?_))
 rcases zI h with ⟨h14, h⟩ | ⟨h14, h⟩
 have h14T := eq_true h14
 refine zi (zs (zr ?_))
 refine zU (zl (zn (zq (zt ?_))))
 refine inlQ_ret (by simp only [Tryz.results97]; simp only [go_sem, seval, h3, h14T]; exact rfl) ?_
 refine zU (zl (zn (zq ?_)))
 cases h
 exact zT Tryz.results61
 have h14T := eq_false h14
 refine zj (zk (zn (zs (zs (zr ?_)))))
 refine zU (zl (zn (zb ?_)))
 obtain ⟨o15, h16, h⟩ := zB h
 refine zO (fun (s : Int) => ⟨[(0, .own 15 1 0 l7.length), (3, .p (.int .i64 s))], [(15, .arr 36 1 1 (List.map AV.p (List.map (PV.int .u32) l7)))]⟩) (fun (o : (Unit) ⊕ (List Int)) => match o with | .inl o17 => tE ⟨Tryz.prog, 61, 18, X, [(15, .arr 36 1 1 (List.map AV.p (List.map (PV.int .u32) l7)))], i12, w13, D⟩ (.exit 0) ⟨[(0, .own 15 1 0 l7.length)], [(15, .arr 36 1 1 (List.map AV.p (List.map (PV.int .u32) l7)))]⟩ | .inr o18 => tE ⟨Tryz.prog, 61, 18, X, [(15, .arr 36 1 1 (List.map AV.p (List.map (PV.int .u32) l7)))], i12, w13, D⟩ .ret ⟨[(2, .p (.slc (List.map (PV.int .u32) o18)))], [(15, .dead 1)]⟩) h16 ?_ ?_
 clear h h3 h8 h14 h14T h16
 intro k19 x h
 simp only [attrset_Order_l4] at h
 refine zs (zs (zr ?_))
 refine zU (zl (zn ?_))
 rcases zI h with ⟨h20, h⟩ | ⟨h20, h⟩
 refine zi (zk (zn (zs (zb (zs (zd ?_))))))
 obtain ⟨x21, h22, h22a, h22b, h⟩ := zX h
 obtain ⟨x23, h24, h24a, h24b, h⟩ := zX h
 refine yU ?_
 refine yd (zn ?_)
 rcases zI h with ⟨h25, h⟩ | ⟨h25, h⟩
 refine zi (zs (zr ?_))
 obtain ⟨h26, h⟩ := ite_some h
 obtain ⟨h27, h⟩ := ite_some h
 refine zU (zl (zn (zs (zs (zr ?_)))))
 refine zU (zl (zn (zb ?_)))
 obtain ⟨o28, h29, h⟩ := zB h
 refine zO (fun (s : List Int × Int × Int) => ⟨[(0, .own 15 1 0 s.1.length), (3, .p (.int .i64 s.2.1)), (4, .own 15 1 k19.toNat (l7.length - k19.toNat)), (5, .p (.int .i64 s.2.2))], [(15, .arr 36 1 1 (List.map AV.p (List.map (PV.int .u32) s.1)))]⟩) (fun (o30 : List Int × Int) => tE ⟨Tryz.prog, 61, 18, X, [(15, .arr 36 1 1 (List.map AV.p (List.map (PV.int .u32) l7)))], i12, w13, D⟩ (.exit 2) ⟨[(0, .own 15 1 0 o30.1.length), (3, .p (.int .i64 o30.2))], [(15, .arr 36 1 1 (List.map AV.p (List.map (PV.int .u32) o30.1)))]⟩) h29 ?_ ?_
 clear h h20 h22 h22a h22b h24 h24a h24b h25 h26 h27 h29
 intro s x h
 obtain ⟨s31, k32, k33⟩ := s
 simp only [attrset_Order_l3] at h
 dsimp only
 refine zs (zs (zr ?_))
 refine zU (zl (zn ?_))
 rcases zI h with ⟨h34, h⟩ | ⟨h34, h⟩
 refine zi (zk (zn (zs (zb (zs (zd ?_))))))
 obtain ⟨x35, h36, h36a, h36b, h⟩ := zX h
 obtain ⟨h37, h37n⟩ := part_get h36
 have h37N := eq_true (part_lt h37n h36a)
 obtain ⟨x38, h39, h39a, h39b, h⟩ := zX h
 obtain ⟨h40, h40n⟩ := part_get h39
 have h40N := eq_true (part_lt h40n h39a)
 refine yU ?_
 refine yd (zn ?_)
 rcases zI h with ⟨h41, h⟩ | ⟨h41, h⟩
 refine zi (zs (zr ?_))
 obtain ⟨h42, h42n⟩ := part_get h36
 have h42N := eq_true (part_lt h42n h36a)
 obtain ⟨x43, h44, h44a, h44b, h⟩ := zX h
 refine zU (zl (zn (zr ?_)))
 refine zU (zl (yn (zn (zr ?_))))
 refine zU (zl ?_)
 cases h
 exact ⟨rfl, zE⟩
 refine zj (zk (yn (zn (zr ?_))))
 refine zU (zl ?_)
 cases h
 exact ⟨rfl, zE⟩
 refine zj (zx (ze ?_))
 cases h
 exact ⟨rfl, zE⟩
 obtain ⟨s45, k46⟩ := o28
 try simp only at h
 refine zA (yh (zn (zs (zr ?_))))
 obtain ⟨h47, h⟩ := ite_some h
 obtain ⟨h48, h⟩ := ite_some h
 refine zW 3 ?_
 refine zCl (PV.int .u32) s45 0 15 k46.toNat (s45.length - k46.toNat) (by simp only [List.length_set, List.length_append, List.length_replicate] at *; omega) ?_
 refine zl (zn (zs (zr ?_)))
 obtain ⟨h49, h⟩ := ite_some h
 obtain ⟨h50, h⟩ := ite_some h
 refine zU (zl (zn (zq (yr (zt ?_)))))
 cases h
 exact ⟨rfl, zE⟩
 refine zj (zk (yn (zn (zr ?_))))
 refine zU (zl ?_)
 cases h
 exact ⟨rfl, zE⟩
 refine zj (zx (ze ?_))
 cases h
 exact ⟨rfl, zE⟩
 rcases o15 with ⟨⟩ | t51
 try simp only at h
 refine zA (yh (zn (zs (zr ?_))))
 refine zU (zl (zn (zq ?_)))
 refine inlQ_ret (by simp only [Tryz.results97]; simp only [go_sem, seval, h3, h14T]; exact rfl) ?_
 refine zU (zl (zn (zq ?_)))
 cases h
 exact zT Tryz.results61
 try simp only at h
 refine zA (yr (zt ?_))
 refine inlQ_ret (by simp only [Tryz.results97]; simp only [go_sem, seval, h3, h14T]; exact rfl) ?_
 refine zU (zl (zn (zq ?_)))
 cases h
 exact zT Tryz.results61
end Go.Proofs.YthgnkhchpjcboaaGreat
set_option linter.unusedVariables false
set_option linter.unusedSimpArgs false
namespace Go.Proofs.YthgnkhchpjcboaaGreat
open Go Go.Ab
set_option maxHeartbeats 4000000 in
theorem attrset_Subsets_con {D : Prop} (s1 : Int) (r2 : List Int) (h : attrset_Subsets s1 = some r2) : Con D Tryz.prog 33 [(.int .u32 s1)] (.slc (List.map (PV.int .u32) r2)) := by
 refine zP Tryz.call33 Tryz.func33 rfl Tryz.ntmps33 fun X w => ?_
 simp only [attrset_Subsets] at h
 refine zs (zr ?_)
 refine zU (zl (zn (zs (zs (zr ?_)))))
 refine zU ?_
 obtain ⟨r3, h4, h⟩ := zB h
 refine zc (attrset_Size_con s1 _ h4) ?_
 refine zU (zl (zn ?_))
 rcases zI h with ⟨h5, h⟩ | ⟨h5, h⟩
 refine zi (zs (zr ?_))
 refine zU (zl (zn (zq (zt ?_))))
 cases h
 exact zT Tryz.results33
 refine zj (zk (zn (zs (zr ?_))))
 refine zU (zl (zn (zs (zs (zr ?_)))))
 refine zU (zl (zn (zb ?_)))
 obtain ⟨o6, h7, h⟩ := zB h
 refine zO (fun (s : List Int × Int) => ⟨[(0, .p (.int .u32 s1)), (3, .own 9 1 0 s.1.length), (4, .p (.int .u32 s.2))], [(9, .arr 36 1 1 (List.map AV.p (List.map (PV.int .u32) s.1)))]⟩) (fun (o8 : List Int) => tE (cX Tryz.f33 X w D) (.exit 0) ⟨[(3, .own 9 1 0 o8.length)], [(9, .arr 36 1 1 (List.map AV.p (List.map (PV.int .u32) o8)))]⟩) h7 ?_ ?_
 clear h h4 h5 h7
 intro s x h
 obtain ⟨o9, x10⟩ := s
 simp only [attrset_Subsets_l1] at h
 dsimp only
 refine zs (zs (zr ?_))
 refine zU (zl (zn ?_))
 rcases zI h with ⟨h11, h⟩ | ⟨h11, h⟩
 refine zi (zk (zn (zb (zs (zr ?_)))))
 refine zU (zl (zn (zr ?_)))
 obtain ⟨h12, h⟩ := ite_some h
 refine zU (zl (yn ?_))
 cases h
 exact ⟨rfl, zE⟩
 refine zj (zx (ze ?_))
 cases h
 exact ⟨rfl, zE⟩
 try simp only at h
 refine zA (yh (zn (zs (zr ?_))))
 refine zU ?_
 refine zM ⟨[(21, .p (.slc (List.map (PV.int .u32) o6)))], []⟩ ?_
 obtain ⟨r13, h14, h⟩ := zB h
 refine zc (attrset_Order_con o6 _ h14) ?_
 refine zU (zl (zn (zq ?_)))
 cases h
 exact zT Tryz.results33
end Go.Proofs.YthgnkhchpjcboaaGreat
set_option linter.unusedVariables false
set_option linter.unusedSimpArgs false
namespace Go.Proofs.YthgnkhchpjcboaaGreat
open Go Go.Ab
set_option maxHeartbeats 4000000 in
theorem ordering_check_con {D : Prop} (t1 : Table) (o2 : Int → Option (Bool)) (o2_k : FuncId) (o2_cs : List PV) (o2_h : ∀ (y3 : Int) (r4 : Bool), o2 y3 = some r4 → Con D Tryz.prog o2_k ((.int .i64 y3) :: o2_cs) (.bool r4)) (r5 : Int) (h : ordering_check t1 o2 = some r5) : Con D Tryz.prog 85 [(encTable t1), .func (.func o2_k) o2_cs] (.int .i64 r5) := by
 refine zP Tryz.call85 Tryz.func85 rfl Tryz.ntmps85 fun X w => ?_
 simp only [ordering_check] at h
 refine zs (zr ?_)
 refine zU (zl (zn (zs (zs (zr ?_)))))
 refine zU ?_
 obtain ⟨r6, h7, h⟩ := zB h
 refine zc (table_Valid_con t1 _ h7) ?_
 refine zU (zl (zn (zs (zr ?_))))
 refine zU (zl (zn ?_))
 rcases zI h with ⟨h8, h⟩ | ⟨h8, h⟩
 refine zi (zs (zr ?_))
 refine zU (zl (zn (zq (zt ?_))))
 cases h
 exact zT Tryz.results85
 refine zj (zk (zn (zs (zs (zr ?_)))))
 refine zU ?_
 obtain ⟨r9, h10, h⟩ := zB h
 refine zc (o2_h (t1.Attrs.length : Int) _ h10) ?_
 refine zU (zl (zn ?_))
 rcases zI h with ⟨h11, h⟩ | ⟨h11, h⟩
 refine zj (zk (zn (zs (zr ?_))))
 refine zU (zl (zn (zq ?_)))
 cases h
 exact zT Tryz.results85
 refine zi (zs (zr ?_))
 refine zU (zl (zn (zq (zt ?_))))
 cases h
 exact zT Tryz.results85
end Go.Proofs.YthgnkhchpjcboaaGreat
set_option linter.unusedVariables false
set_option linter.unusedSimpArgs false
namespace Go.Proofs.YthgnkhchpjcboaaGreat
open Go Go.Ab
set_option maxRecDepth 20000 in
set_option maxHeartbeats 4000000 in
theorem ordering_Satisfies_1_con {D : Prop} (n1 : Int) (c2 : Canonical) (r3 : Bool) (h : ordering_Satisfies_1 n1 c2 = some r3) : Con D Tryz.prog 123 [(.int .i64 n1), .imm [.int .u32 c2.Context, .int .i64 c2.A, .int .i64 c2.B]] (.bool r3) := by
 refine zP Tryz.call123 Tryz.func123 rfl Tryz.ntmps123 fun X w => ?_
 simp only [ordering_Satisfies_1] at h
 refine zs (zr ?_)
 refine zU (zl (zn (zs (zr ?_))))
 refine zU ?_
 rcases zI h with ⟨h4, h⟩ | ⟨h4, h⟩
 refine zw 7 true ?_
 refine zg ?_
 refine zg ?_
 refine zg ?_
 refine zg ?_
 refine zU ?_
 rcases zI h with ⟨h5, h⟩ | ⟨h5, h⟩
 refine zw 13 true ?_
 refine zg ?_
 refine zg ?_
 refine zg ?_
 refine zU ?_
 rcases zI h with ⟨h6, h⟩ | ⟨h6, h⟩
 refine zw 18 true ?_
 refine zg ?_
 refine zg ?_
 refine zg ?_
 refine zg ?_
 refine zU ?_
 rcases zI h with ⟨h7, h⟩ | ⟨h7, h⟩
 refine zw 24 true ?_
 refine zg ?_
 refine zg ?_
 refine zg ?_
 obtain ⟨h8, h⟩ := ite_none h
 replace h := h.symm
 refine zg ?_
 refine zg ?_
 refine zU (zl (zn (zq ?_)))
 cases h
 exact zT Tryz.results123
 refine zw 24 false ?_
 refine zh ?_
 refine zU (zl (zn (zq ?_)))
 cases h
 exact zT Tryz.results123
 refine zw 18 false ?_
 refine zh ?_
 refine zU ?_
 refine zh ?_
 refine zU (zl (zn (zq ?_)))
 cases h
 exact zT Tryz.results123
 refine zw 13 false ?_
 refine zh ?_
 refine zU ?_
 refine zh ?_
 refine zU ?_
 refine zh ?_
 refine zU (zl (zn (zq ?_)))
 cases h
 exact zT Tryz.results123
 refine zw 7 false ?_
 refine zh ?_
 refine zU ?_
 refine zh ?_
 refine zU ?_
 refine zh ?_
 refine zU ?_
 refine zh ?_
 refine zU (zl (zn (zq ?_)))
 cases h
 exact zT Tryz.results123
end Go.Proofs.YthgnkhchpjcboaaGreat
set_option linter.unusedVariables false
set_option linter.unusedSimpArgs false
namespace Go.Proofs.YthgnkhchpjcboaaGreat
open Go Go.Ab
set_option maxHeartbeats 4000000 in
theorem cmp_isNaN_int64_con {D : Prop} (x1 : Int) (r2 : Bool) (h : cmp_isNaN_int64 x1 = some r2) : Con D Tryz.prog 159 [(.int .i64 x1)] (.bool r2) := by
 refine zP Tryz.call159 Tryz.func159 rfl Tryz.ntmps159 fun X w => ?_
 simp only [cmp_isNaN_int64] at h
 refine zs (zr ?_)
 refine zU (zl (zn (zs (zr ?_))))
 refine zU (zl (zn (zq ?_)))
 cases h
 exact zT Tryz.results159
end Go.Proofs.YthgnkhchpjcboaaGreat
set_option linter.unusedVariables false
set_option linter.unusedSimpArgs false
namespace Go.Proofs.YthgnkhchpjcboaaGreat
open Go Go.Ab
set_option maxHeartbeats 4000000 in
theorem cmp_Compare_int64_con {D : Prop} (x1 : Int) (y2 : Int) (r3 : Int) (h : cmp_Compare_int64 x1 y2 = some r3) : Con D Tryz.prog 143 [(.int .i64 x1), (.int .i64 y2)] (.int .i64 r3) := by
 refine zP Tryz.call143 Tryz.func143 rfl Tryz.ntmps143 fun X w => ?_
 simp only [cmp_Compare_int64] at h
 refine zs (zr ?_)
 refine zU (zl (zn (zs (zr ?_))))
 refine zU ?_
 obtain ⟨r4, h5, h⟩ := zB h
 refine zc (cmp_isNaN_int64_con x1 _ h5) ?_
 refine zU (zl (zn (zs (zr ?_))))
 refine zU ?_
 obtain ⟨r6, h7, h⟩ := zB h
 refine zc (cmp_isNaN_int64_con y2 _ h7) ?_
 refine zU (zl (zn (zs (zs (zr ?_)))))
 refine zU (zl (zn ?_))
 rcases zI h with ⟨h8, h⟩ | ⟨h8, h⟩
 refine zi (zs (zs (zr ?_)))
 refine zU (zl (zn ?_))
 rcases zI h with ⟨h9, h⟩ | ⟨h9, h⟩
 refine zi (zs (zr ?_))
 refine zU (zl (zn (zq (zt (zt ?_)))))
 cases h
 exact zT Tryz.results143
 refine zj (zk (zn (zs (zr ?_))))
 refine zU (zl (zn (zq (zt ?_))))
 cases h
 exact zT Tryz.results143
 refine zj (zk (zn (zs (zs (zr ?_)))))
 refine zU (zl (zn ?_))
 rcases zI h with ⟨h10, h⟩ | ⟨h10, h⟩
 refine zi (zs (zr ?_))
 refine zU (zl (zn (zq (zt ?_))))
 cases h
 exact zT Tryz.results143
 refine zj (zk (zn (zs (zs (zr ?_)))))
 refine zU (zl (zn ?_))
 rcases zI h with ⟨h11, h⟩ | ⟨h11, h⟩
 refine zi (zs (zr ?_))
 refine zU (zl (zn (zq (zt ?_))))
 cases h
 exact zT Tryz.results143
 refine zj (zk (zn (zs (zs (zr ?_)))))
 refine zU (zl (zn ?_))
 rcases zI h with ⟨h12, h⟩ | ⟨h12, h⟩
 refine zi (zs (zr ?_))
 refine zU (zl (zn (zq (zt ?_))))
 cases h
 exact zT Tryz.results143
 refine zj (zk (zn (zs (zr ?_))))
 refine zU (zl (zn (zq ?_)))
 cases h
 exact zT Tryz.results143
end Go.Proofs.YthgnkhchpjcboaaGreat
namespace Go.Proofs.YthgnkhchpjcboaaGreat
open Go Go.Ab
theorem ext165 (a b : List UInt8) (w : World) : (callFunc 165 #[.string ⟨a.toArray⟩, .string ⟨b.toArray⟩]).run Tryz.prog w = .ok (.value (.int .i64 (Lib.compareBytes a b))) w := by
  rw [run_callFunc_extern Tryz.func165 (by kernel_rfl) (by kernel_rfl) (by kernel_rfl) (e := Extern.BytealgCompare.compare) (by kernel_rfl), Lib.run_compareString]
  rfl
end Go.Proofs.YthgnkhchpjcboaaGreat
set_option linter.unusedVariables false
set_option linter.unusedSimpArgs false
namespace Go.Proofs.YthgnkhchpjcboaaGreat
open Go Go.Ab
set_option maxHeartbeats 4000000 in
theorem bytealg_CompareString_con {D : Prop} (a1 : List UInt8) (b2 : List UInt8) (r3 : Int) (h : bytealg_CompareString a1 b2 = some r3) : Con D Tryz.prog 160 [(.str a1), (.str b2)] (.int .i64 r3) := by
 refine zP Tryz.call160 Tryz.func160 rfl Tryz.ntmps160 fun X w => ?_
 simp only [bytealg_CompareString] at h
 refine zs (zr ?_)
 refine zU (zl (zn (zs (zr ?_))))
 refine zU ?_
 refine AL_ext2 (ext165 a1 b2) (by simp only [go_sem, seval]; all_goals ((repeat' refine And.intro ?_ ?_) <;> first | rfl | (simp; done) | (simp; rfl) | (simp [*]; done) | (simp [*]; rfl))) (by simp only [go_sem, seval]; all_goals ((repeat' refine And.intro ?_ ?_) <;> first | rfl | (simp; done) | (simp; rfl) | (simp [*]; done) | (simp [*]; rfl))) rfl ?_
 refine zU (zl (zn (zq ?_)))
 cases h
 exact zT Tryz.results160
end Go.Proofs.YthgnkhchpjcboaaGreat
set_option linter.unusedVariables false
set_option linter.unusedSimpArgs false
namespace Go.Proofs.YthgnkhchpjcboaaGreat
open Go Go.Ab
set_option maxHeartbeats 4000000 in
theorem strings_Compare_con {D : Prop} (a1 : List UInt8) (b2 : List UInt8) (r3 : Int) (h : strings_Compare a1 b2 = some r3) : Con D Tryz.prog 144 [(.str a1), (.str b2)] (.int .i64 r3) := by
 refine zP Tryz.call144 Tryz.func144 rfl Tryz.ntmps144 fun X w => ?_
 simp only [strings_Compare] at h
 refine zs (zr ?_)
 refine zU (zl (zn (zs (zr ?_))))
 refine zU ?_
 obtain ⟨r4, h5, h⟩ := zB h
 refine zc (bytealg_CompareString_con a1 b2 _ h5) ?_
 refine zU (zl (zn (zq ?_)))
 cases h
 exact zT Tryz.results144
end Go.Proofs.YthgnkhchpjcboaaGreat
set_option linter.unusedVariables false
set_option linter.unusedSimpArgs false
namespace Go.Proofs.YthgnkhchpjcboaaGreat
open Go Go.Ab
set_option maxRecDepth 20000 in
set_option maxHeartbeats 4000000 in
theorem value_Compare_con {D : Prop} (a1 : Value) (b2 : Value) (r3 : Int) (h : value_Compare a1 b2 = some r3) : Con D Tryz.prog 125 [(encValue a1), (encValue b2)] (.int .i64 r3) := by
 refine zP Tryz.call125 Tryz.func125 rfl Tryz.ntmps125 fun X w => ?_
 simp only [value_Compare] at h
 refine zs (zr ?_)
 refine zU (zl (zn (zs (zd ?_))))
 refine yU ?_
 obtain ⟨r4, h5, h⟩ := zB h
 refine yc (cmp_Compare_int_con a1.Kind b2.Kind _ h5) ?_
 refine yU ?_
 obtain ⟨r6, h7, h⟩ := zB h
 refine yc (cmp_Compare_int64_con a1.Num b2.Num _ h7) ?_
 refine yU ?_
 obtain ⟨r8, h9, h⟩ := zB h
 refine yc (strings_Compare_con a1.Str b2.Str _ h9) ?_
 refine yU ?_
 obtain ⟨r10, h11, h⟩ := zB h
 refine yc (cmp_Or_int_con [r4, r6, r8] _ h11) ?_
 refine yU ?_
 refine yd (zn (zq ?_))
 cases h
 exact zT Tryz.results125
end Go.Proofs.YthgnkhchpjcboaaGreat
set_option linter.unusedVariables false
set_option linter.unusedSimpArgs false
namespace Go.Proofs.YthgnkhchpjcboaaGreat
open Go Go.Ab
set_option maxRecDepth 20000 in
set_option maxHeartbeats 4000000 in
theorem ordering_compare_con {D : Prop} (a1 : Row) (b2 : Row) (l3 : List Int) (r4 : Int) (h : ordering_compare a1 b2 l3 = some r4) : Con D Tryz.prog 124 [(encRow a1), (encRow b2), (.slc (List.map (PV.int .i64) l3))] (.int .i64 r4) := by
 refine zP Tryz.call124 Tryz.func124 rfl Tryz.ntmps124 fun X w => ?_
 simp only [ordering_compare] at h
 refine zs (zr ?_)
 refine zU (zl (zn (zs (zs (zr ?_)))))
 refine zU (zl (zn (zb ?_)))
 obtain ⟨o5, h6, h⟩ := zB h
 refine zO (fun (s : Int) => ⟨[(3, .loc 3 1 0 0), (4, .loc 4 1 0 0), (10, .p (.slc (List.map (PV.int .i64) l3))), (11, .p (.int .i64 (l3.length : Int))), (12, .p (.int .i64 s))], [(3, .arr 80 2 1 [.p (encRow a1)]), (4, .arr 80 2 1 [.p (encRow b2)])]⟩) (fun (o : (Unit) ⊕ (Int)) => match o with | .inl o7 => tE (cX Tryz.f124 X w D) (.exit 0) ⟨[], []⟩ | .inr o8 => tR Tryz.prog Tryz.f124 (.int .i64 o8)) h6 ?_ ?_
 clear h h6
 intro t9 x h
 simp only [ordering_compare_l1] at h
 refine zs (zr ?_)
 refine zU (zl (zn (zs ?_)))
 rcases zI h with ⟨h10, h⟩ | ⟨h10, h⟩
 refine zi (zk (zn (zs (zb (zs (zr ?_))))))
 obtain ⟨x11, h12, h12a, h12b, h⟩ := zX h
 refine zU (zl (zn (zs (zd ?_))))
 obtain ⟨x13, h14, h14a, h14b, h⟩ := zX h
 obtain ⟨x15, h16, h16a, h16b, h⟩ := zX h
 refine yU ?_
 obtain ⟨r17, h18, h⟩ := zB h
 refine yc (value_Compare_con x13 x15 _ h18) ?_
 refine yU ?_
 refine yd (zn (zs (zr ?_)))
 refine zU (zl (zn ?_))
 rcases zI h with ⟨h19, h⟩ | ⟨h19, h⟩
 refine zi (zs (zr ?_))
 refine zU (zl (zn (zq (yr (zt ?_)))))
 cases h
 exact ⟨rfl, zT Tryz.results124⟩
 refine zj (zk (yn (zn (zr ?_))))
 refine zU (zl ?_)
 cases h
 exact ⟨rfl, zE⟩
 refine zj (zx (ze ?_))
 cases h
 exact ⟨rfl, zE⟩
 rcases o5 with ⟨⟩ | r20
 try simp only at h
 refine zA (yh (zn (zs (zr ?_))))
 refine zU (zl (zn (zq ?_)))
 cases h
 exact zT Tryz.results124
 try simp only at h
 refine zZ fun s hq => ?_
 refine yr (zt ?_)
 cases h
 exact hq
end Go.Proofs.YthgnkhchpjcboaaGreat
set_option linter.unusedVariables false
set_option linter.unusedSimpArgs false
namespace Go.Proofs.YthgnkhchpjcboaaGreat
open Go Go.Ab
set_option maxRecDepth 20000 in
set_option maxHeartbeats 4000000 in
theorem ordering_Satisfies_con {D : Prop} (t1 : Table) (c2 : Canonical) (r3 : Bool × Int) (h : ordering_Satisfies t1 c2 = some r3) : Con D Tryz.prog 98 [(encTable t1), (encCanonical c2)] (.tup [(.bool r3.1), (.int .i64 r3.2)]) := by
 refine zP Tryz.call98 Tryz.func98 rfl Tryz.ntmps98 fun X w => ?_
 simp only [ordering_Satisfies] at h
 refine zs (zr ?_)
 refine zU (zl (zn (zs (zr ?_))))
 refine zU (zl (zn (zs (zs (zr ?_)))))
 refine zU ?_
 obtain ⟨r4, h5, h⟩ := zB h
 refine zc (ordering_check_con t1 (fun (y6 : Int) => ordering_Satisfies_1 y6 c2) 123 [.imm [.int .u32 c2.Context, .int .i64 c2.A, .int .i64 c2.B]] (fun y6 r h => ordering_Satisfies_1_con y6 c2 r h) _ h5) ?_
 refine zU (zl (zn (zs (zr ?_))))
 refine zU (zl (zn ?_))
 rcases zI h with ⟨h7, h⟩ | ⟨h7, h⟩
 refine zi (zs (zr ?_))
 refine zU (zl (zn (zq (zt ?_))))
 cases h
 exact zT Tryz.results98
 refine zj (zk (zn (zs (zr ?_))))
 refine zU (zl (zn (zs (zs (zr ?_)))))
 refine zU (zl (zn (zb ?_)))
 obtain ⟨c8, h9, h⟩ := zB h
 refine zO (fun (s : List Int × Int) => ⟨[(2, .loc 2 1 0 0), (3, .loc 3 1 0 0), (8, .own 37 1 0 s.1.length), (24, .p (.int .i64 (t1.Attrs.length : Int))), (25, .p (.int .i64 s.2))], [(2, .arr 25 3 1 [.p (encTable t1)]), (3, .arr 38 3 1 [.p (encCanonical c2)]), (37, .arr 3 1 1 (List.map AV.p (List.map (PV.int .i64) s.1)))]⟩) (fun (o10 : List Int) => tE (cX Tryz.f98 X w D) (.exit 0) ⟨[(2, .loc 2 1 0 0), (3, .loc 3 1 0 0), (8, .own 37 1 0 o10.length)], [(2, .arr 25 3 1 [.p (encTable t1)]), (3, .arr 38 3 1 [.p (encCanonical c2)]), (37, .arr 3 1 1 (List.map AV.p (List.map (PV.int .i64) o10)))]⟩) h9 ?_ ?_
 clear h h5 h7 h9
 intro s x h
 obtain ⟨c11, t12⟩ := s
 simp only [ordering_Satisfies_l1] at h
 dsimp only
 refine zs (zr ?_)
 refine zU (zl (zn (zs ?_)))
 rcases zI h with ⟨h13, h⟩ | ⟨h13, h⟩
 refine zi (zk (zn (zs (zb (zs (zr ?_))))))
 refine zU (zl (zn (zs (zr ?_))))
 obtain ⟨h14, h⟩ := ite_none h
 refine zU (zl (zn ?_))
 rcases zI h with ⟨h15, h⟩ | ⟨h15, h⟩
 refine zi (zr ?_)
 obtain ⟨h16, h⟩ := ite_some h
 refine zU (zl (yn (zn (zr ?_))))
 refine zU (zl ?_)
 cases h
 exact ⟨rfl, zE⟩
 refine zj (zk (yn (zn (zr ?_))))
 refine zU (zl ?_)
 cases h
 exact ⟨rfl, zE⟩
 refine zj (zx (ze ?_))
 cases h
 exact ⟨rfl, zE⟩
 try simp only at h
 refine zA (yh (zn (zs (zs (zr ?_)))))
 refine zU (zl (zn (zb ?_)))
 obtain ⟨o17, h18, h⟩ := zB h
 refine zO (fun (s : Int) => ⟨[(2, .loc 2 1 0 0), (3, .loc 3 1 0 0), (8, .own 37 1 0 c8.length), (40, .p (.slc (List.map encRow t1.Rows))), (41, .p (.int .i64 (t1.Rows.length : Int))), (42, .p (.int .i64 s))], [(2, .arr 25 3 1 [.p (encTable t1)]), (3, .arr 38 3 1 [.p (encCanonical c2)]), (37, .arr 3 1 1 (List.map AV.p (List.map (PV.int .i64) c8)))]⟩) (fun (o : (Unit) ⊕ (Bool × Int)) => match o with | .inl o19 => tE (cX Tryz.f98 X w D) (.exit 2) ⟨[], []⟩ | .inr o20 => tR Tryz.prog Tryz.f98 (.tup [(.bool o20.1), (.int .i64 o20.2)])) h18 ?_ ?_
 clear h h5 h7 h9 h18
 intro t21 x h
 simp only [ordering_Satisfies_l5] at h
 refine zs (zr ?_)
 refine zU (zl (zn (zs ?_)))
 rcases zI h with ⟨h22, h⟩ | ⟨h22, h⟩
 refine zi (zk (zn (zs (zb (zs (zr ?_))))))
 obtain ⟨x23, h24, h24a, h24b, h⟩ := zX h
 refine zU (zl (zn (zs (zr ?_))))
 obtain ⟨h25, h⟩ := ite_some h
 obtain ⟨h26, h⟩ := ite_some h
 refine zU (zl (zn (zb ?_)))
 obtain ⟨o27, h28, h⟩ := zB h
 refine zO (fun (s : Int) => ⟨[(2, .loc 2 1 0 0), (3, .loc 3 1 0 0), (8, .own 37 1 0 c8.length), (11, .loc 11 1 0 0), (40, .p (.slc (List.map encRow t1.Rows))), (41, .p (.int .i64 (t1.Rows.length : Int))), (42, .p (.int .i64 t21)), (51, .p (.slc (List.map encRow ((t1.Rows.drop (IntKind.i64.wrap (t21 + 1)).toNat).take (t1.Rows.length - (IntKind.i64.wrap (t21 + 1)).toNat))))), (52, .p (.int .i64 (((t1.Rows.drop (IntKind.i64.wrap (t21 + 1)).toNat).take (t1.Rows.length - (IntKind.i64.wrap (t21 + 1)).toNat)).length : Int))), (53, .p (.int .i64 s))], [(2, .arr 25 3 1 [.p (encTable t1)]), (3, .arr 38 3 1 [.p (encCanonical c2)]), (11, .arr 80 2 1 [.p (encRow x23)]), (37, .arr 3 1 1 (List.map AV.p (List.map (PV.int .i64) c8)))]⟩) (fun (o : (Unit) ⊕ (Bool × Int)) => match o with | .inl o29 => tE (cX Tryz.f98 X w D) (.exit 4) ⟨[(2, .loc 2 1 0 0), (3, .loc 3 1 0 0), (8, .own 37 1 0 c8.length), (40, .p (.slc (List.map encRow t1.Rows))), (41, .p (.int .i64 (t1.Rows.length : Int))), (42, .p (.int .i64 t21))], [(2, .arr 25 3 1 [.p (encTable t1)]), (3, .arr 38 3 1 [.p (encCanonical c2)]), (37, .arr 3 1 1 (List.map AV.p (List.map (PV.int .i64) c8)))]⟩ | .inr o30 => tR Tryz.prog Tryz.f98 (.tup [(.bool o30.1), (.int .i64 o30.2)])) h28 ?_ ?_
 clear h h22 h24 h24a h24b h25 h26 h28
 intro t31 x h
 simp only [ordering_Satisfies_l4] at h
 refine zs (zr ?_)
 refine zU (zl (zn (zs ?_)))
 rcases zI h with ⟨h32, h⟩ | ⟨h32, h⟩
 refine zi (zk (zn (zs (zb (zs (zr ?_))))))
 obtain ⟨x33, h34, h34a, h34b, h⟩ := zX h
 refine zU (zl (zn (zs (zs (zr ?_)))))
 refine zU ?_
 obtain ⟨r35, h36, h⟩ := zB h
 refine zc (ordering_compare_con x23 x33 c8 _ h36) ?_
 refine zU (zl (zn ?_))
 rcases zI h with ⟨h37, h⟩ | ⟨h37, h⟩
 refine zi (zx (ze (yh (zn (zr ?_)))))
 refine zU (zl ?_)
 cases h
 exact ⟨rfl, zE⟩
 refine zj (zk (zn (zs (zd ?_))))
 obtain ⟨x38, h39, h39a, h39b, h⟩ := zX h
 obtain ⟨x40, h41, h41a, h41b, h⟩ := zX h
 refine yU ?_
 obtain ⟨r42, h43, h⟩ := zB h
 refine yc (value_Compare_con x38 x40 _ h43) ?_
 refine yU ?_
 refine yd (zn (zs (zd ?_)))
 refine yU ?_
 rcases zI h with ⟨h44, h⟩ | ⟨h44, h⟩
 refine yw 78 true ?_
 refine yg ?_
 refine yg ?_
 refine yU ?_
 rcases zI h with ⟨h45, h⟩ | ⟨h45, h⟩
 refine yw 82 true ?_
 refine yk ?_
 refine yU ?_
 refine yd (zn ?_)
 refine zi (zs (zr ?_))
 refine zU (zl (zn (zq (yr (zt ?_)))))
 cases h
 exact ⟨rfl, zT Tryz.results98⟩
 refine yw 82 false ?_
 refine yg ?_
 refine yg ?_
 refine yg ?_
 refine yg ?_
 rcases zI h with ⟨h46, h⟩ | ⟨h46, h⟩
 refine yw 86 true ?_
 refine yg ?_
 refine yg ?_
 refine yg ?_
 refine yg ?_
 refine yg ?_
 obtain ⟨x47, h48, h48a, h48b, h⟩ := zX h
 refine yg ?_
 refine yg ?_
 refine yg ?_
 refine yg ?_
 refine yg ?_
 refine yg ?_
 obtain ⟨x49, h50, h50a, h50b, h⟩ := zX h
 refine yg ?_
 refine yg ?_
 obtain ⟨r51, h52, h⟩ := zB h
 refine yc (value_Compare_con x47 x49 _ h52) ?_
 refine yg ?_
 refine yg ?_
 refine yg ?_
 refine yU ?_
 refine yd (zn ?_)
 rcases zI h with ⟨h53, h⟩ | ⟨h53, h⟩
 refine zi (zs (zr ?_))
 refine zU (zl (zn (zq (yr (zt ?_)))))
 cases h
 exact ⟨rfl, zT Tryz.results98⟩
 refine zj (zk (yn (zn (zr ?_))))
 refine zU (zl ?_)
 cases h
 exact ⟨rfl, zE⟩
 replace h := h.symm
 refine yw 86 false ?_
 refine yk ?_
 refine yg ?_
 refine yU ?_
 refine yd (zn ?_)
 refine zj (zk (yn (zn (zr ?_))))
 refine zU (zl ?_)
 cases h
 exact ⟨rfl, zE⟩
 refine yw 78 false ?_
 refine yk ?_
 refine yU ?_
 refine yg ?_
 refine yg ?_
 refine yg ?_
 refine yg ?_
 rcases zI h with ⟨h54, h⟩ | ⟨h54, h⟩
 refine yw 86 true ?_
 refine yg ?_
 refine yg ?_
 refine yg ?_
 refine yg ?_
 refine yg ?_
 obtain ⟨x55, h56, h56a, h56b, h⟩ := zX h
 refine yg ?_
 refine yg ?_
 refine yg ?_
 refine yg ?_
 refine yg ?_
 refine yg ?_
 obtain ⟨x57, h58, h58a, h58b, h⟩ := zX h
 refine yg ?_
 refine yg ?_
 obtain ⟨r59, h60, h⟩ := zB h
 refine yc (value_Compare_con x55 x57 _ h60) ?_
 refine yg ?_
 refine yg ?_
 refine yg ?_
 refine yU ?_
 refine yd (zn ?_)
 rcases zI h with ⟨h61, h⟩ | ⟨h61, h⟩
 refine zi (zs (zr ?_))
 refine zU (zl (zn (zq (yr (zt ?_)))))
 cases h
 exact ⟨rfl, zT Tryz.results98⟩
 refine zj (zk (yn (zn (zr ?_))))
 refine zU (zl ?_)
 cases h
 exact ⟨rfl, zE⟩
 replace h := h.symm
 refine yw 86 false ?_
 refine yk ?_
 refine yg ?_
 refine yU ?_
 refine yd (zn ?_)
 refine zj (zk (yn (zn (zr ?_))))
 refine zU (zl ?_)
 cases h
 exact ⟨rfl, zE⟩
 refine zj (zx (ze ?_))
 cases h
 exact ⟨rfl, zE⟩
 rcases o27 with ⟨⟩ | r62
 try simp only at h
 refine zA (yh (yn (zn (zr ?_))))
 refine zU (zl ?_)
 cases h
 exact ⟨rfl, zE⟩
 try simp only at h
 refine zZ fun s hq => ?_
 refine yr (yr (zt ?_))
 cases h
 refine ⟨rfl, ?_⟩
 exact hq
 refine zj (zx (ze ?_))
 cases h
 exact ⟨rfl, zE⟩
 rcases o17 with ⟨⟩ | r63
 try simp only at h
 refine zA (yh (zn (zs (zr ?_))))
 refine zU (zl (zn (zq ?_)))
 cases h
 exact zT Tryz.results98
 try simp only at h
 refine zZ fun s hq => ?_
 refine yr (zt ?_)
 cases h
 exact hq
end Go.Proofs.YthgnkhchpjcboaaGreat
set_option linter.unusedVariables false
set_option linter.unusedSimpArgs false
namespace Go.Proofs.YthgnkhchpjcboaaGreat
open Go Go.Ab
set_option maxHeartbeats 4000000 in
theorem odmine_All_con {D : Prop} (t1 : Table) (r2 : List Canonical × Int) (h : odmine_All t1 = some r2) : Con D Tryz.prog 14 [(encTable t1)] (.tup [(.slc (List.map encCanonical r2.1)), (.int .i64 r2.2)]) := by
 refine zP Tryz.call14 Tryz.func14 rfl Tryz.ntmps14 fun X w => ?_
 simp only [odmine_All] at h
 refine zs (zr ?_)
 refine zU (zl (zn (zs (zs (zr ?_)))))
 refine zU ?_
 obtain ⟨r3, h4, h⟩ := zB h
 refine zc (odmine_check_con t1 _ h4) ?_
 refine zU (zl (zn (zs (zr ?_))))
 refine zU (zl (zn ?_))
 rcases zI h with ⟨h5, h⟩ | ⟨h5, h⟩
 refine zi (zs (zr ?_))
 refine zU (zl (zn (zq (zt ?_))))
 cases h
 exact zT Tryz.results14
 refine zj (zk (zn (zs (zr ?_))))
 refine zU (zl (zn (zs (zr ?_))))
 refine zU (zl (zn (zs (zs (zr ?_)))))
 obtain ⟨h6, h⟩ := ite_none h
 refine zU ?_
 obtain ⟨r7, h8, h⟩ := zB h
 refine zc (attrset_Subsets_con (IntKind.u32.wrap ((IntKind.u32.wrap (1 * 2 ^ (min ((t1.Attrs.length : Int)).toNat 32))) - 1)) _ h8) ?_
 refine zU (zl (zn (zb ?_)))
 obtain ⟨o9, h10, h⟩ := zB h
 refine zO (fun (s : (List (Canonical × Bool)) × List Canonical × Int) => ⟨[(5, .loc 5 1 0 0), (6, .own 32 1 0 s.2.1.length), (22, .p (.slc (List.map (PV.int .u32) r7))), (23, .p (.int .i64 (r7.length : Int))), (24, .p (.int .i64 s.2.2))], [(5, .arr 71 4 1 [.agg [.p (.str t1.Name), .p (.slc (List.map PV.str t1.Attrs)), .p (.slc (List.map encRow t1.Rows)), .mapo 15 1]]), (15, .map 1 (List.map AV.p (encK encCanonical s.1)) (List.map AV.p (encW PV.bool s.1))), (32, .arr 38 3 1 (List.map AV.p (List.map encCanonical s.2.1)))]⟩) (fun (o11 : List Canonical) => tE (cX Tryz.f14 X w D) (.exit 0) ⟨[(6, .own 32 1 0 o11.length)], [(32, .arr 38 3 1 (List.map AV.p (List.map encCanonical o11)))]⟩) h10 ?_ ?_
 clear h h4 h5 h6 h8 h10
 intro s x h
 obtain ⟨m12, o13, t14⟩ := s
 simp only [odmine_All_l202] at h
 dsimp only
 refine zs (zr ?_)
 refine zU (zl (zn (zs ?_)))
 rcases zI h with ⟨h15, h⟩ | ⟨h15, h⟩
 have h15T := eq_true h15
 refine zi (zk (zn (zs (zb (zs (zr ?_))))))
 obtain ⟨x16, h17, h17a, h17b, h⟩ := zX h
 refine zU (zl (zn (zs (zr ?_))))
 refine zU ?_
 refine zM ⟨[(5, .loc 5 1 0 0), (8, .p (.int .u32 x16)), (22, .p (.slc (List.map (PV.int .u32) r7))), (23, .p (.int .i64 (r7.length : Int))), (24, .p (.int .i64 t14)), (28, .own 32 1 0 o13.length), (29, .agg [.p (.str t1.Name), .p (.slc (List.map PV.str t1.Attrs)), .p (.slc (List.map encRow t1.Rows)), .mapo 15 1]), (30, .p (.int .u32 x16))], [(5, .arr 71 4 1 [.agg [.p (.str t1.Name), .p (.slc (List.map PV.str t1.Attrs)), .p (.slc (List.map encRow t1.Rows)), .mapo 15 1]]), (15, .map 1 (List.map AV.p (encK encCanonical m12)) (List.map AV.p (encW PV.bool m12))), (32, .arr 38 3 1 (List.map AV.p (List.map encCanonical o13)))]⟩ ?_
 refine AL_inline (avs := [.agg [.p (.str t1.Name), .p (.slc (List.map PV.str t1.Attrs)), .p (.slc (List.map encRow t1.Rows)), .mapo 15 1], .p (.int .u32 x16)]) 40 rfl (guard_none rfl) rfl Tryz.func34 rfl Tryz.call34 Tryz.ntmps34 (by simp) (by simp only [go_sem, seval, h15T]; all_goals rfl) ?_
 intro i18 w19
 show AWp _ _ _ ⟨[(0, .agg [.p (.str t1.Name), .p (.slc (List.map PV.str t1.Attrs)), .p (.slc (List.map encRow t1.Rows)), .mapo 15 1]), (1, .p (.int .u32 x16))], [(5, .arr 71 4 1 [.agg [.p (.str t1.Name), .p (.slc (List.map PV.str t1.Attrs)), .p (.slc (List.map encRow t1.Rows)), .mapo 15 1]]), (15, .map 1 (List.map AV.p (encK encCanonical m12)) (List.map AV.p (encW PV.bool m12))), (32, .arr 38 3 1 (List.map AV.p (List.map encCanonical o13)))]⟩
 refine zs (zr ?_)
 refine zU (zl (zn (zs (zr ?_))))
 refine zU (zl (zn (zs (zs (zr ?_)))))
 refine zU (zl (zn (zb ?_)))
 obtain ⟨o20, h21, h⟩ := zB h
 refine zO (fun (s : (List (Canonical × Bool)) × List Canonical × Int) => ⟨[(1, .p (.int .u32 x16)), (2, .loc 42 1 0 0), (5, .own 71 1 0 s.2.1.length), (11, .p (.int .i64 (t1.Attrs.length : Int))), (12, .p (.int .i64 s.2.2))], [(5, .arr 71 4 1 [.agg [.p (.str t1.Name), .p (.slc (List.map PV.str t1.Attrs)), .p (.slc (List.map encRow t1.Rows)), .mapo 15 1]]), (15, .map 1 (List.map AV.p (encK encCanonical s.1)) (List.map AV.p (encW PV.bool s.1))), (32, .arr 38 3 1 (List.map AV.p (List.map encCanonical o13))), (42, .arr 71 4 1 [.agg [.p (.str t1.Name), .p (.slc (List.map PV.str t1.Attrs)), .p (.slc (List.map encRow t1.Rows)), .mapo 15 1]]), (71, .arr 38 3 1 (List.map AV.p (List.map encCanonical s.2.1)))]⟩) (fun (o22 : List Canonical × (List (Canonical × Bool))) => tE ⟨Tryz.prog, 34, 40, X, [(5, .arr 71 4 1 [.agg [.p (.str t1.Name), .p (.slc (List.map PV.str t1.Attrs)), .p (.slc (List.map encRow t1.Rows)), .mapo 15 1]]), (15, .map 1 (List.map AV.p (encK encCanonical m12)) (List.map AV.p (encW PV.bool m12))), (32, .arr 38 3 1 (List.map AV.p (List.map encCanonical o13)))], i18, w19, D⟩ (.exit 0) ⟨[(5, .own 71 1 0 o22.1.length)], [(5, .arr 71 4 1 [.agg [.p (.str t1.Name), .p (.slc (List.map PV.str t1.Attrs)), .p (.slc (List.map encRow t1.Rows)), .mapo 15 1]]), (15, .map 1 (List.map AV.p (encK encCanonical o22.2)) (List.map AV.p (encW PV.bool o22.2))), (32, .arr 38 3 1 (List.map AV.p (List.map encCanonical o13))), (71, .arr 38 3 1 (List.map AV.p (List.map encCanonical o22.1)))]⟩) h21 ?_ ?_
 clear h h15 h15T h17 h17a h17b h21
 intro s x h
 obtain ⟨m23, o24, t25⟩ := s
 simp only [odmine_All_l160] at h
 dsimp only
 refine zs (zr ?_)
 refine zU (zl (zn (zs ?_)))
 rcases zI h with ⟨h26, h⟩ | ⟨h26, h⟩
 have h26T := eq_true h26
 refine zi (zk (zn (zs (zb (zs (zr ?_))))))
 refine zU (zl (zn (zs (zr ?_))))
 refine zU (zl (zn ?_))
 obtain ⟨o27, h28, h⟩ := zB h
 refine zJ (fun (o29 : (List (Canonical × Bool)) × Bool) => tE ⟨Tryz.prog, 34, 40, X, [(5, .arr 71 4 1 [.agg [.p (.str t1.Name), .p (.slc (List.map PV.str t1.Attrs)), .p (.slc (List.map encRow t1.Rows)), .mapo 15 1]]), (15, .map 1 (List.map AV.p (encK encCanonical m12)) (List.map AV.p (encW PV.bool m12))), (32, .arr 38 3 1 (List.map AV.p (List.map encCanonical o13)))], i18, w19, D⟩ .normal ⟨[(1, .p (.int .u32 x16)), (2, .loc 42 1 0 0), (5, .own 71 1 0 o24.length), (7, .loc 47 1 0 0), (11, .p (.int .i64 (t1.Attrs.length : Int))), (12, .p (.int .i64 t25)), (27, .p (.bool o29.2))], [(5, .arr 71 4 1 [.agg [.p (.str t1.Name), .p (.slc (List.map PV.str t1.Attrs)), .p (.slc (List.map encRow t1.Rows)), .mapo 15 1]]), (15, .map 1 (List.map AV.p (encK encCanonical o29.1)) (List.map AV.p (encW PV.bool o29.1))), (32, .arr 38 3 1 (List.map AV.p (List.map encCanonical o13))), (42, .arr 71 4 1 [.agg [.p (.str t1.Name), .p (.slc (List.map PV.str t1.Attrs)), .p (.slc (List.map encRow t1.Rows)), .mapo 15 1]]), (47, .arr 38 3 1 [.p (.agg [.int .u32 x16, .int .i64 t25, .int .i64 (-1)])]), (71, .arr 38 3 1 (List.map AV.p (List.map encCanonical o24)))]⟩) o27 ?_ ?_
 replace h := h28
 clear h28
 refine zr ?_
 obtain ⟨h30, h⟩ := ite_none h
 refine zU ?_
 rcases zI h with ⟨h31, h⟩ | ⟨h31, h⟩
 refine zw 23 true ?_
 refine zg ?_
 refine zg ?_
 refine zM ⟨[(1, .p (.int .u32 x16)), (2, .loc 42 1 0 0), (5, .own 71 1 0 o24.length), (7, .loc 47 1 0 0), (11, .p (.int .i64 (t1.Attrs.length : Int))), (12, .p (.int .i64 t25)), (23, .p (.bool true)), (24, .agg [.p (.str t1.Name), .p (.slc (List.map PV.str t1.Attrs)), .p (.slc (List.map encRow t1.Rows)), .mapo 15 1]), (25, .p (.agg [.int .u32 x16, .int .i64 t25, .int .i64 (-1)]))], [(5, .arr 71 4 1 [.agg [.p (.str t1.Name), .p (.slc (List.map PV.str t1.Attrs)), .p (.slc (List.map encRow t1.Rows)), .mapo 15 1]]), (15, .map 1 (List.map AV.p (encK encCanonical m23)) (List.map AV.p (encW PV.bool m23))), (32, .arr 38 3 1 (List.map AV.p (List.map encCanonical o13))), (42, .arr 71 4 1 [.agg [.p (.str t1.Name), .p (.slc (List.map PV.str t1.Attrs)), .p (.slc (List.map encRow t1.Rows)), .mapo 15 1]]), (47, .arr 38 3 1 [.p (.agg [.int .u32 x16, .int .i64 t25, .int .i64 (-1)])]), (71, .arr 38 3 1 (List.map AV.p (List.map encCanonical o24)))]⟩ ?_
 refine AL_inline (avs := [.agg [.p (.str t1.Name), .p (.slc (List.map PV.str t1.Attrs)), .p (.slc (List.map encRow t1.Rows)), .mapo 15 1], .p (.agg [.int .u32 x16, .int .i64 t25, .int .i64 (-1)])]) 74 rfl (guard_true' rfl rfl (by exact rfl) (by exact rfl)) rfl Tryz.func62 rfl Tryz.call62 Tryz.ntmps62 (by simp) (by simp only [go_sem, seval, h26T, h31]; all_goals rfl) ?_
 intro i32 w33
 show AWp _ _ _ ⟨[(0, .agg [.p (.str t1.Name), .p (.slc (List.map PV.str t1.Attrs)), .p (.slc (List.map encRow t1.Rows)), .mapo 15 1]), (1, .p (.agg [.int .u32 x16, .int .i64 t25, .int .i64 (-1)]))], [(5, .arr 71 4 1 [.agg [.p (.str t1.Name), .p (.slc (List.map PV.str t1.Attrs)), .p (.slc (List.map encRow t1.Rows)), .mapo 15 1]]), (15, .map 1 (List.map AV.p (encK encCanonical m23)) (List.map AV.p (encW PV.bool m23))), (32, .arr 38 3 1 (List.map AV.p (List.map encCanonical o13))), (42, .arr 71 4 1 [.agg [.p (.str t1.Name), .p (.slc (List.map PV.str t1.Attrs)), .p (.slc (List.map encRow t1.Rows)), .mapo 15 1]]), (47, .arr 38 3 1 [.p (.agg [.int .u32 x16, .int .i64 t25, .int .i64 (-1)])]), (71, .arr 38 3 1 (List.map AV.p (List.map encCanonical o24)))]⟩
 refine zs (zr ?_)
 refine zU (zl (zn (zs (zs (zr ?_)))))
 refine zU ?_
 refine zM ⟨[(2, .loc 76 1 0 0), (3, .loc 77 1 0 0), (6, .agg [.p (.str t1.Name), .p (.slc (List.map PV.str t1.Attrs)), .p (.slc (List.map encRow t1.Rows)), .mapo 15 1]), (7, .p (.agg [.int .u32 x16, .int .i64 t25, .int .i64 (-1)]))], [(5, .arr 71 4 1 [.agg [.p (.str t1.Name), .p (.slc (List.map PV.str t1.Attrs)), .p (.slc (List.map encRow t1.Rows)), .mapo 15 1]]), (15, .map 1 (List.map AV.p (encK encCanonical m23)) (List.map AV.p (encW PV.bool m23))), (32, .arr 38 3 1 (List.map AV.p (List.map encCanonical o13))), (42, .arr 71 4 1 [.agg [.p (.str t1.Name), .p (.slc (List.map PV.str t1.Attrs)), .p (.slc (List.map encRow t1.Rows)), .mapo 15 1]]), (47, .arr 38 3 1 [.p (.agg [.int .u32 x16, .int .i64 t25, .int .i64 (-1)])]), (71, .arr 38 3 1 (List.map AV.p (List.map encCanonical o24))), (76, .arr 71 4 1 [.agg [.p (.str t1.Name), .p (.slc (List.map PV.str t1.Attrs)), .p (.slc (List.map encRow t1.Rows)), .mapo 15 1]]), (77, .arr 38 3 1 [.p (.agg [.int .u32 x16, .int .i64 t25, .int .i64 (-1)])])]⟩ ?_
 refine AL_inline (avs := [.agg [.p (.str t1.Name), .p (.slc (List.map PV.str t1.Attrs)), .p (.slc (List.map encRow t1.Rows)), .mapo 15 1], .p (.agg [.int .u32 x16, .int .i64 t25, .int .i64 (-1)])]) 106 rfl (guard_none rfl) rfl Tryz.func63 rfl Tryz.call63 Tryz.ntmps63 (by simp) (by simp only [go_sem, seval, h26T, h31]; all_goals rfl) ?_
 intro i34 w35
 show AWp _ _ _ ⟨[(0, .agg [.p (.str t1.Name), .p (.slc (List.map PV.str t1.Attrs)), .p (.slc (List.map encRow t1.Rows)), .mapo 15 1]), (1, .p (.agg [.int .u32 x16, .int .i64 t25, .int .i64 (-1)]))], [(5, .arr 71 4 1 [.agg [.p (.str t1.Name), .p (.slc (List.map PV.str t1.Attrs)), .p (.slc (List.map encRow t1.Rows)), .mapo 15 1]]), (15, .map 1 (List.map AV.p (encK encCanonical m23)) (List.map AV.p (encW PV.bool m23))), (32, .arr 38 3 1 (List.map AV.p (List.map encCanonical o13))), (42, .arr 71 4 1 [.agg [.p (.str t1.Name), .p (.slc (List.map PV.str t1.Attrs)), .p (.slc (List.map encRow t1.Rows)), .mapo 15 1]]), (47, .arr 38 3 1 [.p (.agg [.int .u32 x16, .int .i64 t25, .int .i64 (-1)])]), (71, .arr 38 3 1 (List.map AV.p (List.map encCanonical o24))), (76, .arr 71 4 1 [.agg [.p (.str t1.Name), .p (.slc (List.map PV.str t1.Attrs)), .p (.slc (List.map encRow t1.Rows)), .mapo 15 1]]), (77, .arr 38 3 1 [.p (.agg [.int .u32 x16, .int .i64 t25, .int .i64 (-1)])])]⟩
 refine zs (zr ?_)
 refine zU (zl (zn (zs (zr ?_))))
 refine zU (zl (zn (zs (zs (zr ?_)))))
 refine zU (zl (zn ?_))
 rcases zI h with ⟨h36, h⟩ | ⟨h36, h⟩
 refine zj (zk (zn (zs (zr ?_))))
 refine zU (zl (zn (zq ?_)))
 refine inlQ_ret (by simp only [Tryz.results63]; simp only [go_sem, seval, h26T, h31, h36]; exact rfl) ?_
 refine zU (zl (zn ?_))
 rcases zI h with ⟨h37, h⟩ | ⟨h37, h⟩
 refine zj (zk (zn (zs (zs (zr ?_)))))
 refine zU (zl (zn (zb ?_)))
 obtain ⟨o38, h39, h⟩ := zB h
 refine zO (fun (s : (List (Canonical × Bool)) × Int) => ⟨[(2, .loc 76 1 0 0), (3, .loc 77 1 0 0), (5, .p (.int .u32 s.2))], [(5, .arr 71 4 1 [.agg [.p (.str t1.Name), .p (.slc (List.map PV.str t1.Attrs)), .p (.slc (List.map encRow t1.Rows)), .mapo 15 1]]), (15, .map 1 (List.map AV.p (encK encCanonical s.1)) (List.map AV.p (encW PV.bool s.1))), (32, .arr 38 3 1 (List.map AV.p (List.map encCanonical o13))), (42, .arr 71 4 1 [.agg [.p (.str t1.Name), .p (.slc (List.map PV.str t1.Attrs)), .p (.slc (List.map encRow t1.Rows)), .mapo 15 1]]), (47, .arr 38 3 1 [.p (.agg [.int .u32 x16, .int .i64 t25, .int .i64 (-1)])]), (71, .arr 38 3 1 (List.map AV.p (List.map encCanonical o24))), (76, .arr 71 4 1 [.agg [.p (.str t1.Name), .p (.slc (List.map PV.str t1.Attrs)), .p (.slc (List.map encRow t1.Rows)), .mapo 15 1]]), (77, .arr 38 3 1 [.p (.agg [.int .u32 x16, .int .i64 t25, .int .i64 (-1)])])]⟩) (fun (o : ((List (Canonical × Bool))) ⊕ ((List (Canonical × Bool)))) => match o with | .inl o40 => tE ⟨Tryz.prog, 32, 74, X, [(5, .arr 71 4 1 [.agg [.p (.str t1.Name), .p (.slc (List.map PV.str t1.Attrs)), .p (.slc (List.map encRow t1.Rows)), .mapo 15 1]]), (15, .map 1 (List.map AV.p (encK encCanonical m23)) (List.map AV.p (encW PV.bool m23))), (32, .arr 38 3 1 (List.map AV.p (List.map encCanonical o13))), (42, .arr 71 4 1 [.agg [.p (.str t1.Name), .p (.slc (List.map PV.str t1.Attrs)), .p (.slc (List.map encRow t1.Rows)), .mapo 15 1]]), (47, .arr 38 3 1 [.p (.agg [.int .u32 x16, .int .i64 t25, .int .i64 (-1)])]), (71, .arr 38 3 1 (List.map AV.p (List.map encCanonical o24)))], i32, w33, D⟩ (.exit 0) ⟨[], [(5, .arr 71 4 1 [.agg [.p (.str t1.Name), .p (.slc (List.map PV.str t1.Attrs)), .p (.slc (List.map encRow t1.Rows)), .mapo 15 1]]), (15, .map 1 (List.map AV.p (encK encCanonical o40)) (List.map AV.p (encW PV.bool o40))), (32, .arr 38 3 1 (List.map AV.p (List.map encCanonical o13))), (42, .arr 71 4 1 [.agg [.p (.str t1.Name), .p (.slc (List.map PV.str t1.Attrs)), .p (.slc (List.map encRow t1.Rows)), .mapo 15 1]]), (47, .arr 38 3 1 [.p (.agg [.int .u32 x16, .int .i64 t25, .int .i64 (-1)])]), (71, .arr 38 3 1 (List.map AV.p (List.map encCanonical o24)))]⟩ | .inr o41 => tE ⟨Tryz.prog, 32, 74, X, [(5, .arr 71 4 1 [.agg [.p (.str t1.Name), .p (.slc (List.map PV.str t1.Attrs)), .p (.slc (List.map encRow t1.Rows)), .mapo 15 1]]), (15, .map 1 (List.map AV.p (encK encCanonical m23)) (List.map AV.p (encW PV.bool m23))), (32, .arr 38 3 1 (List.map AV.p (List.map encCanonical o13))), (42, .arr 71 4 1 [.agg [.p (.str t1.Name), .p (.slc (List.map PV.str t1.Attrs)), .p (.slc (List.map encRow t1.Rows)), .mapo 15 1]]), (47, .arr 38 3 1 [.p (.agg [.int .u32 x16, .int .i64 t25, .int .i64 (-1)])]), (71, .arr 38 3 1 (List.map AV.p (List.map encCanonical o24)))], i32, w33, D⟩ .ret ⟨[(4, .p (.bool false))], [(5, .arr 71 4 1 [.agg [.p (.str t1.Name), .p (.slc (List.map PV.str t1.Attrs)), .p (.slc (List.map encRow t1.Rows)), .mapo 15 1]]), (15, .map 1 (List.map AV.p (encK encCanonical o41)) (List.map AV.p (encW PV.bool o41))), (32, .arr 38 3 1 (List.map AV.p (List.map encCanonical o13))), (42, .arr 71 4 1 [.agg [.p (.str t1.Name), .p (.slc (List.map PV.str t1.Attrs)), .p (.slc (List.map encRow t1.Rows)), .mapo 15 1]]), (47, .arr 38 3 1 [.p (.agg [.int .u32 x16, .int .i64 t25, .int .i64 (-1)])]), (71, .arr 38 3 1 (List.map AV.p (List.map encCanonical o24)))]⟩) h39 ?_ ?_
 clear h h26 h26T h30 h31 h36 h37 h39
 intro s x h
 obtain ⟨m42, r43⟩ := s
 simp only [odmine_All_l158] at h
 dsimp only
 refine zs (zs (zr ?_))
 refine zU (zl (zn ?_))
 rcases zI h with ⟨h44, h⟩ | ⟨h44, h⟩
 refine zi (zk (zn ?_))
 obtain ⟨o45, h46, h⟩ := zB h
 refine zJ (fun (o : ((List (Canonical × Bool))) ⊕ ((List (Canonical × Bool)))) => match o with | .inl o47 => tE ⟨Tryz.prog, 32, 74, X, [(5, .arr 71 4 1 [.agg [.p (.str t1.Name), .p (.slc (List.map PV.str t1.Attrs)), .p (.slc (List.map encRow t1.Rows)), .mapo 15 1]]), (15, .map 1 (List.map AV.p (encK encCanonical m23)) (List.map AV.p (encW PV.bool m23))), (32, .arr 38 3 1 (List.map AV.p (List.map encCanonical o13))), (42, .arr 71 4 1 [.agg [.p (.str t1.Name), .p (.slc (List.map PV.str t1.Attrs)), .p (.slc (List.map encRow t1.Rows)), .mapo 15 1]]), (47, .arr 38 3 1 [.p (.agg [.int .u32 x16, .int .i64 t25, .int .i64 (-1)])]), (71, .arr 38 3 1 (List.map AV.p (List.map encCanonical o24)))], i32, w33, D⟩ .normal ⟨[(2, .loc 76 1 0 0), (3, .loc 77 1 0 0), (5, .p (.int .u32 r43))], [(5, .arr 71 4 1 [.agg [.p (.str t1.Name), .p (.slc (List.map PV.str t1.Attrs)), .p (.slc (List.map encRow t1.Rows)), .mapo 15 1]]), (15, .map 1 (List.map AV.p (encK encCanonical o47)) (List.map AV.p (encW PV.bool o47))), (32, .arr 38 3 1 (List.map AV.p (List.map encCanonical o13))), (42, .arr 71 4 1 [.agg [.p (.str t1.Name), .p (.slc (List.map PV.str t1.Attrs)), .p (.slc (List.map encRow t1.Rows)), .mapo 15 1]]), (47, .arr 38 3 1 [.p (.agg [.int .u32 x16, .int .i64 t25, .int .i64 (-1)])]), (71, .arr 38 3 1 (List.map AV.p (List.map encCanonical o24))), (76, .arr 71 4 1 [.agg [.p (.str t1.Name), .p (.slc (List.map PV.str t1.Attrs)), .p (.slc (List.map encRow t1.Rows)), .mapo 15 1]]), (77, .arr 38 3 1 [.p (.agg [.int .u32 x16, .int .i64 t25, .int .i64 (-1)])])]⟩ | .inr o48 => tE ⟨Tryz.prog, 32, 74, X, [(5, .arr 71 4 1 [.agg [.p (.str t1.Name), .p (.slc (List.map PV.str t1.Attrs)), .p (.slc (List.map encRow t1.Rows)), .mapo 15 1]]), (15, .map 1 (List.map AV.p (encK encCanonical m23)) (List.map AV.p (encW PV.bool m23))), (32, .arr 38 3 1 (List.map AV.p (List.map encCanonical o13))), (42, .arr 71 4 1 [.agg [.p (.str t1.Name), .p (.slc (List.map PV.str t1.Attrs)), .p (.slc (List.map encRow t1.Rows)), .mapo 15 1]]), (47, .arr 38 3 1 [.p (.agg [.int .u32 x16, .int .i64 t25, .int .i64 (-1)])]), (71, .arr 38 3 1 (List.map AV.p (List.map encCanonical o24)))], i32, w33, D⟩ .ret ⟨[(4, .p (.bool false))], [(5, .arr 71 4 1 [.agg [.p (.str t1.Name), .p (.slc (List.map PV.str t1.Attrs)), .p (.slc (List.map encRow t1.Rows)), .mapo 15 1]]), (15, .map 1 (List.map AV.p (encK encCanonical o48)) (List.map AV.p (encW PV.bool o48))), (32, .arr 38 3 1 (List.map AV.p (List.map encCanonical o13))), (42, .arr 71 4 1 [.agg [.p (.str t1.Name), .p (.slc (List.map PV.str t1.Attrs)), .p (.slc (List.map encRow t1.Rows)), .mapo 15 1]]), (47, .arr 38 3 1 [.p (.agg [.int .u32 x16, .int .i64 t25, .int .i64 (-1)])]), (71, .arr 38 3 1 (List.map AV.p (List.map encCanonical o24)))]⟩) o45 ?_ ?_
 replace h := h46
 clear h46
 refine zb (zs (zr ?_))
 refine zU ?_
 refine zM ⟨[(2, .loc 76 1 0 0), (3, .loc 77 1 0 0), (5, .p (.int .u32 r43)), (18, .agg [.p (.str t1.Name), .p (.slc (List.map PV.str t1.Attrs)), .p (.slc (List.map encRow t1.Rows)), .mapo 15 1]), (30, .p (.agg [.int .u32 (IntKind.u32.wrap ((BitVec.ofInt 32 x16 &&& ~~~ (BitVec.ofInt 32 (IntKind.u32.wrap ((BitVec.ofInt 32 r43 &&& (BitVec.ofInt 32 (IntKind.u32.wrap (0 - r43)))).toNat : Int)))).toNat : Int)), .int .i64 t25, .int .i64 (-1)]))], [(5, .arr 71 4 1 [.agg [.p (.str t1.Name), .p (.slc (List.map PV.str t1.Attrs)), .p (.slc (List.map encRow t1.Rows)), .mapo 15 1]]), (15, .map 1 (List.map AV.p (encK encCanonical m42)) (List.map AV.p (encW PV.bool m42))), (32, .arr 38 3 1 (List.map AV.p (List.map encCanonical o13))), (42, .arr 71 4 1 [.agg [.p (.str t1.Name), .p (.slc (List.map PV.str t1.Attrs)), .p (.slc (List.map encRow t1.Rows)), .mapo 15 1]]), (47, .arr 38 3 1 [.p (.agg [.int .u32 x16, .int .i64 t25, .int .i64 (-1)])]), (71, .arr 38 3 1 (List.map AV.p (List.map encCanonical o24))), (76, .arr 71 4 1 [.agg [.p (.str t1.Name), .p (.slc (List.map PV.str t1.Attrs)), .p (.slc (List.map encRow t1.Rows)), .mapo 15 1]]), (77, .arr 38 3 1 [.p (.agg [.int .u32 x16, .int .i64 t25, .int .i64 (-1)])])]⟩ ?_
 refine AL_inline (avs := [.agg [.p (.str t1.Name), .p (.slc (List.map PV.str t1.Attrs)), .p (.slc (List.map encRow t1.Rows)), .mapo 15 1], .p (.agg [.int .u32 (IntKind.u32.wrap ((BitVec.ofInt 32 x16 &&& ~~~ (BitVec.ofInt 32 (IntKind.u32.wrap ((BitVec.ofInt 32 r43 &&& (BitVec.ofInt 32 (IntKind.u32.wrap (0 - r43)))).toNat : Int)))).toNat : Int)), .int .i64 t25, .int .i64 (-1)])]) 134 rfl (guard_none rfl) rfl Tryz.func63 rfl Tryz.call63 Tryz.ntmps63 (by simp) (by simp only [go_sem, seval, h44]; all_goals rfl) ?_
 intro i49 w50
 show AWp _ _ _ ⟨[(0, .agg [.p (.str t1.Name), .p (.slc (List.map PV.str t1.Attrs)), .p (.slc (List.map encRow t1.Rows)), .mapo 15 1]), (1, .p (.agg [.int .u32 (IntKind.u32.wrap ((BitVec.ofInt 32 x16 &&& ~~~ (BitVec.ofInt 32 (IntKind.u32.wrap ((BitVec.ofInt 32 r43 &&& (BitVec.ofInt 32 (IntKind.u32.wrap (0 - r43)))).toNat : Int)))).toNat : Int)), .int .i64 t25, .int .i64 (-1)]))], [(5, .arr 71 4 1 [.agg [.p (.str t1.Name), .p (.slc (List.map PV.str t1.Attrs)), .p (.slc (List.map encRow t1.Rows)), .mapo 15 1]]), (15, .map 1 (List.map AV.p (encK encCanonical m42)) (List.map AV.p (encW PV.bool m42))), (32, .arr 38 3 1 (List.map AV.p (List.map encCanonical o13))), (42, .arr 71 4 1 [.agg [.p (.str t1.Name), .p (.slc (List.map PV.str t1.Attrs)), .p (.slc (List.map encRow t1.Rows)), .mapo 15 1]]), (47, .arr 38 3 1 [.p (.agg [.int .u32 x16, .int .i64 t25, .int .i64 (-1)])]), (71, .arr 38 3 1 (List.map AV.p (List.map encCanonical o24))), (76, .arr 71 4 1 [.agg [.p (.str t1.Name), .p (.slc (List.map PV.str t1.Attrs)), .p (.slc (List.map encRow t1.Rows)), .mapo 15 1]]), (77, .arr 38 3 1 [.p (.agg [.int .u32 x16, .int .i64 t25, .int .i64 (-1)])])]⟩
 refine zs (zr ?_)
 refine zU (zl (zn (zs (zr ?_))))
 refine zU (zl (zn (zs (zs (zr ?_)))))
 refine zU (zl (zn ?_))
 rcases zI h with ⟨h51, h⟩ | ⟨h51, h⟩
 refine zj (zk (zn (zs (zr ?_))))
 refine zU (zl (zn (zq ?_)))
 refine inlQ_ret (by simp only [Tryz.results63]; simp only [go_sem, seval, h44, h51]; exact rfl) ?_
 refine zl (zn ?_)
 rcases zI h with ⟨h52, h⟩ | ⟨h52, h⟩
 refine zi (zs (zr ?_))
 refine zU (zl (zn (zq (yr ?_))))
 cases h
 exact ⟨rfl, zE⟩
 refine zj (zk (yn ?_))
 cases h
 exact ⟨rfl, zE⟩
 have h51F := Bool.eq_false_iff.2 h51
 refine zi (zs (zr ?_))
 refine zU ?_
 obtain ⟨r53, h54, h⟩ := zB h
 refine zc (ordering_Satisfies_con t1 (Canonical.mk (IntKind.u32.wrap ((BitVec.ofInt 32 x16 &&& ~~~ (BitVec.ofInt 32 (IntKind.u32.wrap ((BitVec.ofInt 32 r43 &&& (BitVec.ofInt 32 (IntKind.u32.wrap (0 - r43)))).toNat : Int)))).toNat : Int)) t25 (-1)) _ h54) ?_
 refine zU (zl (zn (zr ?_)))
 refine zU (zl (zn (zs (zr ?_))))
 refine zU (zl (zn (zq ?_)))
 refine inlQ_ret (by simp only [Tryz.results63]; simp only [go_sem, seval, h44, h51F]; exact rfl) ?_
 refine zl (zn ?_)
 rcases zI h with ⟨h55, h⟩ | ⟨h55, h⟩
 refine zi (zs (zr ?_))
 refine zU (zl (zn (zq (yr ?_))))
 cases h
 exact ⟨rfl, zE⟩
 refine zj (zk (yn ?_))
 cases h
 exact ⟨rfl, zE⟩
 rcases o45 with m56 | r57
 try simp only at h
 refine zA (zn (zr ?_))
 refine zU (zl ?_)
 cases h
 exact ⟨rfl, zE⟩
 try simp only at h
 refine zA (zt ?_)
 cases h
 exact ⟨rfl, zE⟩
 refine zj (zx (ze ?_))
 cases h
 exact ⟨rfl, zE⟩
 rcases o38 with r58 | r59
 try simp only at h
 refine zA (yh (zn (zs (zr ?_))))
 refine zU (zl (zn (zq ?_)))
 refine inlQ_ret (by simp only [Tryz.results62]; simp only [go_sem, seval, h26T, h31, h36, h37]; exact rfl) ?_
 refine zU (zl ?_)
 cases h
 exact ⟨rfl, zE⟩
 try simp only at h
 refine zA (yr (zt ?_))
 refine inlQ_ret (by simp only [Tryz.results62]; simp only [go_sem, seval, h26T, h31, h36, h37]; exact rfl) ?_
 refine zU (zl ?_)
 cases h
 exact ⟨rfl, zE⟩
 have h37F := Bool.eq_false_iff.2 h37
 refine zi (zs (zr ?_))
 refine zU (zl (zn (zq (zt ?_))))
 refine inlQ_ret (by simp only [Tryz.results62]; simp only [go_sem, seval, h26T, h31, h36, h37F]; exact rfl) ?_
 refine zU (zl ?_)
 cases h
 exact ⟨rfl, zE⟩
 have h36F := Bool.eq_false_iff.2 h36
 refine zi (zs (zr ?_))
 refine zU ?_
 obtain ⟨r60, h61, h⟩ := zB h
 refine zc (ordering_Satisfies_con t1 (Canonical.mk x16 t25 (-1)) _ h61) ?_
 refine zU (zl (zn (zr ?_)))
 refine zU (zl (zn (zs (zr ?_))))
 refine zU (zl (zn (zq ?_)))
 refine inlQ_ret (by simp only [Tryz.results63]; simp only [go_sem, seval, h26T, h31, h36F]; exact rfl) ?_
 refine zU (zl (zn ?_))
 rcases zI h with ⟨h62, h⟩ | ⟨h62, h⟩
 refine zj (zk (zn (zs (zs (zr ?_)))))
 refine zU (zl (zn (zb ?_)))
 obtain ⟨o63, h64, h⟩ := zB h
 refine zO (fun (s : (List (Canonical × Bool)) × Int) => ⟨[(2, .loc 76 1 0 0), (3, .loc 77 1 0 0), (5, .p (.int .u32 s.2))], [(5, .arr 71 4 1 [.agg [.p (.str t1.Name), .p (.slc (List.map PV.str t1.Attrs)), .p (.slc (List.map encRow t1.Rows)), .mapo 15 1]]), (15, .map 1 (List.map AV.p (encK encCanonical s.1)) (List.map AV.p (encW PV.bool s.1))), (32, .arr 38 3 1 (List.map AV.p (List.map encCanonical o13))), (42, .arr 71 4 1 [.agg [.p (.str t1.Name), .p (.slc (List.map PV.str t1.Attrs)), .p (.slc (List.map encRow t1.Rows)), .mapo 15 1]]), (47, .arr 38 3 1 [.p (.agg [.int .u32 x16, .int .i64 t25, .int .i64 (-1)])]), (71, .arr 38 3 1 (List.map AV.p (List.map encCanonical o24))), (76, .arr 71 4 1 [.agg [.p (.str t1.Name), .p (.slc (List.map PV.str t1.Attrs)), .p (.slc (List.map encRow t1.Rows)), .mapo 15 1]]), (77, .arr 38 3 1 [.p (.agg [.int .u32 x16, .int .i64 t25, .int .i64 (-1)])])]⟩) (fun (o : ((List (Canonical × Bool))) ⊕ ((List (Canonical × Bool)))) => match o with | .inl o65 => tE ⟨Tryz.prog, 32, 74, X, [(5, .arr 71 4 1 [.agg [.p (.str t1.Name), .p (.slc (List.map PV.str t1.Attrs)), .p (.slc (List.map encRow t1.Rows)), .mapo 15 1]]), (15, .map 1 (List.map AV.p (encK encCanonical m23)) (List.map AV.p (encW PV.bool m23))), (32, .arr 38 3 1 (List.map AV.p (List.map encCanonical o13))), (42, .arr 71 4 1 [.agg [.p (.str t1.Name), .p (.slc (List.map PV.str t1.Attrs)), .p (.slc (List.map encRow t1.Rows)), .mapo 15 1]]), (47, .arr 38 3 1 [.p (.agg [.int .u32 x16, .int .i64 t25, .int .i64 (-1)])]), (71, .arr 38 3 1 (List.map AV.p (List.map encCanonical o24)))], i32, w33, D⟩ (.exit 0) ⟨[], [(5, .arr 71 4 1 [.agg [.p (.str t1.Name), .p (.slc (List.map PV.str t1.Attrs)), .p (.slc (List.map encRow t1.Rows)), .mapo 15 1]]), (15, .map 1 (List.map AV.p (encK encCanonical o65)) (List.map AV.p (encW PV.bool o65))), (32, .arr 38 3 1 (List.map AV.p (List.map encCanonical o13))), (42, .arr 71 4 1 [.agg [.p (.str t1.Name), .p (.slc (List.map PV.str t1.Attrs)), .p (.slc (List.map encRow t1.Rows)), .mapo 15 1]]), (47, .arr 38 3 1 [.p (.agg [.int .u32 x16, .int .i64 t25, .int .i64 (-1)])]), (71, .arr 38 3 1 (List.map AV.p (List.map encCanonical o24)))]⟩ | .inr o66 => tE ⟨Tryz.prog, 32, 74, X, [(5, .arr 71 4 1 [.agg [.p (.str t1.Name), .p (.slc (List.map PV.str t1.Attrs)), .p (.slc (List.map encRow t1.Rows)), .mapo 15 1]]), (15, .map 1 (List.map AV.p (encK encCanonical m23)) (List.map AV.p (encW PV.bool m23))), (32, .arr 38 3 1 (List.map AV.p (List.map encCanonical o13))), (42, .arr 71 4 1 [.agg [.p (.str t1.Name), .p (.slc (List.map PV.str t1.Attrs)), .p (.slc (List.map encRow t1.Rows)), .mapo 15 1]]), (47, .arr 38 3 1 [.p (.agg [.int .u32 x16, .int .i64 t25, .int .i64 (-1)])]), (71, .arr 38 3 1 (List.map AV.p (List.map encCanonical o24)))], i32, w33, D⟩ .ret ⟨[(4, .p (.bool false))], [(5, .arr 71 4 1 [.agg [.p (.str t1.Name), .p (.slc (List.map PV.str t1.Attrs)), .p (.slc (List.map encRow t1.Rows)), .mapo 15 1]]), (15, .map 1 (List.map AV.p (encK encCanonical o66)) (List.map AV.p (encW PV.bool o66))), (32, .arr 38 3 1 (List.map AV.p (List.map encCanonical o13))), (42, .arr 71 4 1 [.agg [.p (.str t1.Name), .p (.slc (List.map PV.str t1.Attrs)), .p (.slc (List.map encRow t1.Rows)), .mapo 15 1]]), (47, .arr 38 3 1 [.p (.agg [.int .u32 x16, .int .i64 t25, .int .i64 (-1)])]), (71, .arr 38 3 1 (List.map AV.p (List.map encCanonical o24)))]⟩) h64 ?_ ?_
 clear h h26 h26T h30 h31 h36 h36F h61 h62 h64
 intro s x h
 obtain ⟨m67, r68⟩ := s
 simp only [odmine_All_l159] at h
 dsimp only
 refine zs (zs (zr ?_))
 refine zU (zl (zn ?_))
 rcases zI h with ⟨h69, h⟩ | ⟨h69, h⟩
 refine zi (zk (zn ?_))
 obtain ⟨o70, h71, h⟩ := zB h
 refine zJ (fun (o : ((List (Canonical × Bool))) ⊕ ((List (Canonical × Bool)))) => match o with | .inl o72 => tE ⟨Tryz.prog, 32, 74, X, [(5, .arr 71 4 1 [.agg [.p (.str t1.Name), .p (.slc (List.map PV.str t1.Attrs)), .p (.slc (List.map encRow t1.Rows)), .mapo 15 1]]), (15, .map 1 (List.map AV.p (encK encCanonical m23)) (List.map AV.p (encW PV.bool m23))), (32, .arr 38 3 1 (List.map AV.p (List.map encCanonical o13))), (42, .arr 71 4 1 [.agg [.p (.str t1.Name), .p (.slc (List.map PV.str t1.Attrs)), .p (.slc (List.map encRow t1.Rows)), .mapo 15 1]]), (47, .arr 38 3 1 [.p (.agg [.int .u32 x16, .int .i64 t25, .int .i64 (-1)])]), (71, .arr 38 3 1 (List.map AV.p (List.map encCanonical o24)))], i32, w33, D⟩ .normal ⟨[(2, .loc 76 1 0 0), (3, .loc 77 1 0 0), (5, .p (.int .u32 r68))], [(5, .arr 71 4 1 [.agg [.p (.str t1.Name), .p (.slc (List.map PV.str t1.Attrs)), .p (.slc (List.map encRow t1.Rows)), .mapo 15 1]]), (15, .map 1 (List.map AV.p (encK encCanonical o72)) (List.map AV.p (encW PV.bool o72))), (32, .arr 38 3 1 (List.map AV.p (List.map encCanonical o13))), (42, .arr 71 4 1 [.agg [.p (.str t1.Name), .p (.slc (List.map PV.str t1.Attrs)), .p (.slc (List.map encRow t1.Rows)), .mapo 15 1]]), (47, .arr 38 3 1 [.p (.agg [.int .u32 x16, .int .i64 t25, .int .i64 (-1)])]), (71, .arr 38 3 1 (List.map AV.p (List.map encCanonical o24))), (76, .arr 71 4 1 [.agg [.p (.str t1.Name), .p (.slc (List.map PV.str t1.Attrs)), .p (.slc (List.map encRow t1.Rows)), .mapo 15 1]]), (77, .arr 38 3 1 [.p (.agg [.int .u32 x16, .int .i64 t25, .int .i64 (-1)])])]⟩ | .inr o73 => tE ⟨Tryz.prog, 32, 74, X, [(5, .arr 71 4 1 [.agg [.p (.str t1.Name), .p (.slc (List.map PV.str t1.Attrs)), .p (.slc (List.map encRow t1.Rows)), .mapo 15 1]]), (15, .map 1 (List.map AV.p (encK encCanonical m23)) (List.map AV.p (encW PV.bool m23))), (32, .arr 38 3 1 (List.map AV.p (List.map encCanonical o13))), (42, .arr 71 4 1 [.agg [.p (.str t1.Name), .p (.slc (List.map PV.str t1.Attrs)), .p (.slc (List.map encRow t1.Rows)), .mapo 15 1]]), (47, .arr 38 3 1 [.p (.agg [.int .u32 x16, .int .i64 t25, .int .i64 (-1)])]), (71, .arr 38 3 1 (List.map AV.p (List.map encCanonical o24)))], i32, w33, D⟩ .ret ⟨[(4, .p (.bool false))], [(5, .arr 71 4 1 [.agg [.p (.str t1.Name), .p (.slc (List.map PV.str t1.Attrs)), .p (.slc (List.map encRow t1.Rows)), .mapo 15 1]]), (15, .map 1 (List.map AV.p (encK encCanonical o73)) (List.map AV.p (encW PV.bool o73))), (32, .arr 38 3 1 (List.map AV.p (List.map encCanonical o13))), (42, .arr 71 4 1 [.agg [.p (.str t1.Name), .p (.slc (List.map PV.str t1.Attrs)), .p (.slc (List.map encRow t1.Rows)), .mapo 15 1]]), (47, .arr 38 3 1 [.p (.agg [.int .u32 x16, .int .i64 t25, .int .i64 (-1)])]), (71, .arr 38 3 1 (List.map AV.p (List.map encCanonical o24)))]⟩) o70 ?_ ?_
 replace h := h71
 clear h71
 refine zb (zs (zr ?_))
 refine zU ?_
 refine zM ⟨[(2, .loc 76 1 0 0), (3, .loc 77 1 0 0), (5, .p (.int .u32 r68)), (18, .agg [.p (.str t1.Name), .p (.slc (List.map PV.str t1.Attrs)), .p (.slc (List.map encRow t1.Rows)), .mapo 15 1]), (30, .p (.agg [.int .u32 (IntKind.u32.wrap ((BitVec.ofInt 32 x16 &&& ~~~ (BitVec.ofInt 32 (IntKind.u32.wrap ((BitVec.ofInt 32 r68 &&& (BitVec.ofInt 32 (IntKind.u32.wrap (0 - r68)))).toNat : Int)))).toNat : Int)), .int .i64 t25, .int .i64 (-1)]))], [(5, .arr 71 4 1 [.agg [.p (.str t1.Name), .p (.slc (List.map PV.str t1.Attrs)), .p (.slc (List.map encRow t1.Rows)), .mapo 15 1]]), (15, .map 1 (List.map AV.p (encK encCanonical m67)) (List.map AV.p (encW PV.bool m67))), (32, .arr 38 3 1 (List.map AV.p (List.map encCanonical o13))), (42, .arr 71 4 1 [.agg [.p (.str t1.Name), .p (.slc (List.map PV.str t1.Attrs)), .p (.slc (List.map encRow t1.Rows)), .mapo 15 1]]), (47, .arr 38 3 1 [.p (.agg [.int .u32 x16, .int .i64 t25, .int .i64 (-1)])]), (71, .arr 38 3 1 (List.map AV.p (List.map encCanonical o24))), (76, .arr 71 4 1 [.agg [.p (.str t1.Name), .p (.slc (List.map PV.str t1.Attrs)), .p (.slc (List.map encRow t1.Rows)), .mapo 15 1]]), (77, .arr 38 3 1 [.p (.agg [.int .u32 x16, .int .i64 t25, .int .i64 (-1)])])]⟩ ?_
 refine AL_inline (avs := [.agg [.p (.str t1.Name), .p (.slc (List.map PV.str t1.Attrs)), .p (.slc (List.map encRow t1.Rows)), .mapo 15 1], .p (.agg [.int .u32 (IntKind.u32.wrap ((BitVec.ofInt 32 x16 &&& ~~~ (BitVec.ofInt 32 (IntKind.u32.wrap ((BitVec.ofInt 32 r68 &&& (BitVec.ofInt 32 (IntKind.u32.wrap (0 - r68)))).toNat : Int)))).toNat : Int)), .int .i64 t25, .int .i64 (-1)])]) 162 rfl (guard_none rfl) rfl Tryz.func63 rfl Tryz.call63 Tryz.ntmps63 (by simp) (by simp only [go_sem, seval, h69]; all_goals rfl) ?_
 intro i74 w75
 show AWp _ _ _ ⟨[(0, .agg [.p (.str t1.Name), .p (.slc (List.map PV.str t1.Attrs)), .p (.slc (List.map encRow t1.Rows)), .mapo 15 1]), (1, .p (.agg [.int .u32 (IntKind.u32.wrap ((BitVec.ofInt 32 x16 &&& ~~~ (BitVec.ofInt 32 (IntKind.u32.wrap ((BitVec.ofInt 32 r68 &&& (BitVec.ofInt 32 (IntKind.u32.wrap (0 - r68)))).toNat : Int)))).toNat : Int)), .int .i64 t25, .int .i64 (-1)]))], [(5, .arr 71 4 1 [.agg [.p (.str t1.Name), .p (.slc (List.map PV.str t1.Attrs)), .p (.slc (List.map encRow t1.Rows)), .mapo 15 1]]), (15, .map 1 (List.map AV.p (encK encCanonical m67)) (List.map AV.p (encW PV.bool m67))), (32, .arr 38 3 1 (List.map AV.p (List.map encCanonical o13))), (42, .arr 71 4 1 [.agg [.p (.str t1.Name), .p (.slc (List.map PV.str t1.Attrs)), .p (.slc (List.map encRow t1.Rows)), .mapo 15 1]]), (47, .arr 38 3 1 [.p (.agg [.int .u32 x16, .int .i64 t25, .int .i64 (-1)])]), (71, .arr 38 3 1 (List.map AV.p (List.map encCanonical o24))), (76, .arr 71 4 1 [.agg [.p (.str t1.Name), .p (.slc (List.map PV.str t1.Attrs)), .p (.slc (List.map encRow t1.Rows)), .mapo 15 1]]), (77, .arr 38 3 1 [.p (.agg [.int .u32 x16, .int .i64 t25, .int .i64 (-1)])])]⟩
 refine zs (zr ?_)
 refine zU (zl (zn (zs (zr ?_))))
 refine zU (zl (zn (zs (zs (zr ?_)))))
 refine zU (zl (zn ?_))
 rcases zI h with ⟨h76, h⟩ | ⟨h76, h⟩
 refine zj (zk (zn (zs (zr ?_))))
 refine zU (zl (zn (zq ?_)))
 refine inlQ_ret (by simp only [Tryz.results63]; simp only [go_sem, seval, h69, h76]; exact rfl) ?_
 refine zl (zn ?_)
 rcases zI h with ⟨h77, h⟩ | ⟨h77, h⟩
 refine zi (zs (zr ?_))
 refine zU (zl (zn (zq (yr ?_))))
 cases h
 exact ⟨rfl, zE⟩
 refine zj (zk (yn ?_))
 cases h
 exact ⟨rfl, zE⟩
 have h76F := Bool.eq_false_iff.2 h76
 refine zi (zs (zr ?_))
 refine zU ?_
 obtain ⟨r78, h79, h⟩ := zB h
 refine zc (ordering_Satisfies_con t1 (Canonical.mk (IntKind.u32.wrap ((BitVec.ofInt 32 x16 &&& ~~~ (BitVec.ofInt 32 (IntKind.u32.wrap ((BitVec.ofInt 32 r68 &&& (BitVec.ofInt 32 (IntKind.u32.wrap (0 - r68)))).toNat : Int)))).toNat : Int)) t25 (-1)) _ h79) ?_
 refine zU (zl (zn (zr ?_)))
 refine zU (zl (zn (zs (zr ?_))))
 refine zU (zl (zn (zq ?_)))
 refine inlQ_ret (by simp only [Tryz.results63]; simp only [go_sem, seval, h69, h76F]; exact rfl) ?_
 refine zl (zn ?_)
 rcases zI h with ⟨h80, h⟩ | ⟨h80, h⟩
 refine zi (zs (zr ?_))
 refine zU (zl (zn (zq (yr ?_))))
 cases h
 exact ⟨rfl, zE⟩
 refine zj (zk (yn ?_))
 cases h
 exact ⟨rfl, zE⟩
 rcases o70 with m81 | r82
 try simp only at h
 refine zA (zn (zr ?_))
 refine zU (zl ?_)
 cases h
 exact ⟨rfl, zE⟩
 try simp only at h
 refine zA (zt ?_)
 cases h
 exact ⟨rfl, zE⟩
 refine zj (zx (ze ?_))
 cases h
 exact ⟨rfl, zE⟩
 rcases o63 with r83 | r84
 try simp only at h
 refine zA (yh (zn (zs (zr ?_))))
 refine zU (zl (zn (zq ?_)))
 refine inlQ_ret (by simp only [Tryz.results62]; simp only [go_sem, seval, h26T, h31, h36F, h62]; exact rfl) ?_
 refine zU (zl ?_)
 cases h
 exact ⟨rfl, zE⟩
 try simp only at h
 refine zA (yr (zt ?_))
 refine inlQ_ret (by simp only [Tryz.results62]; simp only [go_sem, seval, h26T, h31, h36F, h62]; exact rfl) ?_
 refine zU (zl ?_)
 cases h
 exact ⟨rfl, zE⟩
 have h62F := Bool.eq_false_iff.2 h62
 refine zi (zs (zr ?_))
 refine zU (zl (zn (zq (zt ?_))))
 refine inlQ_ret (by simp only [Tryz.results62]; simp only [go_sem, seval, h26T, h31, h36F, h62F]; exact rfl) ?_
 refine zU (zl ?_)
 cases h
 exact ⟨rfl, zE⟩
 refine zw 23 false ?_
 refine zh ?_
 refine zU (zl ?_)
 cases h
 exact ⟨rfl, zE⟩
 obtain ⟨m85, t86⟩ := o27
 try simp only at h
 refine zA (zn ?_)
 rcases zI h with ⟨h87, h⟩ | ⟨h87, h⟩
 refine zi (zr ?_)
 obtain ⟨h88, h⟩ := ite_some h
 refine zU (zl (yn (zn (zr ?_))))
 refine zU (zl ?_)
 cases h
 exact ⟨rfl, zE⟩
 refine zj (zk (yn (zn (zr ?_))))
 refine zU (zl ?_)
 cases h
 exact ⟨rfl, zE⟩
 have h26T := eq_false h26
 refine zj (zx (ze ?_))
 cases h
 exact ⟨rfl, zE⟩
 obtain ⟨o89, o90⟩ := o20
 try simp only at h
 refine zA (yh (zn (zs (zr ?_))))
 refine zU (zl (zn (zq ?_)))
 refine inlQ_ret (by simp only [Tryz.results34]; simp only [go_sem, seval, h15T]; exact rfl) ?_
 obtain ⟨h91, h⟩ := ite_some h
 refine zU (zl (zn (zr ?_)))
 refine zU ?_
 refine zM ⟨[(5, .loc 5 1 0 0), (22, .p (.slc (List.map (PV.int .u32) r7))), (23, .p (.int .i64 (r7.length : Int))), (24, .p (.int .i64 t14)), (33, .own 32 1 0 (o13.length + o89.length)), (34, .agg [.p (.str t1.Name), .p (.slc (List.map PV.str t1.Attrs)), .p (.slc (List.map encRow t1.Rows)), .mapo 15 1]), (35, .p (.int .u32 x16))], [(5, .arr 71 4 1 [.agg [.p (.str t1.Name), .p (.slc (List.map PV.str t1.Attrs)), .p (.slc (List.map encRow t1.Rows)), .mapo 15 1]]), (15, .map 1 (List.map AV.p (encK encCanonical o90)) (List.map AV.p (encW PV.bool o90))), (32, .arr 38 3 1 (List.map AV.p (List.map encCanonical (o13 ++ o89))))]⟩ ?_
 refine AL_inline (avs := [.agg [.p (.str t1.Name), .p (.slc (List.map PV.str t1.Attrs)), .p (.slc (List.map encRow t1.Rows)), .mapo 15 1], .p (.int .u32 x16)]) 190 rfl (guard_none rfl) rfl Tryz.func35 rfl Tryz.call35 Tryz.ntmps35 (by simp) (by simp only [go_sem, seval, h15T]; all_goals rfl) ?_
 intro i92 w93
 show AWp _ _ _ ⟨[(0, .agg [.p (.str t1.Name), .p (.slc (List.map PV.str t1.Attrs)), .p (.slc (List.map encRow t1.Rows)), .mapo 15 1]), (1, .p (.int .u32 x16))], [(5, .arr 71 4 1 [.agg [.p (.str t1.Name), .p (.slc (List.map PV.str t1.Attrs)), .p (.slc (List.map encRow t1.Rows)), .mapo 15 1]]), (15, .map 1 (List.map AV.p (encK encCanonical o90)) (List.map AV.p (encW PV.bool o90))), (32, .arr 38 3 1 (List.map AV.p (List.map encCanonical (o13 ++ o89))))]⟩
 refine zs (zr ?_)
 refine zU (zl (zn (zs (zr ?_))))
 refine zU (zl (zn (zs (zs (zr ?_)))))
 refine zU (zl (zn (zb ?_)))
 obtain ⟨o94, h95, h⟩ := zB h
 refine zO (fun (s : (List (Canonical × Bool)) × List Int × Int) => ⟨[(1, .p (.int .u32 x16)), (2, .loc 192 1 0 0), (5, .own 226 1 0 s.2.1.length), (16, .p (.int .i64 (t1.Attrs.length : Int))), (17, .p (.int .i64 s.2.2))], [(5, .arr 71 4 1 [.agg [.p (.str t1.Name), .p (.slc (List.map PV.str t1.Attrs)), .p (.slc (List.map encRow t1.Rows)), .mapo 15 1]]), (15, .map 1 (List.map AV.p (encK encCanonical s.1)) (List.map AV.p (encW PV.bool s.1))), (32, .arr 38 3 1 (List.map AV.p (List.map encCanonical (o13 ++ o89)))), (192, .arr 71 4 1 [.agg [.p (.str t1.Name), .p (.slc (List.map PV.str t1.Attrs)), .p (.slc (List.map encRow t1.Rows)), .mapo 15 1]]), (226, .arr 3 1 1 (List.map AV.p (List.map (PV.int .i64) s.2.1)))]⟩) (fun (o96 : (List (Canonical × Bool)) × List Int) => tE ⟨Tryz.prog, 68, 190, X, [(5, .arr 71 4 1 [.agg [.p (.str t1.Name), .p (.slc (List.map PV.str t1.Attrs)), .p (.slc (List.map encRow t1.Rows)), .mapo 15 1]]), (15, .map 1 (List.map AV.p (encK encCanonical o90)) (List.map AV.p (encW PV.bool o90))), (32, .arr 38 3 1 (List.map AV.p (List.map encCanonical (o13 ++ o89))))], i92, w93, D⟩ (.exit 0) ⟨[(1, .p (.int .u32 x16)), (2, .loc 192 1 0 0), (5, .own 226 1 0 o96.2.length)], [(5, .arr 71 4 1 [.agg [.p (.str t1.Name), .p (.slc (List.map PV.str t1.Attrs)), .p (.slc (List.map encRow t1.Rows)), .mapo 15 1]]), (15, .map 1 (List.map AV.p (encK encCanonical o96.1)) (List.map AV.p (encW PV.bool o96.1))), (32, .arr 38 3 1 (List.map AV.p (List.map encCanonical (o13 ++ o89)))), (192, .arr 71 4 1 [.agg [.p (.str t1.Name), .p (.slc (List.map PV.str t1.Attrs)), .p (.slc (List.map encRow t1.Rows)), .mapo 15 1]]), (226, .arr 3 1 1 (List.map AV.p (List.map (PV.int .i64) o96.2)))]⟩) h95 ?_ ?_
 clear h h15 h15T h17 h17a h17b h21 h91 h95
 intro s x h
 obtain ⟨m97, f98, t99⟩ := s
 simp only [odmine_All_l161] at h
 dsimp only
 refine zs (zr ?_)
 refine zU (zl (zn (zs ?_)))
 rcases zI h with ⟨h100, h⟩ | ⟨h100, h⟩
 have h100T := eq_true h100
 refine zi (zk (zn (zs (zb (zs (zr ?_))))))
 refine zU (zl (zn ?_))
 obtain ⟨o101, h102, h⟩ := zB h
 refine zJ (fun (o103 : (List (Canonical × Bool)) × Bool) => tE ⟨Tryz.prog, 68, 190, X, [(5, .arr 71 4 1 [.agg [.p (.str t1.Name), .p (.slc (List.map PV.str t1.Attrs)), .p (.slc (List.map encRow t1.Rows)), .mapo 15 1]]), (15, .map 1 (List.map AV.p (encK encCanonical o90)) (List.map AV.p (encW PV.bool o90))), (32, .arr 38 3 1 (List.map AV.p (List.map encCanonical (o13 ++ o89))))], i92, w93, D⟩ .normal ⟨[(1, .p (.int .u32 x16)), (2, .loc 192 1 0 0), (5, .own 226 1 0 f98.length), (6, .p (.int .i64 t99)), (16, .p (.int .i64 (t1.Attrs.length : Int))), (17, .p (.int .i64 t99)), (32, .p (.bool o103.2))], [(5, .arr 71 4 1 [.agg [.p (.str t1.Name), .p (.slc (List.map PV.str t1.Attrs)), .p (.slc (List.map encRow t1.Rows)), .mapo 15 1]]), (15, .map 1 (List.map AV.p (encK encCanonical o103.1)) (List.map AV.p (encW PV.bool o103.1))), (32, .arr 38 3 1 (List.map AV.p (List.map encCanonical (o13 ++ o89)))), (192, .arr 71 4 1 [.agg [.p (.str t1.Name), .p (.slc (List.map PV.str t1.Attrs)), .p (.slc (List.map encRow t1.Rows)), .mapo 15 1]]), (226, .arr 3 1 1 (List.map AV.p (List.map (PV.int .i64) f98)))]⟩) o101 ?_ ?_
 replace h := h102
 clear h102
 refine zr ?_
 obtain ⟨h104, h⟩ := ite_none h
 refine zU ?_
 rcases zI h with ⟨h105, h⟩ | ⟨h105, h⟩
 refine zw 25 true ?_
 refine zg ?_
 refine zg ?_
 refine zg ?_
 refine zg ?_
 refine zM ⟨[(1, .p (.int .u32 x16)), (2, .loc 192 1 0 0), (5, .own 226 1 0 f98.length), (6, .p (.int .i64 t99)), (16, .p (.int .i64 (t1.Attrs.length : Int))), (17, .p (.int .i64 t99)), (25, .p (.bool true)), (26, .agg [.p (.str t1.Name), .p (.slc (List.map PV.str t1.Attrs)), .p (.slc (List.map encRow t1.Rows)), .mapo 15 1]), (27, .p (.int .u32 x16)), (28, .p (.int .i64 t99)), (29, .p (.agg [.int .u32 x16, .int .i64 t99, .int .i64 (-1)]))], [(5, .arr 71 4 1 [.agg [.p (.str t1.Name), .p (.slc (List.map PV.str t1.Attrs)), .p (.slc (List.map encRow t1.Rows)), .mapo 15 1]]), (15, .map 1 (List.map AV.p (encK encCanonical m97)) (List.map AV.p (encW PV.bool m97))), (32, .arr 38 3 1 (List.map AV.p (List.map encCanonical (o13 ++ o89)))), (192, .arr 71 4 1 [.agg [.p (.str t1.Name), .p (.slc (List.map PV.str t1.Attrs)), .p (.slc (List.map encRow t1.Rows)), .mapo 15 1]]), (226, .arr 3 1 1 (List.map AV.p (List.map (PV.int .i64) f98)))]⟩ ?_
 refine AL_inline (avs := [.agg [.p (.str t1.Name), .p (.slc (List.map PV.str t1.Attrs)), .p (.slc (List.map encRow t1.Rows)), .mapo 15 1], .p (.agg [.int .u32 x16, .int .i64 t99, .int .i64 (-1)])]) 258 rfl (guard_true' rfl rfl (by exact rfl) (by exact rfl)) rfl Tryz.func63 rfl Tryz.call63 Tryz.ntmps63 (by simp) (by simp only [go_sem, seval, h100T, h105]; all_goals rfl) ?_
 intro i106 w107
 show AWp _ _ _ ⟨[(0, .agg [.p (.str t1.Name), .p (.slc (List.map PV.str t1.Attrs)), .p (.slc (List.map encRow t1.Rows)), .mapo 15 1]), (1, .p (.agg [.int .u32 x16, .int .i64 t99, .int .i64 (-1)]))], [(5, .arr 71 4 1 [.agg [.p (.str t1.Name), .p (.slc (List.map PV.str t1.Attrs)), .p (.slc (List.map encRow t1.Rows)), .mapo 15 1]]), (15, .map 1 (List.map AV.p (encK encCanonical m97)) (List.map AV.p (encW PV.bool m97))), (32, .arr 38 3 1 (List.map AV.p (List.map encCanonical (o13 ++ o89)))), (192, .arr 71 4 1 [.agg [.p (.str t1.Name), .p (.slc (List.map PV.str t1.Attrs)), .p (.slc (List.map encRow t1.Rows)), .mapo 15 1]]), (226, .arr 3 1 1 (List.map AV.p (List.map (PV.int .i64) f98)))]⟩
 refine zs (zr ?_)
 refine zU (zl (zn (zs (zr ?_))))
 refine zU (zl (zn (zs (zs (zr ?_)))))
 refine zU (zl (zn ?_))
 rcases zI h with ⟨h108, h⟩ | ⟨h108, h⟩
 replace h := h.symm
 refine zj (zk (zn (zs (zr ?_))))
 refine zU (zl (zn (zq ?_)))
 refine inlQ_ret (by simp only [Tryz.results63]; simp only [go_sem, seval, h100T, h105, h108]; exact rfl) ?_
 refine zg ?_
 refine zU (zl ?_)
 cases h
 exact ⟨rfl, zE⟩
 have h108F := Bool.eq_false_iff.2 h108
 refine zi (zs (zr ?_))
 refine zU ?_
 obtain ⟨r109, h110, h⟩ := zB h
 replace h := h.symm
 refine zc (ordering_Satisfies_con t1 (Canonical.mk x16 t99 (-1)) _ h110) ?_
 refine zU (zl (zn (zr ?_)))
 refine zU (zl (zn (zs (zr ?_))))
 refine zU (zl (zn (zq ?_)))
 refine inlQ_ret (by simp only [Tryz.results63]; simp only [go_sem, seval, h100T, h105, h108F]; exact rfl) ?_
 refine zg ?_
 refine zU (zl ?_)
 cases h
 exact ⟨rfl, zE⟩
 refine zw 25 false ?_
 refine zh ?_
 refine zU (zl ?_)
 cases h
 exact ⟨rfl, zE⟩
 obtain ⟨m111, t112⟩ := o101
 try simp only at h
 refine zA (zn ?_)
 rcases zI h with ⟨h113, h⟩ | ⟨h113, h⟩
 refine zi (zr ?_)
 obtain ⟨h114, h⟩ := ite_some h
 refine zU (zl (yn (zn (zr ?_))))
 refine zU (zl ?_)
 cases h
 exact ⟨rfl, zE⟩
 refine zj (zk (yn (zn (zr ?_))))
 refine zU (zl ?_)
 cases h
 exact ⟨rfl, zE⟩
 have h100T := eq_false h100
 refine zj (zx (ze ?_))
 cases h
 exact ⟨rfl, zE⟩
 obtain ⟨m115, f116⟩ := o94
 try simp only at h
 refine zA (yh (zn (zs (zr ?_))))
 refine zU (zl (zn (zs (zs (zr ?_)))))
 refine zU (zl (zn (zb ?_)))
 obtain ⟨o117, h118, h⟩ := zB h
 refine zO (fun (s : (List (Canonical × Bool)) × List Canonical × Int) => ⟨[(1, .p (.int .u32 x16)), (2, .loc 192 1 0 0), (5, .own 226 1 0 f116.length), (7, .own 254 1 0 s.2.1.length), (38, .own 226 1 0 f116.length), (39, .p (.int .i64 ((f116.length : Nat) : Int))), (40, .p (.int .i64 s.2.2))], [(5, .arr 71 4 1 [.agg [.p (.str t1.Name), .p (.slc (List.map PV.str t1.Attrs)), .p (.slc (List.map encRow t1.Rows)), .mapo 15 1]]), (15, .map 1 (List.map AV.p (encK encCanonical s.1)) (List.map AV.p (encW PV.bool s.1))), (32, .arr 38 3 1 (List.map AV.p (List.map encCanonical (o13 ++ o89)))), (192, .arr 71 4 1 [.agg [.p (.str t1.Name), .p (.slc (List.map PV.str t1.Attrs)), .p (.slc (List.map encRow t1.Rows)), .mapo 15 1]]), (226, .arr 3 1 1 (List.map AV.p (List.map (PV.int .i64) f116))), (254, .arr 38 3 1 (List.map AV.p (List.map encCanonical s.2.1)))]⟩) (fun (o119 : List Canonical × (List (Canonical × Bool))) => tE ⟨Tryz.prog, 68, 190, X, [(5, .arr 71 4 1 [.agg [.p (.str t1.Name), .p (.slc (List.map PV.str t1.Attrs)), .p (.slc (List.map encRow t1.Rows)), .mapo 15 1]]), (15, .map 1 (List.map AV.p (encK encCanonical o90)) (List.map AV.p (encW PV.bool o90))), (32, .arr 38 3 1 (List.map AV.p (List.map encCanonical (o13 ++ o89))))], i92, w93, D⟩ (.exit 2) ⟨[(7, .own 254 1 0 o119.1.length)], [(5, .arr 71 4 1 [.agg [.p (.str t1.Name), .p (.slc (List.map PV.str t1.Attrs)), .p (.slc (List.map encRow t1.Rows)), .mapo 15 1]]), (15, .map 1 (List.map AV.p (encK encCanonical o119.2)) (List.map AV.p (encW PV.bool o119.2))), (32, .arr 38 3 1 (List.map AV.p (List.map encCanonical (o13 ++ o89)))), (254, .arr 38 3 1 (List.map AV.p (List.map encCanonical o119.1)))]⟩) h118 ?_ ?_
 clear h h15 h15T h17 h17a h17b h21 h91 h95 h118
 intro s x h
 obtain ⟨m120, o121, t122⟩ := s
 simp only [odmine_All_l201] at h
 dsimp only
 refine zs (zr ?_)
 refine zU (zl (zn (zs ?_)))
 rcases zI h with ⟨h123, h⟩ | ⟨h123, h⟩
 refine zi (zk (zn (zs (zb (zs (zr ?_))))))
 obtain ⟨x124, h125, h125a, h125b, h⟩ := zX h
 refine zU (zl (zn (zs (zr ?_))))
 obtain ⟨h126, h⟩ := ite_some h
 obtain ⟨h127, h⟩ := ite_some h
 refine zU (zl (zn (zb ?_)))
 obtain ⟨o128, h129, h⟩ := zB h
 refine zO (fun (s : (List (Canonical × Bool)) × List Canonical × Int) => ⟨[(1, .p (.int .u32 x16)), (2, .loc 192 1 0 0), (5, .own 226 1 0 f116.length), (7, .own 254 1 0 s.2.1.length), (9, .p (.int .i64 x124)), (38, .own 226 1 0 f116.length), (39, .p (.int .i64 ((f116.length : Nat) : Int))), (40, .p (.int .i64 t122)), (48, .own 226 1 (IntKind.i64.wrap (t122 + 1)).toNat (f116.length - (IntKind.i64.wrap (t122 + 1)).toNat)), (49, .p (.int .i64 (((f116.length - (IntKind.i64.wrap (t122 + 1)).toNat) : Nat) : Int))), (50, .p (.int .i64 s.2.2))], [(5, .arr 71 4 1 [.agg [.p (.str t1.Name), .p (.slc (List.map PV.str t1.Attrs)), .p (.slc (List.map encRow t1.Rows)), .mapo 15 1]]), (15, .map 1 (List.map AV.p (encK encCanonical s.1)) (List.map AV.p (encW PV.bool s.1))), (32, .arr 38 3 1 (List.map AV.p (List.map encCanonical (o13 ++ o89)))), (192, .arr 71 4 1 [.agg [.p (.str t1.Name), .p (.slc (List.map PV.str t1.Attrs)), .p (.slc (List.map encRow t1.Rows)), .mapo 15 1]]), (226, .arr 3 1 1 (List.map AV.p (List.map (PV.int .i64) f116))), (254, .arr 38 3 1 (List.map AV.p (List.map encCanonical s.2.1)))]⟩) (fun (o130 : (List (Canonical × Bool)) × List Canonical) => tE ⟨Tryz.prog, 68, 190, X, [(5, .arr 71 4 1 [.agg [.p (.str t1.Name), .p (.slc (List.map PV.str t1.Attrs)), .p (.slc (List.map encRow t1.Rows)), .mapo 15 1]]), (15, .map 1 (List.map AV.p (encK encCanonical o90)) (List.map AV.p (encW PV.bool o90))), (32, .arr 38 3 1 (List.map AV.p (List.map encCanonical (o13 ++ o89))))], i92, w93, D⟩ (.exit 4) ⟨[(1, .p (.int .u32 x16)), (2, .loc 192 1 0 0), (5, .own 226 1 0 f116.length), (7, .own 254 1 0 o130.2.length), (38, .own 226 1 0 f116.length), (39, .p (.int .i64 ((f116.length : Nat) : Int))), (40, .p (.int .i64 t122))], [(5, .arr 71 4 1 [.agg [.p (.str t1.Name), .p (.slc (List.map PV.str t1.Attrs)), .p (.slc (List.map encRow t1.Rows)), .mapo 15 1]]), (15, .map 1 (List.map AV.p (encK encCanonical o130.1)) (List.map AV.p (encW PV.bool o130.1))), (32, .arr 38 3 1 (List.map AV.p (List.map encCanonical (o13 ++ o89)))), (192, .arr 71 4 1 [.agg [.p (.str t1.Name), .p (.slc (List.map PV.str t1.Attrs)), .p (.slc (List.map encRow t1.Rows)), .mapo 15 1]]), (226, .arr 3 1 1 (List.map AV.p (List.map (PV.int .i64) f116))), (254, .arr 38 3 1 (List.map AV.p (List.map encCanonical o130.2)))]⟩) h129 ?_ ?_
 clear h h123 h125 h125a h125b h126 h127 h129
 intro s x h
 obtain ⟨m131, o132, t133⟩ := s
 simp only [odmine_All_l200] at h
 dsimp only
 refine zs (zr ?_)
 refine zU (zl (zn (zs ?_)))
 rcases zI h with ⟨h134, h⟩ | ⟨h134, h⟩
 have h134T := eq_true h134
 refine zi (zk (zn (zs (zb (zs (zr ?_))))))
 obtain ⟨x135, h136, h136a, h136b, h⟩ := zX h
 obtain ⟨h137, h137n⟩ := part_get h136
 have h137N := eq_true (part_lt h137n h136a)
 refine zU (zl (zn (zs (zr ?_))))
 refine zU (zl (zn ?_))
 obtain ⟨o138, h139, h⟩ := zB h
 refine zJ (fun (o140 : (List (Canonical × Bool)) × Bool) => tE ⟨Tryz.prog, 68, 190, X, [(5, .arr 71 4 1 [.agg [.p (.str t1.Name), .p (.slc (List.map PV.str t1.Attrs)), .p (.slc (List.map encRow t1.Rows)), .mapo 15 1]]), (15, .map 1 (List.map AV.p (encK encCanonical o90)) (List.map AV.p (encW PV.bool o90))), (32, .arr 38 3 1 (List.map AV.p (List.map encCanonical (o13 ++ o89))))], i92, w93, D⟩ .normal ⟨[(1, .p (.int .u32 x16)), (2, .loc 192 1 0 0), (5, .own 226 1 0 f116.length), (7, .own 254 1 0 o132.length), (9, .p (.int .i64 x124)), (12, .loc 202 1 0 0), (38, .own 226 1 0 f116.length), (39, .p (.int .i64 ((f116.length : Nat) : Int))), (40, .p (.int .i64 t122)), (48, .own 226 1 (IntKind.i64.wrap (t122 + 1)).toNat (f116.length - (IntKind.i64.wrap (t122 + 1)).toNat)), (49, .p (.int .i64 (((f116.length - (IntKind.i64.wrap (t122 + 1)).toNat) : Nat) : Int))), (50, .p (.int .i64 t133)), (60, .p (.bool o140.2))], [(5, .arr 71 4 1 [.agg [.p (.str t1.Name), .p (.slc (List.map PV.str t1.Attrs)), .p (.slc (List.map encRow t1.Rows)), .mapo 15 1]]), (15, .map 1 (List.map AV.p (encK encCanonical o140.1)) (List.map AV.p (encW PV.bool o140.1))), (32, .arr 38 3 1 (List.map AV.p (List.map encCanonical (o13 ++ o89)))), (192, .arr 71 4 1 [.agg [.p (.str t1.Name), .p (.slc (List.map PV.str t1.Attrs)), .p (.slc (List.map encRow t1.Rows)), .mapo 15 1]]), (202, .arr 38 3 1 [.p (.agg [.int .u32 x16, .int .i64 x124, .int .i64 x135])]), (226, .arr 3 1 1 (List.map AV.p (List.map (PV.int .i64) f116))), (254, .arr 38 3 1 (List.map AV.p (List.map encCanonical o132)))]⟩) o138 ?_ ?_
 replace h := h139
 clear h139
 refine zr ?_
 refine zU ?_
 refine zM ⟨[(1, .p (.int .u32 x16)), (2, .loc 192 1 0 0), (5, .own 226 1 0 f116.length), (7, .own 254 1 0 o132.length), (9, .p (.int .i64 x124)), (12, .loc 202 1 0 0), (38, .own 226 1 0 f116.length), (39, .p (.int .i64 ((f116.length : Nat) : Int))), (40, .p (.int .i64 t122)), (48, .own 226 1 (IntKind.i64.wrap (t122 + 1)).toNat (f116.length - (IntKind.i64.wrap (t122 + 1)).toNat)), (49, .p (.int .i64 (((f116.length - (IntKind.i64.wrap (t122 + 1)).toNat) : Nat) : Int))), (50, .p (.int .i64 t133)), (58, .agg [.p (.str t1.Name), .p (.slc (List.map PV.str t1.Attrs)), .p (.slc (List.map encRow t1.Rows)), .mapo 15 1]), (59, .p (.agg [.int .u32 x16, .int .i64 x124, .int .i64 x135]))], [(5, .arr 71 4 1 [.agg [.p (.str t1.Name), .p (.slc (List.map PV.str t1.Attrs)), .p (.slc (List.map encRow t1.Rows)), .mapo 15 1]]), (15, .map 1 (List.map AV.p (encK encCanonical m131)) (List.map AV.p (encW PV.bool m131))), (32, .arr 38 3 1 (List.map AV.p (List.map encCanonical (o13 ++ o89)))), (192, .arr 71 4 1 [.agg [.p (.str t1.Name), .p (.slc (List.map PV.str t1.Attrs)), .p (.slc (List.map encRow t1.Rows)), .mapo 15 1]]), (202, .arr 38 3 1 [.p (.agg [.int .u32 x16, .int .i64 x124, .int .i64 x135])]), (226, .arr 3 1 1 (List.map AV.p (List.map (PV.int .i64) f116))), (254, .arr 38 3 1 (List.map AV.p (List.map encCanonical o132)))]⟩ ?_
 refine AL_inline (avs := [.agg [.p (.str t1.Name), .p (.slc (List.map PV.str t1.Attrs)), .p (.slc (List.map encRow t1.Rows)), .mapo 15 1], .p (.agg [.int .u32 x16, .int .i64 x124, .int .i64 x135])]) 286 rfl (guard_none rfl) rfl Tryz.func62 rfl Tryz.call62 Tryz.ntmps62 (by simp) (by simp only [go_sem, seval, h134T]; all_goals rfl) ?_
 intro i141 w142
 show AWp _ _ _ ⟨[(0, .agg [.p (.str t1.Name), .p (.slc (List.map PV.str t1.Attrs)), .p (.slc (List.map encRow t1.Rows)), .mapo 15 1]), (1, .p (.agg [.int .u32 x16, .int .i64 x124, .int .i64 x135]))], [(5, .arr 71 4 1 [.agg [.p (.str t1.Name), .p (.slc (List.map PV.str t1.Attrs)), .p (.slc (List.map encRow t1.Rows)), .mapo 15 1]]), (15, .map 1 (List.map AV.p (encK encCanonical m131)) (List.map AV.p (encW PV.bool m131))), (32, .arr 38 3 1 (List.map AV.p (List.map encCanonical (o13 ++ o89)))), (192, .arr 71 4 1 [.agg [.p (.str t1.Name), .p (.slc (List.map PV.str t1.Attrs)), .p (.slc (List.map encRow t1.Rows)), .mapo 15 1]]), (202, .arr 38 3 1 [.p (.agg [.int .u32 x16, .int .i64 x124, .int .i64 x135])]), (226, .arr 3 1 1 (List.map AV.p (List.map (PV.int .i64) f116))), (254, .arr 38 3 1 (List.map AV.p (List.map encCanonical o132)))]⟩
 refine zs (zr ?_)
 refine zU (zl (zn (zs (zs (zr ?_)))))
 refine zU ?_
 refine zM ⟨[(2, .loc 288 1 0 0), (3, .loc 289 1 0 0), (6, .agg [.p (.str t1.Name), .p (.slc (List.map PV.str t1.Attrs)), .p (.slc (List.map encRow t1.Rows)), .mapo 15 1]), (7, .p (.agg [.int .u32 x16, .int .i64 x124, .int .i64 x135]))], [(5, .arr 71 4 1 [.agg [.p (.str t1.Name), .p (.slc (List.map PV.str t1.Attrs)), .p (.slc (List.map encRow t1.Rows)), .mapo 15 1]]), (15, .map 1 (List.map AV.p (encK encCanonical m131)) (List.map AV.p (encW PV.bool m131))), (32, .arr 38 3 1 (List.map AV.p (List.map encCanonical (o13 ++ o89)))), (192, .arr 71 4 1 [.agg [.p (.str t1.Name), .p (.slc (List.map PV.str t1.Attrs)), .p (.slc (List.map encRow t1.Rows)), .mapo 15 1]]), (202, .arr 38 3 1 [.p (.agg [.int .u32 x16, .int .i64 x124, .int .i64 x135])]), (226, .arr 3 1 1 (List.map AV.p (List.map (PV.int .i64) f116))), (254, .arr 38 3 1 (List.map AV.p (List.map encCanonical o132))), (288, .arr 71 4 1 [.agg [.p (.str t1.Name), .p (.slc (List.map PV.str t1.Attrs)), .p (.slc (List.map encRow t1.Rows)), .mapo 15 1]]), (289, .arr 38 3 1 [.p (.agg [.int .u32 x16, .int .i64 x124, .int .i64 x135])])]⟩ ?_
 refine AL_inline (avs := [.agg [.p (.str t1.Name), .p (.slc (List.map PV.str t1.Attrs)), .p (.slc (List.map encRow t1.Rows)), .mapo 15 1], .p (.agg [.int .u32 x16, .int .i64 x124, .int .i64 x135])]) 318 rfl (guard_none rfl) rfl Tryz.func63 rfl Tryz.call63 Tryz.ntmps63 (by simp) (by simp only [go_sem, seval, h134T]; all_goals rfl) ?_
 intro i143 w144
 show AWp _ _ _ ⟨[(0, .agg [.p (.str t1.Name), .p (.slc (List.map PV.str t1.Attrs)), .p (.slc (List.map encRow t1.Rows)), .mapo 15 1]), (1, .p (.agg [.int .u32 x16, .int .i64 x124, .int .i64 x135]))], [(5, .arr 71 4 1 [.agg [.p (.str t1.Name), .p (.slc (List.map PV.str t1.Attrs)), .p (.slc (List.map encRow t1.Rows)), .mapo 15 1]]), (15, .map 1 (List.map AV.p (encK encCanonical m131)) (List.map AV.p (encW PV.bool m131))), (32, .arr 38 3 1 (List.map AV.p (List.map encCanonical (o13 ++ o89)))), (192, .arr 71 4 1 [.agg [.p (.str t1.Name), .p (.slc (List.map PV.str t1.Attrs)), .p (.slc (List.map encRow t1.Rows)), .mapo 15 1]]), (202, .arr 38 3 1 [.p (.agg [.int .u32 x16, .int .i64 x124, .int .i64 x135])]), (226, .arr 3 1 1 (List.map AV.p (List.map (PV.int .i64) f116))), (254, .arr 38 3 1 (List.map AV.p (List.map encCanonical o132))), (288, .arr 71 4 1 [.agg [.p (.str t1.Name), .p (.slc (List.map PV.str t1.Attrs)), .p (.slc (List.map encRow t1.Rows)), .mapo 15 1]]), (289, .arr 38 3 1 [.p (.agg [.int .u32 x16, .int .i64 x124, .int .i64 x135])])]⟩
 refine zs (zr ?_)
 refine zU (zl (zn (zs (zr ?_))))
 refine zU (zl (zn (zs (zs (zr ?_)))))
 refine zU (zl (zn ?_))
 rcases zI h with ⟨h145, h⟩ | ⟨h145, h⟩
 refine zj (zk (zn (zs (zr ?_))))
 refine zU (zl (zn (zq ?_)))
 refine inlQ_ret (by simp only [Tryz.results63]; simp only [go_sem, seval, h134T, h145]; exact rfl) ?_
 refine zU (zl (zn ?_))
 rcases zI h with ⟨h146, h⟩ | ⟨h146, h⟩
 refine zj (zk (zn (zs (zs (zr ?_)))))
 refine zU (zl (zn (zb ?_)))
 obtain ⟨o147, h148, h⟩ := zB h
 refine zO (fun (s : (List (Canonical × Bool)) × Int) => ⟨[(2, .loc 288 1 0 0), (3, .loc 289 1 0 0), (5, .p (.int .u32 s.2))], [(5, .arr 71 4 1 [.agg [.p (.str t1.Name), .p (.slc (List.map PV.str t1.Attrs)), .p (.slc (List.map encRow t1.Rows)), .mapo 15 1]]), (15, .map 1 (List.map AV.p (encK encCanonical s.1)) (List.map AV.p (encW PV.bool s.1))), (32, .arr 38 3 1 (List.map AV.p (List.map encCanonical (o13 ++ o89)))), (192, .arr 71 4 1 [.agg [.p (.str t1.Name), .p (.slc (List.map PV.str t1.Attrs)), .p (.slc (List.map encRow t1.Rows)), .mapo 15 1]]), (202, .arr 38 3 1 [.p (.agg [.int .u32 x16, .int .i64 x124, .int .i64 x135])]), (226, .arr 3 1 1 (List.map AV.p (List.map (PV.int .i64) f116))), (254, .arr 38 3 1 (List.map AV.p (List.map encCanonical o132))), (288, .arr 71 4 1 [.agg [.p (.str t1.Name), .p (.slc (List.map PV.str t1.Attrs)), .p (.slc (List.map encRow t1.Rows)), .mapo 15 1]]), (289, .arr 38 3 1 [.p (.agg [.int .u32 x16, .int .i64 x124, .int .i64 x135])])]⟩) (fun (o : ((List (Canonical × Bool))) ⊕ ((List (Canonical × Bool)))) => match o with | .inl o149 => tE ⟨Tryz.prog, 32, 286, X, [(5, .arr 71 4 1 [.agg [.p (.str t1.Name), .p (.slc (List.map PV.str t1.Attrs)), .p (.slc (List.map encRow t1.Rows)), .mapo 15 1]]), (15, .map 1 (List.map AV.p (encK encCanonical m131)) (List.map AV.p (encW PV.bool m131))), (32, .arr 38 3 1 (List.map AV.p (List.map encCanonical (o13 ++ o89)))), (192, .arr 71 4 1 [.agg [.p (.str t1.Name), .p (.slc (List.map PV.str t1.Attrs)), .p (.slc (List.map encRow t1.Rows)), .mapo 15 1]]), (202, .arr 38 3 1 [.p (.agg [.int .u32 x16, .int .i64 x124, .int .i64 x135])]), (226, .arr 3 1 1 (List.map AV.p (List.map (PV.int .i64) f116))), (254, .arr 38 3 1 (List.map AV.p (List.map encCanonical o132)))], i141, w142, D⟩ (.exit 0) ⟨[], [(5, .arr 71 4 1 [.agg [.p (.str t1.Name), .p (.slc (List.map PV.str t1.Attrs)), .p (.slc (List.map encRow t1.Rows)), .mapo 15 1]]), (15, .map 1 (List.map AV.p (encK encCanonical o149)) (List.map AV.p (encW PV.bool o149))), (32, .arr 38 3 1 (List.map AV.p (List.map encCanonical (o13 ++ o89)))), (192, .arr 71 4 1 [.agg [.p (.str t1.Name), .p (.slc (List.map PV.str t1.Attrs)), .p (.slc (List.map encRow t1.Rows)), .mapo 15 1]]), (202, .arr 38 3 1 [.p (.agg [.int .u32 x16, .int .i64 x124, .int .i64 x135])]), (226, .arr 3 1 1 (List.map AV.p (List.map (PV.int .i64) f116))), (254, .arr 38 3 1 (List.map AV.p (List.map encCanonical o132)))]⟩ | .inr o150 => tE ⟨Tryz.prog, 32, 286, X, [(5, .arr 71 4 1 [.agg [.p (.str t1.Name), .p (.slc (List.map PV.str t1.Attrs)), .p (.slc (List.map encRow t1.Rows)), .mapo 15 1]]), (15, .map 1 (List.map AV.p (encK encCanonical m131)) (List.map AV.p (encW PV.bool m131))), (32, .arr 38 3 1 (List.map AV.p (List.map encCanonical (o13 ++ o89)))), (192, .arr 71 4 1 [.agg [.p (.str t1.Name), .p (.slc (List.map PV.str t1.Attrs)), .p (.slc (List.map encRow t1.Rows)), .mapo 15 1]]), (202, .arr 38 3 1 [.p (.agg [.int .u32 x16, .int .i64 x124, .int .i64 x135])]), (226, .arr 3 1 1 (List.map AV.p (List.map (PV.int .i64) f116))), (254, .arr 38 3 1 (List.map AV.p (List.map encCanonical o132)))], i141, w142, D⟩ .ret ⟨[(4, .p (.bool false))], [(5, .arr 71 4 1 [.agg [.p (.str t1.Name), .p (.slc (List.map PV.str t1.Attrs)), .p (.slc (List.map encRow t1.Rows)), .mapo 15 1]]), (15, .map 1 (List.map AV.p (encK encCanonical o150)) (List.map AV.p (encW PV.bool o150))), (32, .arr 38 3 1 (List.map AV.p (List.map encCanonical (o13 ++ o89)))), (192, .arr 71 4 1 [.agg [.p (.str t1.Name), .p (.slc (List.map PV.str t1.Attrs)), .p (.slc (List.map encRow t1.Rows)), .mapo 15 1]]), (202, .arr 38 3 1 [.p (.agg [.int .u32 x16, .int .i64 x124, .int .i64 x135])]), (226, .arr 3 1 1 (List.map AV.p (List.map (PV.int .i64) f116))), (254, .arr 38 3 1 (List.map AV.p (List.map encCanonical o132)))]⟩) h148 ?_ ?_
 clear h h134 h134T h136 h136a h136b h137 h137n h137N h145 h146 h148
 intro s x h
 obtain ⟨m151, r152⟩ := s
 simp only [odmine_All_l198] at h
 dsimp only
 refine zs (zs (zr ?_))
 refine zU (zl (zn ?_))
 rcases zI h with ⟨h153, h⟩ | ⟨h153, h⟩
 refine zi (zk (zn ?_))
 obtain ⟨o154, h155, h⟩ := zB h
 refine zJ (fun (o : ((List (Canonical × Bool))) ⊕ ((List (Canonical × Bool)))) => match o with | .inl o156 => tE ⟨Tryz.prog, 32, 286, X, [(5, .arr 71 4 1 [.agg [.p (.str t1.Name), .p (.slc (List.map PV.str t1.Attrs)), .p (.slc (List.map encRow t1.Rows)), .mapo 15 1]]), (15, .map 1 (List.map AV.p (encK encCanonical m131)) (List.map AV.p (encW PV.bool m131))), (32, .arr 38 3 1 (List.map AV.p (List.map encCanonical (o13 ++ o89)))), (192, .arr 71 4 1 [.agg [.p (.str t1.Name), .p (.slc (List.map PV.str t1.Attrs)), .p (.slc (List.map encRow t1.Rows)), .mapo 15 1]]), (202, .arr 38 3 1 [.p (.agg [.int .u32 x16, .int .i64 x124, .int .i64 x135])]), (226, .arr 3 1 1 (List.map AV.p (List.map (PV.int .i64) f116))), (254, .arr 38 3 1 (List.map AV.p (List.map encCanonical o132)))], i141, w142, D⟩ .normal ⟨[(2, .loc 288 1 0 0), (3, .loc 289 1 0 0), (5, .p (.int .u32 r152))], [(5, .arr 71 4 1 [.agg [.p (.str t1.Name), .p (.slc (List.map PV.str t1.Attrs)), .p (.slc (List.map encRow t1.Rows)), .mapo 15 1]]), (15, .map 1 (List.map AV.p (encK encCanonical o156)) (List.map AV.p (encW PV.bool o156))), (32, .arr 38 3 1 (List.map AV.p (List.map encCanonical (o13 ++ o89)))), (192, .arr 71 4 1 [.agg [.p (.str t1.Name), .p (.slc (List.map PV.str t1.Attrs)), .p (.slc (List.map encRow t1.Rows)), .mapo 15 1]]), (202, .arr 38 3 1 [.p (.agg [.int .u32 x16, .int .i64 x124, .int .i64 x135])]), (226, .arr 3 1 1 (List.map AV.p (List.map (PV.int .i64) f116))), (254, .arr 38 3 1 (List.map AV.p (List.map encCanonical o132))), (288, .arr 71 4 1 [.agg [.p (.str t1.Name), .p (.slc (List.map PV.str t1.Attrs)), .p (.slc (List.map encRow t1.Rows)), .mapo 15 1]]), (289, .arr 38 3 1 [.p (.agg [.int .u32 x16, .int .i64 x124, .int .i64 x135])])]⟩ | .inr o157 => tE ⟨Tryz.prog, 32, 286, X, [(5, .arr 71 4 1 [.agg [.p (.str t1.Name), .p (.slc (List.map PV.str t1.Attrs)), .p (.slc (List.map encRow t1.Rows)), .mapo 15 1]]), (15, .map 1 (List.map AV.p (encK encCanonical m131)) (List.map AV.p (encW PV.bool m131))), (32, .arr 38 3 1 (List.map AV.p (List.map encCanonical (o13 ++ o89)))), (192, .arr 71 4 1 [.agg [.p (.str t1.Name), .p (.slc (List.map PV.str t1.Attrs)), .p (.slc (List.map encRow t1.Rows)), .mapo 15 1]]), (202, .arr 38 3 1 [.p (.agg [.int .u32 x16, .int .i64 x124, .int .i64 x135])]), (226, .arr 3 1 1 (List.map AV.p (List.map (PV.int .i64) f116))), (254, .arr 38 3 1 (List.map AV.p (List.map encCanonical o132)))], i141, w142, D⟩ .ret ⟨[(4, .p (.bool false))], [(5, .arr 71 4 1 [.agg [.p (.str t1.Name), .p (.slc (List.map PV.str t1.Attrs)), .p (.slc (List.map encRow t1.Rows)), .mapo 15 1]]), (15, .map 1 (List.map AV.p (encK encCanonical o157)) (List.map AV.p (encW PV.bool o157))), (32, .arr 38 3 1 (List.map AV.p (List.map encCanonical (o13 ++ o89)))), (192, .arr 71 4 1 [.agg [.p (.str t1.Name), .p (.slc (List.map PV.str t1.Attrs)), .p (.slc (List.map encRow t1.Rows)), .mapo 15 1]]), (202, .arr 38 3 1 [.p (.agg [.int .u32 x16, .int .i64 x124, .int .i64 x135])]), (226, .arr 3 1 1 (List.map AV.p (List.map (PV.int .i64) f116))), (254, .arr 38 3 1 (List.map AV.p (List.map encCanonical o132)))]⟩) o154 ?_ ?_
 replace h := h155
 clear h155
 refine zb (zs (zr ?_))
 refine zU ?_
 refine zM ⟨[(2, .loc 288 1 0 0), (3, .loc 289 1 0 0), (5, .p (.int .u32 r152)), (18, .agg [.p (.str t1.Name), .p (.slc (List.map PV.str t1.Attrs)), .p (.slc (List.map encRow t1.Rows)), .mapo 15 1]), (30, .p (.agg [.int .u32 (IntKind.u32.wrap ((BitVec.ofInt 32 x16 &&& ~~~ (BitVec.ofInt 32 (IntKind.u32.wrap ((BitVec.ofInt 32 r152 &&& (BitVec.ofInt 32 (IntKind.u32.wrap (0 - r152)))).toNat : Int)))).toNat : Int)), .int .i64 x124, .int .i64 x135]))], [(5, .arr 71 4 1 [.agg [.p (.str t1.Name), .p (.slc (List.map PV.str t1.Attrs)), .p (.slc (List.map encRow t1.Rows)), .mapo 15 1]]), (15, .map 1 (List.map AV.p (encK encCanonical m151)) (List.map AV.p (encW PV.bool m151))), (32, .arr 38 3 1 (List.map AV.p (List.map encCanonical (o13 ++ o89)))), (192, .arr 71 4 1 [.agg [.p (.str t1.Name), .p (.slc (List.map PV.str t1.Attrs)), .p (.slc (List.map encRow t1.Rows)), .mapo 15 1]]), (202, .arr 38 3 1 [.p (.agg [.int .u32 x16, .int .i64 x124, .int .i64 x135])]), (226, .arr 3 1 1 (List.map AV.p (List.map (PV.int .i64) f116))), (254, .arr 38 3 1 (List.map AV.p (List.map encCanonical o132))), (288, .arr 71 4 1 [.agg [.p (.str t1.Name), .p (.slc (List.map PV.str t1.Attrs)), .p (.slc (List.map encRow t1.Rows)), .mapo 15 1]]), (289, .arr 38 3 1 [.p (.agg [.int .u32 x16, .int .i64 x124, .int .i64 x135])])]⟩ ?_
 refine AL_inline (avs := [.agg [.p (.str t1.Name), .p (.slc (List.map PV.str t1.Attrs)), .p (.slc (List.map encRow t1.Rows)), .mapo 15 1], .p (.agg [.int .u32 (IntKind.u32.wrap ((BitVec.ofInt 32 x16 &&& ~~~ (BitVec.ofInt 32 (IntKind.u32.wrap ((BitVec.ofInt 32 r152 &&& (BitVec.ofInt 32 (IntKind.u32.wrap (0 - r152)))).toNat : Int)))).toNat : Int)), .int .i64 x124, .int .i64 x135])]) 346 rfl (guard_none rfl) rfl Tryz.func63 rfl Tryz.call63 Tryz.ntmps63 (by simp) (by simp only [go_sem, seval, h153]; all_goals rfl) ?_
 intro i158 w159
 show AWp _ _ _ ⟨[(0, .agg [.p (.str t1.Name), .p (.slc (List.map PV.str t1.Attrs)), .p (.slc (List.map encRow t1.Rows)), .mapo 15 1]), (1, .p (.agg [.int .u32 (IntKind.u32.wrap ((BitVec.ofInt 32 x16 &&& ~~~ (BitVec.ofInt 32 (IntKind.u32.wrap ((BitVec.ofInt 32 r152 &&& (BitVec.ofInt 32 (IntKind.u32.wrap (0 - r152)))).toNat : Int)))).toNat : Int)), .int .i64 x124, .int .i64 x135]))], [(5, .arr 71 4 1 [.agg [.p (.str t1.Name), .p (.slc (List.map PV.str t1.Attrs)), .p (.slc (List.map encRow t1.Rows)), .mapo 15 1]]), (15, .map 1 (List.map AV.p (encK encCanonical m151)) (List.map AV.p (encW PV.bool m151))), (32, .arr 38 3 1 (List.map AV.p (List.map encCanonical (o13 ++ o89)))), (192, .arr 71 4 1 [.agg [.p (.str t1.Name), .p (.slc (List.map PV.str t1.Attrs)), .p (.slc (List.map encRow t1.Rows)), .mapo 15 1]]), (202, .arr 38 3 1 [.p (.agg [.int .u32 x16, .int .i64 x124, .int .i64 x135])]), (226, .arr 3 1 1 (List.map AV.p (List.map (PV.int .i64) f116))), (254, .arr 38 3 1 (List.map AV.p (List.map encCanonical o132))), (288, .arr 71 4 1 [.agg [.p (.str t1.Name), .p (.slc (List.map PV.str t1.Attrs)), .p (.slc (List.map encRow t1.Rows)), .mapo 15 1]]), (289, .arr 38 3 1 [.p (.agg [.int .u32 x16, .int .i64 x124, .int .i64 x135])])]⟩
 refine zs (zr ?_)
 refine zU (zl (zn (zs (zr ?_))))
 refine zU (zl (zn (zs (zs (zr ?_)))))
 refine zU (zl (zn ?_))
 rcases zI h with ⟨h160, h⟩ | ⟨h160, h⟩
 refine zj (zk (zn (zs (zr ?_))))
 refine zU (zl (zn (zq ?_)))
 refine inlQ_ret (by simp only [Tryz.results63]; simp only [go_sem, seval, h153, h160]; exact rfl) ?_
 refine zl (zn ?_)
 rcases zI h with ⟨h161, h⟩ | ⟨h161, h⟩
 refine zi (zs (zr ?_))
 refine zU (zl (zn (zq (yr ?_))))
 cases h
 exact ⟨rfl, zE⟩
 refine zj (zk (yn ?_))
 cases h
 exact ⟨rfl, zE⟩
 have h160F := Bool.eq_false_iff.2 h160
 refine zi (zs (zr ?_))
 refine zU ?_
 obtain ⟨r162, h163, h⟩ := zB h
 refine zc (ordering_Satisfies_con t1 (Canonical.mk (IntKind.u32.wrap ((BitVec.ofInt 32 x16 &&& ~~~ (BitVec.ofInt 32 (IntKind.u32.wrap ((BitVec.ofInt 32 r152 &&& (BitVec.ofInt 32 (IntKind.u32.wrap (0 - r152)))).toNat : Int)))).toNat : Int)) x124 x135) _ h163) ?_
 refine zU (zl (zn (zr ?_)))
 refine zU (zl (zn (zs (zr ?_))))
 refine zU (zl (zn (zq ?_)))
 refine inlQ_ret (by simp only [Tryz.results63]; simp only [go_sem, seval, h153, h160F]; exact rfl) ?_
 refine zl (zn ?_)
 rcases zI h with ⟨h164, h⟩ | ⟨h164, h⟩
 refine zi (zs (zr ?_))
 refine zU (zl (zn (zq (yr ?_))))
 cases h
 exact ⟨rfl, zE⟩
 refine zj (zk (yn ?_))
 cases h
 exact ⟨rfl, zE⟩
 rcases o154 with m165 | r166
 try simp only at h
 refine zA (zn (zr ?_))
 refine zU (zl ?_)
 cases h
 exact ⟨rfl, zE⟩
 try simp only at h
 refine zA (zt ?_)
 cases h
 exact ⟨rfl, zE⟩
 refine zj (zx (ze ?_))
 cases h
 exact ⟨rfl, zE⟩
 rcases o147 with r167 | r168
 try simp only at h
 refine zA (yh (zn (zs (zr ?_))))
 refine zU (zl (zn (zq ?_)))
 refine inlQ_ret (by simp only [Tryz.results62]; simp only [go_sem, seval, h134T, h145, h146]; exact rfl) ?_
 refine zl ?_
 cases h
 exact ⟨rfl, zE⟩
 try simp only at h
 refine zA (yr (zt ?_))
 refine inlQ_ret (by simp only [Tryz.results62]; simp only [go_sem, seval, h134T, h145, h146]; exact rfl) ?_
 refine zl ?_
 cases h
 exact ⟨rfl, zE⟩
 have h146F := Bool.eq_false_iff.2 h146
 refine zi (zs (zr ?_))
 refine zU (zl (zn (zq (zt ?_))))
 refine inlQ_ret (by simp only [Tryz.results62]; simp only [go_sem, seval, h134T, h145, h146F]; exact rfl) ?_
 refine zl ?_
 cases h
 exact ⟨rfl, zE⟩
 have h145F := Bool.eq_false_iff.2 h145
 refine zi (zs (zr ?_))
 refine zU ?_
 obtain ⟨r169, h170, h⟩ := zB h
 refine zc (ordering_Satisfies_con t1 (Canonical.mk x16 x124 x135) _ h170) ?_
 refine zU (zl (zn (zr ?_)))
 refine zU (zl (zn (zs (zr ?_))))
 refine zU (zl (zn (zq ?_)))
 refine inlQ_ret (by simp only [Tryz.results63]; simp only [go_sem, seval, h134T, h145F]; exact rfl) ?_
 refine zU (zl (zn ?_))
 rcases zI h with ⟨h171, h⟩ | ⟨h171, h⟩
 refine zj (zk (zn (zs (zs (zr ?_)))))
 refine zU (zl (zn (zb ?_)))
 obtain ⟨o172, h173, h⟩ := zB h
 refine zO (fun (s : (List (Canonical × Bool)) × Int) => ⟨[(2, .loc 288 1 0 0), (3, .loc 289 1 0 0), (5, .p (.int .u32 s.2))], [(5, .arr 71 4 1 [.agg [.p (.str t1.Name), .p (.slc (List.map PV.str t1.Attrs)), .p (.slc (List.map encRow t1.Rows)), .mapo 15 1]]), (15, .map 1 (List.map AV.p (encK encCanonical s.1)) (List.map AV.p (encW PV.bool s.1))), (32, .arr 38 3 1 (List.map AV.p (List.map encCanonical (o13 ++ o89)))), (192, .arr 71 4 1 [.agg [.p (.str t1.Name), .p (.slc (List.map PV.str t1.Attrs)), .p (.slc (List.map encRow t1.Rows)), .mapo 15 1]]), (202, .arr 38 3 1 [.p (.agg [.int .u32 x16, .int .i64 x124, .int .i64 x135])]), (226, .arr 3 1 1 (List.map AV.p (List.map (PV.int .i64) f116))), (254, .arr 38 3 1 (List.map AV.p (List.map encCanonical o132))), (288, .arr 71 4 1 [.agg [.p (.str t1.Name), .p (.slc (List.map PV.str t1.Attrs)), .p (.slc (List.map encRow t1.Rows)), .mapo 15 1]]), (289, .arr 38 3 1 [.p (.agg [.int .u32 x16, .int .i64 x124, .int .i64 x135])])]⟩) (fun (o : ((List (Canonical × Bool))) ⊕ ((List (Canonical × Bool)))) => match o with | .inl o174 => tE ⟨Tryz.prog, 32, 286, X, [(5, .arr 71 4 1 [.agg [.p (.str t1.Name), .p (.slc (List.map PV.str t1.Attrs)), .p (.slc (List.map encRow t1.Rows)), .mapo 15 1]]), (15, .map 1 (List.map AV.p (encK encCanonical m131)) (List.map AV.p (encW PV.bool m131))), (32, .arr 38 3 1 (List.map AV.p (List.map encCanonical (o13 ++ o89)))), (192, .arr 71 4 1 [.agg [.p (.str t1.Name), .p (.slc (List.map PV.str t1.Attrs)), .p (.slc (List.map encRow t1.Rows)), .mapo 15 1]]), (202, .arr 38 3 1 [.p (.agg [.int .u32 x16, .int .i64 x124, .int .i64 x135])]), (226, .arr 3 1 1 (List.map AV.p (List.map (PV.int .i64) f116))), (254, .arr 38 3 1 (List.map AV.p (List.map encCanonical o132)))], i141, w142, D⟩ (.exit 0) ⟨[], [(5, .arr 71 4 1 [.agg [.p (.str t1.Name), .p (.slc (List.map PV.str t1.Attrs)), .p (.slc (List.map encRow t1.Rows)), .mapo 15 1]]), (15, .map 1 (List.map AV.p (encK encCanonical o174)) (List.map AV.p (encW PV.bool o174))), (32, .arr 38 3 1 (List.map AV.p (List.map encCanonical (o13 ++ o89)))), (192, .arr 71 4 1 [.agg [.p (.str t1.Name), .p (.slc (List.map PV.str t1.Attrs)), .p (.slc (List.map encRow t1.Rows)), .mapo 15 1]]), (202, .arr 38 3 1 [.p (.agg [.int .u32 x16, .int .i64 x124, .int .i64 x135])]), (226, .arr 3 1 1 (List.map AV.p (List.map (PV.int .i64) f116))), (254, .arr 38 3 1 (List.map AV.p (List.map encCanonical o132)))]⟩ | .inr o175 => tE ⟨Tryz.prog, 32, 286, X, [(5, .arr 71 4 1 [.agg [.p (.str t1.Name), .p (.slc (List.map PV.str t1.Attrs)), .p (.slc (List.map encRow t1.Rows)), .mapo 15 1]]), (15, .map 1 (List.map AV.p (encK encCanonical m131)) (List.map AV.p (encW PV.bool m131))), (32, .arr 38 3 1 (List.map AV.p (List.map encCanonical (o13 ++ o89)))), (192, .arr 71 4 1 [.agg [.p (.str t1.Name), .p (.slc (List.map PV.str t1.Attrs)), .p (.slc (List.map encRow t1.Rows)), .mapo 15 1]]), (202, .arr 38 3 1 [.p (.agg [.int .u32 x16, .int .i64 x124, .int .i64 x135])]), (226, .arr 3 1 1 (List.map AV.p (List.map (PV.int .i64) f116))), (254, .arr 38 3 1 (List.map AV.p (List.map encCanonical o132)))], i141, w142, D⟩ .ret ⟨[(4, .p (.bool false))], [(5, .arr 71 4 1 [.agg [.p (.str t1.Name), .p (.slc (List.map PV.str t1.Attrs)), .p (.slc (List.map encRow t1.Rows)), .mapo 15 1]]), (15, .map 1 (List.map AV.p (encK encCanonical o175)) (List.map AV.p (encW PV.bool o175))), (32, .arr 38 3 1 (List.map AV.p (List.map encCanonical (o13 ++ o89)))), (192, .arr 71 4 1 [.agg [.p (.str t1.Name), .p (.slc (List.map PV.str t1.Attrs)), .p (.slc (List.map encRow t1.Rows)), .mapo 15 1]]), (202, .arr 38 3 1 [.p (.agg [.int .u32 x16, .int .i64 x124, .int .i64 x135])]), (226, .arr 3 1 1 (List.map AV.p (List.map (PV.int .i64) f116))), (254, .arr 38 3 1 (List.map AV.p (List.map encCanonical o132)))]⟩) h173 ?_ ?_
 clear h h134 h134T h136 h136a h136b h137 h137n h137N h145 h145F h170 h171 h173
 intro s x h
 obtain ⟨m176, r177⟩ := s
 simp only [odmine_All_l199] at h
 dsimp only
 refine zs (zs (zr ?_))
 refine zU (zl (zn ?_))
 rcases zI h with ⟨h178, h⟩ | ⟨h178, h⟩
 refine zi (zk (zn ?_))
 obtain ⟨o179, h180, h⟩ := zB h
 refine zJ (fun (o : ((List (Canonical × Bool))) ⊕ ((List (Canonical × Bool)))) => match o with | .inl o181 => tE ⟨Tryz.prog, 32, 286, X, [(5, .arr 71 4 1 [.agg [.p (.str t1.Name), .p (.slc (List.map PV.str t1.Attrs)), .p (.slc (List.map encRow t1.Rows)), .mapo 15 1]]), (15, .map 1 (List.map AV.p (encK encCanonical m131)) (List.map AV.p (encW PV.bool m131))), (32, .arr 38 3 1 (List.map AV.p (List.map encCanonical (o13 ++ o89)))), (192, .arr 71 4 1 [.agg [.p (.str t1.Name), .p (.slc (List.map PV.str t1.Attrs)), .p (.slc (List.map encRow t1.Rows)), .mapo 15 1]]), (202, .arr 38 3 1 [.p (.agg [.int .u32 x16, .int .i64 x124, .int .i64 x135])]), (226, .arr 3 1 1 (List.map AV.p (List.map (PV.int .i64) f116))), (254, .arr 38 3 1 (List.map AV.p (List.map encCanonical o132)))], i141, w142, D⟩ .normal ⟨[(2, .loc 288 1 0 0), (3, .loc 289 1 0 0), (5, .p (.int .u32 r177))], [(5, .arr 71 4 1 [.agg [.p (.str t1.Name), .p (.slc (List.map PV.str t1.Attrs)), .p (.slc (List.map encRow t1.Rows)), .mapo 15 1]]), (15, .map 1 (List.map AV.p (encK encCanonical o181)) (List.map AV.p (encW PV.bool o181))), (32, .arr 38 3 1 (List.map AV.p (List.map encCanonical (o13 ++ o89)))), (192, .arr 71 4 1 [.agg [.p (.str t1.Name), .p (.slc (List.map PV.str t1.Attrs)), .p (.slc (List.map encRow t1.Rows)), .mapo 15 1]]), (202, .arr 38 3 1 [.p (.agg [.int .u32 x16, .int .i64 x124, .int .i64 x135])]), (226, .arr 3 1 1 (List.map AV.p (List.map (PV.int .i64) f116))), (254, .arr 38 3 1 (List.map AV.p (List.map encCanonical o132))), (288, .arr 71 4 1 [.agg [.p (.str t1.Name), .p (.slc (List.map PV.str t1.Attrs)), .p (.slc (List.map encRow t1.Rows)), .mapo 15 1]]), (289, .arr 38 3 1 [.p (.agg [.int .u32 x16, .int .i64 x124, .int .i64 x135])])]⟩ | .inr o182 => tE ⟨Tryz.prog, 32, 286, X, [(5, .arr 71 4 1 [.agg [.p (.str t1.Name), .p (.slc (List.map PV.str t1.Attrs)), .p (.slc (List.map encRow t1.Rows)), .mapo 15 1]]), (15, .map 1 (List.map AV.p (encK encCanonical m131)) (List.map AV.p (encW PV.bool m131))), (32, .arr 38 3 1 (List.map AV.p (List.map encCanonical (o13 ++ o89)))), (192, .arr 71 4 1 [.agg [.p (.str t1.Name), .p (.slc (List.map PV.str t1.Attrs)), .p (.slc (List.map encRow t1.Rows)), .mapo 15 1]]), (202, .arr 38 3 1 [.p (.agg [.int .u32 x16, .int .i64 x124, .int .i64 x135])]), (226, .arr 3 1 1 (List.map AV.p (List.map (PV.int .i64) f116))), (254, .arr 38 3 1 (List.map AV.p (List.map encCanonical o132)))], i141, w142, D⟩ .ret ⟨[(4, .p (.bool false))], [(5, .arr 71 4 1 [.agg [.p (.str t1.Name), .p (.slc (List.map PV.str t1.Attrs)), .p (.slc (List.map encRow t1.Rows)), .mapo 15 1]]), (15, .map 1 (List.map AV.p (encK encCanonical o182)) (List.map AV.p (encW PV.bool o182))), (32, .arr 38 3 1 (List.map AV.p (List.map encCanonical (o13 ++ o89)))), (192, .arr 71 4 1 [.agg [.p (.str t1.Name), .p (.slc (List.map PV.str t1.Attrs)), .p (.slc (List.map encRow t1.Rows)), .mapo 15 1]]), (202, .arr 38 3 1 [.p (.agg [.int .u32 x16, .int .i64 x124, .int .i64 x135])]), (226, .arr 3 1 1 (List.map AV.p (List.map (PV.int .i64) f116))), (254, .arr 38 3 1 (List.map AV.p (List.map encCanonical o132)))]⟩) o179 ?_ ?_
 replace h := h180
 clear h180
 refine zb (zs (zr ?_))
 refine zU ?_
 refine zM ⟨[(2, .loc 288 1 0 0), (3, .loc 289 1 0 0), (5, .p (.int .u32 r177)), (18, .agg [.p (.str t1.Name), .p (.slc (List.map PV.str t1.Attrs)), .p (.slc (List.map encRow t1.Rows)), .mapo 15 1]), (30, .p (.agg [.int .u32 (IntKind.u32.wrap ((BitVec.ofInt 32 x16 &&& ~~~ (BitVec.ofInt 32 (IntKind.u32.wrap ((BitVec.ofInt 32 r177 &&& (BitVec.ofInt 32 (IntKind.u32.wrap (0 - r177)))).toNat : Int)))).toNat : Int)), .int .i64 x124, .int .i64 x135]))], [(5, .arr 71 4 1 [.agg [.p (.str t1.Name), .p (.slc (List.map PV.str t1.Attrs)), .p (.slc (List.map encRow t1.Rows)), .mapo 15 1]]), (15, .map 1 (List.map AV.p (encK encCanonical m176)) (List.map AV.p (encW PV.bool m176))), (32, .arr 38 3 1 (List.map AV.p (List.map encCanonical (o13 ++ o89)))), (192, .arr 71 4 1 [.agg [.p (.str t1.Name), .p (.slc (List.map PV.str t1.Attrs)), .p (.slc (List.map encRow t1.Rows)), .mapo 15 1]]), (202, .arr 38 3 1 [.p (.agg [.int .u32 x16, .int .i64 x124, .int .i64 x135])]), (226, .arr 3 1 1 (List.map AV.p (List.map (PV.int .i64) f116))), (254, .arr 38 3 1 (List.map AV.p (List.map encCanonical o132))), (288, .arr 71 4 1 [.agg [.p (.str t1.Name), .p (.slc (List.map PV.str t1.Attrs)), .p (.slc (List.map encRow t1.Rows)), .mapo 15 1]]), (289, .arr 38 3 1 [.p (.agg [.int .u32 x16, .int .i64 x124, .int .i64 x135])])]⟩ ?_
 refine AL_inline (avs := [.agg [.p (.str t1.Name), .p (.slc (List.map PV.str t1.Attrs)), .p (.slc (List.map encRow t1.Rows)), .mapo 15 1], .p (.agg [.int .u32 (IntKind.u32.wrap ((BitVec.ofInt 32 x16 &&& ~~~ (BitVec.ofInt 32 (IntKind.u32.wrap ((BitVec.ofInt 32 r177 &&& (BitVec.ofInt 32 (IntKind.u32.wrap (0 - r177)))).toNat : Int)))).toNat : Int)), .int .i64 x124, .int .i64 x135])]) 374 rfl (guard_none rfl) rfl Tryz.func63 rfl Tryz.call63 Tryz.ntmps63 (by simp) (by simp only [go_sem, seval, h178]; all_goals rfl) ?_
 intro i183 w184
 show AWp _ _ _ ⟨[(0, .agg [.p (.str t1.Name), .p (.slc (List.map PV.str t1.Attrs)), .p (.slc (List.map encRow t1.Rows)), .mapo 15 1]), (1, .p (.agg [.int .u32 (IntKind.u32.wrap ((BitVec.ofInt 32 x16 &&& ~~~ (BitVec.ofInt 32 (IntKind.u32.wrap ((BitVec.ofInt 32 r177 &&& (BitVec.ofInt 32 (IntKind.u32.wrap (0 - r177)))).toNat : Int)))).toNat : Int)), .int .i64 x124, .int .i64 x135]))], [(5, .arr 71 4 1 [.agg [.p (.str t1.Name), .p (.slc (List.map PV.str t1.Attrs)), .p (.slc (List.map encRow t1.Rows)), .mapo 15 1]]), (15, .map 1 (List.map AV.p (encK encCanonical m176)) (List.map AV.p (encW PV.bool m176))), (32, .arr 38 3 1 (List.map AV.p (List.map encCanonical (o13 ++ o89)))), (192, .arr 71 4 1 [.agg [.p (.str t1.Name), .p (.slc (List.map PV.str t1.Attrs)), .p (.slc (List.map encRow t1.Rows)), .mapo 15 1]]), (202, .arr 38 3 1 [.p (.agg [.int .u32 x16, .int .i64 x124, .int .i64 x135])]), (226, .arr 3 1 1 (List.map AV.p (List.map (PV.int .i64) f116))), (254, .arr 38 3 1 (List.map AV.p (List.map encCanonical o132))), (288, .arr 71 4 1 [.agg [.p (.str t1.Name), .p (.slc (List.map PV.str t1.Attrs)), .p (.slc (List.map encRow t1.Rows)), .mapo 15 1]]), (289, .arr 38 3 1 [.p (.agg [.int .u32 x16, .int .i64 x124, .int .i64 x135])])]⟩
 refine zs (zr ?_)
 refine zU (zl (zn (zs (zr ?_))))
 refine zU (zl (zn (zs (zs (zr ?_)))))
 refine zU (zl (zn ?_))
 rcases zI h with ⟨h185, h⟩ | ⟨h185, h⟩
 refine zj (zk (zn (zs (zr ?_))))
 refine zU (zl (zn (zq ?_)))
 refine inlQ_ret (by simp only [Tryz.results63]; simp only [go_sem, seval, h178, h185]; exact rfl) ?_
 refine zl (zn ?_)
 rcases zI h with ⟨h186, h⟩ | ⟨h186, h⟩
 refine zi (zs (zr ?_))
 refine zU (zl (zn (zq (yr ?_))))
 cases h
 exact ⟨rfl, zE⟩
 refine zj (zk (yn ?_))
 cases h
 exact ⟨rfl, zE⟩
 have h185F := Bool.eq_false_iff.2 h185
 refine zi (zs (zr ?_))
 refine zU ?_
 obtain ⟨r187, h188, h⟩ := zB h
 refine zc (ordering_Satisfies_con t1 (Canonical.mk (IntKind.u32.wrap ((BitVec.ofInt 32 x16 &&& ~~~ (BitVec.ofInt 32 (IntKind.u32.wrap ((BitVec.ofInt 32 r177 &&& (BitVec.ofInt 32 (IntKind.u32.wrap (0 - r177)))).toNat : Int)))).toNat : Int)) x124 x135) _ h188) ?_
 refine zU (zl (zn (zr ?_)))
 refine zU (zl (zn (zs (zr ?_))))
 refine zU (zl (zn (zq ?_)))
 refine inlQ_ret (by simp only [Tryz.results63]; simp only [go_sem, seval, h178, h185F]; exact rfl) ?_
 refine zl (zn ?_)
 rcases zI h with ⟨h189, h⟩ | ⟨h189, h⟩
 refine zi (zs (zr ?_))
 refine zU (zl (zn (zq (yr ?_))))
 cases h
 exact ⟨rfl, zE⟩
 refine zj (zk (yn ?_))
 cases h
 exact ⟨rfl, zE⟩
 rcases o179 with m190 | r191
 try simp only at h
 refine zA (zn (zr ?_))
 refine zU (zl ?_)
 cases h
 exact ⟨rfl, zE⟩
 try simp only at h
 refine zA (zt ?_)
 cases h
 exact ⟨rfl, zE⟩
 refine zj (zx (ze ?_))
 cases h
 exact ⟨rfl, zE⟩
 rcases o172 with r192 | r193
 try simp only at h
 refine zA (yh (zn (zs (zr ?_))))
 refine zU (zl (zn (zq ?_)))
 refine inlQ_ret (by simp only [Tryz.results62]; simp only [go_sem, seval, h134T, h145F, h171]; exact rfl) ?_
 refine zl ?_
 cases h
 exact ⟨rfl, zE⟩
 try simp only at h
 refine zA (yr (zt ?_))
 refine inlQ_ret (by simp only [Tryz.results62]; simp only [go_sem, seval, h134T, h145F, h171]; exact rfl) ?_
 refine zl ?_
 cases h
 exact ⟨rfl, zE⟩
 have h171F := Bool.eq_false_iff.2 h171
 refine zi (zs (zr ?_))
 refine zU (zl (zn (zq (zt ?_))))
 refine inlQ_ret (by simp only [Tryz.results62]; simp only [go_sem, seval, h134T, h145F, h171F]; exact rfl) ?_
 refine zl ?_
 cases h
 exact ⟨rfl, zE⟩
 obtain ⟨m194, t195⟩ := o138
 try simp only at h
 refine zA (zn ?_)
 rcases zI h with ⟨h196, h⟩ | ⟨h196, h⟩
 refine zi (zr ?_)
 obtain ⟨h197, h⟩ := ite_some h
 refine zU (zl (yn (zn (zr ?_))))
 refine zU (zl ?_)
 cases h
 exact ⟨rfl, zE⟩
 refine zj (zk (yn (zn (zr ?_))))
 refine zU (zl ?_)
 cases h
 exact ⟨rfl, zE⟩
 have h134T := eq_false h134
 refine zj (zx (ze ?_))
 cases h
 exact ⟨rfl, zE⟩
 obtain ⟨m198, o199⟩ := o128
 try simp only at h
 refine zA (yh (yn (zn (zr ?_))))
 refine zU (zl ?_)
 cases h
 exact ⟨rfl, zE⟩
 refine zj (zx (ze ?_))
 cases h
 exact ⟨rfl, zE⟩
 obtain ⟨o200, f201⟩ := o117
 try simp only at h
 refine zA (yh (zn (zs (zr ?_))))
 refine zU (zl (zn (zq ?_)))
 refine inlQ_ret (by simp only [Tryz.results35]; simp only [go_sem, seval, h15T]; exact rfl) ?_
 obtain ⟨h202, h⟩ := ite_some h
 refine zU (zl (yn (zn (zr ?_))))
 refine zU (zl ?_)
 cases h
 exact ⟨rfl, zE⟩
 have h15T := eq_false h15
 refine zj (zx (ze ?_))
 cases h
 exact ⟨rfl, zE⟩
 try simp only at h
 refine zA (yh (zn (zs (zr ?_))))
 refine zU (zl (zn (zq ?_)))
 cases h
 exact zT Tryz.results14
end Go.Proofs.YthgnkhchpjcboaaGreat
set_option linter.unusedVariables false
set_option linter.unusedSimpArgs false
namespace Go.Proofs.YthgnkhchpjcboaaGreat
open Go Go.Ab
set_option maxHeartbeats 4000000 in
theorem drosslaw31_example_1_con {D : Prop} (i1 : Int) (l2 : List Int) (r3 : Row) (h : drosslaw31_example_1 i1 l2 = some r3) : Con D Tryz.prog 53 [(.int .i64 i1), (.slc (List.map (PV.int .i64) l2))] (encRow r3) := by
 refine zP Tryz.call53 Tryz.func53 rfl Tryz.ntmps53 fun X w => ?_
 simp only [drosslaw31_example_1] at h
 refine zs (zr ?_)
 refine zU (zl (zn (zs (zr ?_))))
 refine zU (zl (zn (zs (zs (zr ?_)))))
 refine zU (zl (zn (zb ?_)))
 obtain ⟨r4, h5, h⟩ := zB h
 refine zO (fun (s : List Value × Int) => ⟨[(4, .loc 4 1 0 0), (5, .loc 5 1 0 0), (10, .p (.slc (List.map (PV.int .i64) l2))), (11, .p (.int .i64 (l2.length : Int))), (12, .p (.int .i64 s.2))], [(4, .arr 80 2 1 [.agg [.p (.int .i64 0), .nils]]), (5, .arr 80 2 1 [.agg [.p (.int .i64 i1), .own 21 1 0 s.1.length]]), (21, .arr 88 3 1 (List.map AV.p (List.map encValue s.1)))]⟩) (fun (o6 : List Value) => tE (cX Tryz.f53 X w D) (.exit 0) ⟨[(4, .loc 4 1 0 0), (5, .loc 5 1 0 0)], [(4, .arr 80 2 1 [.agg [.p (.int .i64 0), .nils]]), (5, .arr 80 2 1 [.agg [.p (.int .i64 i1), .own 21 1 0 o6.length]]), (21, .arr 88 3 1 (List.map AV.p (List.map encValue o6)))]⟩) h5 ?_ ?_
 clear h h5
 intro s x h
 obtain ⟨r7, t8⟩ := s
 simp only [drosslaw31_example_1_l1] at h
 dsimp only
 refine zs (zr ?_)
 refine zU (zl (zn (zs ?_)))
 rcases zI h with ⟨h9, h⟩ | ⟨h9, h⟩
 refine zi (zk (zn (zs (zb (zs (zr ?_))))))
 obtain ⟨x10, h11, h11a, h11b, h⟩ := zX h
 refine zU (zl (zn (zr ?_)))
 obtain ⟨h12, h⟩ := ite_some h
 refine zU (zl (yn (zn (zr ?_))))
 refine zU (zl ?_)
 cases h
 exact ⟨rfl, zE⟩
 refine zj (zx (ze ?_))
 cases h
 exact ⟨rfl, zE⟩
 try simp only at h
 refine zA (yh (zn (zs (zr ?_))))
 refine zU (zl (zn (zq ?_)))
 cases h
 exact zT Tryz.results53
end Go.Proofs.YthgnkhchpjcboaaGreat
set_option linter.unusedVariables false
set_option linter.unusedSimpArgs false
namespace Go.Proofs.YthgnkhchpjcboaaGreat
open Go Go.Ab
set_option maxHeartbeats 4000000 in
theorem drosslaw31_example_con {D : Prop} (r1 : Table) (h : drosslaw31_example = some r1) : Con D Tryz.prog 25 [] (encTable r1) := by
 refine zP Tryz.call25 Tryz.func25 rfl Tryz.ntmps25 fun X w => ?_
 simp only [drosslaw31_example] at h
 refine zs (zr ?_)
 refine zU (zl (zn (zs (zr ?_))))
 refine zU (zl (zn (zs (zr ?_))))
 refine zU ?_
 refine zM ⟨[(0, .loc 0 1 0 0), (1, .p (.func (.func 53) [])), (2, .own 2 1 0 3), (3, .p (.func (.func 53) [])), (4, .p (.slc (List.map (PV.int .i64) [1, 1, 5])))], [(0, .arr 25 3 1 [.agg [.p (.str []), .nils, .nils]]), (2, .arr 9 1 1 [.p (.str [97]), .p (.str [98]), .p (.str [99])])]⟩ ?_
 obtain ⟨r2, h3, h⟩ := zB h
 refine zc (drosslaw31_example_1_con 1 [1, 1, 5] _ h3) ?_
 refine zU ?_
 refine zM ⟨[(0, .loc 0 1 0 0), (1, .p (.func (.func 53) [])), (2, .own 2 1 0 3), (5, .p (encRow r2)), (6, .p (.func (.func 53) [])), (7, .p (.slc (List.map (PV.int .i64) [2, 1, 4])))], [(0, .arr 25 3 1 [.agg [.p (.str []), .nils, .nils]]), (2, .arr 9 1 1 [.p (.str [97]), .p (.str [98]), .p (.str [99])])]⟩ ?_
 obtain ⟨r4, h5, h⟩ := zB h
 refine zc (drosslaw31_example_1_con 2 [2, 1, 4] _ h5) ?_
 refine zU ?_
 refine zM ⟨[(0, .loc 0 1 0 0), (2, .own 2 1 0 3), (5, .p (encRow r2)), (8, .p (encRow r4)), (9, .p (.func (.func 53) [])), (10, .p (.slc (List.map (PV.int .i64) [3, 2, 5])))], [(0, .arr 25 3 1 [.agg [.p (.str []), .nils, .nils]]), (2, .arr 9 1 1 [.p (.str [97]), .p (.str [98]), .p (.str [99])])]⟩ ?_
 obtain ⟨r6, h7, h⟩ := zB h
 refine zc (drosslaw31_example_1_con 3 [3, 2, 5] _ h7) ?_
 refine zU (zl (zn (zq ?_)))
 cases h
 exact zT Tryz.results25
end Go.Proofs.YthgnkhchpjcboaaGreat
set_option linter.unusedVariables false
set_option linter.unusedSimpArgs false
namespace Go.Proofs.YthgnkhchpjcboaaGreat
open Go Go.Ab
set_option maxHeartbeats 4000000 in
theorem slices_IndexFunc_int_con {D : Prop} (s1 : List Int) (f2 : Int → Option (Bool)) (f2_k : FuncId) (f2_cs : List PV) (f2_h : ∀ (y3 : Int) (r4 : Bool), f2 y3 = some r4 → Con D Tryz.prog f2_k ((.int .i64 y3) :: f2_cs) (.bool r4)) (r5 : Int) (h : slices_IndexFunc_int s1 f2 = some r5) : Con D Tryz.prog 126 [(.slc (List.map (PV.int .i64) s1)), .func (.func f2_k) f2_cs] (.int .i64 r5) := by
 refine zP Tryz.call126 Tryz.func126 rfl Tryz.ntmps126 fun X w => ?_
 simp only [slices_IndexFunc_int] at h
 refine zs (zr ?_)
 refine zU (zl (zn (zs (zs (zr ?_)))))
 refine zU (zl (zn (zb ?_)))
 obtain ⟨o6, h7, h⟩ := zB h
 refine zO (fun (s : Int) => ⟨[(0, .p (.slc (List.map (PV.int .i64) s1))), (1, .p (.func (.func f2_k) f2_cs)), (7, .p (.int .i64 (s1.length : Int))), (8, .p (.int .i64 s))], []⟩) (fun (o : (Unit) ⊕ (Int)) => match o with | .inl o8 => tE (cX Tryz.f126 X w D) (.exit 0) ⟨[], []⟩ | .inr o9 => tR Tryz.prog Tryz.f126 (.int .i64 o9)) h7 ?_ ?_
 clear h h7
 intro t10 x h
 simp only [slices_IndexFunc_int_l1] at h
 refine zs (zr ?_)
 refine zU (zl (zn (zs ?_)))
 rcases zI h with ⟨h11, h⟩ | ⟨h11, h⟩
 refine zi (zk (zn (zs (zb (zs (zr ?_))))))
 refine zU (zl (zn (zs (zr ?_))))
 obtain ⟨x12, h13, h13a, h13b, h⟩ := zX h
 refine zU ?_
 obtain ⟨r14, h15, h⟩ := zB h
 refine zc (f2_h x12 _ h15) ?_
 refine zl (zn ?_)
 rcases zI h with ⟨h16, h⟩ | ⟨h16, h⟩
 refine zi (zs (zr ?_))
 refine zU (zl (zn (zq (yr (zt ?_)))))
 cases h
 exact ⟨rfl, zT Tryz.results126⟩
 refine zj (zk (yn (zn (zr ?_))))
 refine zU (zl ?_)
 cases h
 exact ⟨rfl, zE⟩
 refine zj (zx (ze ?_))
 cases h
 exact ⟨rfl, zE⟩
 rcases o6 with ⟨⟩ | r17
 try simp only at h
 refine zA (yh (zn (zs (zr ?_))))
 refine zU (zl (zn (zq ?_)))
 cases h
 exact zT Tryz.results126
 try simp only at h
 refine zZ fun s hq => ?_
 refine yr (zt ?_)
 cases h
 exact hq
end Go.Proofs.YthgnkhchpjcboaaGreat
set_option linter.unusedVariables false
set_option linter.unusedSimpArgs false
namespace Go.Proofs.YthgnkhchpjcboaaGreat
open Go Go.Ab
set_option maxHeartbeats 4000000 in
theorem slices_ContainsFunc_int_con {D : Prop} (s1 : List Int) (f2 : Int → Option (Bool)) (f2_k : FuncId) (f2_cs : List PV) (f2_h : ∀ (y3 : Int) (r4 : Bool), f2 y3 = some r4 → Con D Tryz.prog f2_k ((.int .i64 y3) :: f2_cs) (.bool r4)) (r5 : Bool) (h : slices_ContainsFunc_int s1 f2 = some r5) : Con D Tryz.prog 105 [(.slc (List.map (PV.int .i64) s1)), .func (.func f2_k) f2_cs] (.bool r5) := by
 refine zP Tryz.call105 Tryz.func105 rfl Tryz.ntmps105 fun X w => ?_
 simp only [slices_ContainsFunc_int] at h
 refine zs (zr ?_)
 refine zU (zl (zn (zs (zr ?_))))
 refine zU ?_
 obtain ⟨r6, h7, h⟩ := zB h
 refine zc (slices_IndexFunc_int_con s1 f2 f2_k f2_cs f2_h _ h7) ?_
 refine zU (zl (zn (zq ?_)))
 cases h
 exact zT Tryz.results105
end Go.Proofs.YthgnkhchpjcboaaGreat
set_option linter.unusedVariables false
set_option linter.unusedSimpArgs false
namespace Go.Proofs.YthgnkhchpjcboaaGreat
open Go Go.Ab
set_option maxHeartbeats 4000000 in
theorem ordering_list_1_con {D : Prop} (a1 : Int) (c2 : Int) (r3 : Bool) (h : ordering_list_1 a1 c2 = some r3) : Con D Tryz.prog 106 [(.int .i64 a1), .imm [.int .i64 c2]] (.bool r3) := by
 refine zP Tryz.call106 Tryz.func106 rfl Tryz.ntmps106 fun X w => ?_
 simp only [ordering_list_1] at h
 refine zs (zr ?_)
 refine zU (zl (zn (zs (zr ?_))))
 refine zU ?_
 rcases zI h with ⟨h4, h⟩ | ⟨h4, h⟩
 refine zw 6 true ?_
 refine zh ?_
 refine zU (zl (zn (zq ?_)))
 cases h
 exact zT Tryz.results106
 replace h := h.symm
 refine zw 6 false ?_
 refine zg ?_
 refine zg ?_
 refine zg ?_
 refine zU (zl (zn (zq ?_)))
 cases h
 exact zT Tryz.results106
end Go.Proofs.YthgnkhchpjcboaaGreat
set_option linter.unusedVariables false
set_option linter.unusedSimpArgs false
namespace Go.Proofs.YthgnkhchpjcboaaGreat
open Go Go.Ab
set_option maxHeartbeats 4000000 in
theorem ordering_list_con {D : Prop} (n1 : Int) (l2 : List Int) (r3 : Bool) (h : ordering_list n1 l2 = some r3) : Con D Tryz.prog 73 [(.int .i64 n1), (.slc (List.map (PV.int .i64) l2))] (.bool r3) := by
 refine zP Tryz.call73 Tryz.func73 rfl Tryz.ntmps73 fun X w => ?_
 simp only [ordering_list] at h
 refine zs (zr ?_)
 refine zU (zl (zn (zs (zr ?_))))
 refine zU ?_
 rcases zI h with ⟨h4, h⟩ | ⟨h4, h⟩
 refine zw 8 true ?_
 refine zg ?_
 refine zg ?_
 obtain ⟨r5, h6, h⟩ := zB h
 replace h := h.symm
 refine zc (slices_ContainsFunc_int_con l2 (fun (y7 : Int) => ordering_list_1 y7 n1) 106 [.imm [.int .i64 n1]] (fun y7 r h => ordering_list_1_con y7 n1 r h) _ h6) ?_
 refine zg ?_
 refine zU (zl (zn (zq ?_)))
 cases h
 exact zT Tryz.results73
 refine zw 8 false ?_
 refine zh ?_
 refine zU (zl (zn (zq ?_)))
 cases h
 exact zT Tryz.results73
end Go.Proofs.YthgnkhchpjcboaaGreat
set_option linter.unusedVariables false
set_option linter.unusedSimpArgs false
namespace Go.Proofs.YthgnkhchpjcboaaGreat
open Go Go.Ab
set_option maxHeartbeats 4000000 in
theorem ordering_Valid_con {D : Prop} (n1 : Int) (d2 : OD) (r3 : Bool) (h : ordering_Valid n1 d2 = some r3) : Con D Tryz.prog 47 [(.int .i64 n1), (encOD d2)] (.bool r3) := by
 refine zP Tryz.call47 Tryz.func47 rfl Tryz.ntmps47 fun X w => ?_
 simp only [ordering_Valid] at h
 refine zs (zr ?_)
 refine zU (zl (zn (zs (zr ?_))))
 refine zU ?_
 obtain ⟨r4, h5, h⟩ := zB h
 refine zc (ordering_list_con n1 d2.Lhs _ h5) ?_
 refine zU ?_
 rcases zI h with ⟨h6, h⟩ | ⟨h6, h⟩
 refine zw 9 true ?_
 refine zg ?_
 refine zg ?_
 refine zg ?_
 obtain ⟨r7, h8, h⟩ := zB h
 refine zc (ordering_list_con n1 d2.Rhs _ h8) ?_
 refine zU (zl (zn (zq ?_)))
 cases h
 exact zT Tryz.results47
 refine zw 9 false ?_
 refine zh ?_
 refine zU (zl (zn (zq ?_)))
 cases h
 exact zT Tryz.results47
end Go.Proofs.YthgnkhchpjcboaaGreat
set_option linter.unusedVariables false
set_option linter.unusedSimpArgs false
namespace Go.Proofs.YthgnkhchpjcboaaGreat
open Go Go.Ab
set_option maxHeartbeats 4000000 in
theorem ordering_Holds_1_con {D : Prop} (n1 : Int) (c2 : OD) (r3 : Bool) (h : ordering_Holds_1 n1 c2 = some r3) : Con D Tryz.prog 86 [(.int .i64 n1), .imm [.slc (List.map (PV.int .i64) c2.Lhs), .slc (List.map (PV.int .i64) c2.Rhs)]] (.bool r3) := by
 refine zP Tryz.call86 Tryz.func86 rfl Tryz.ntmps86 fun X w => ?_
 simp only [ordering_Holds_1] at h
 refine zs (zr ?_)
 refine zU (zl (zn (zs (zr ?_))))
 refine zU ?_
 obtain ⟨r4, h5, h⟩ := zB h
 refine zc (ordering_Valid_con n1 c2 _ h5) ?_
 refine zU (zl (zn (zq ?_)))
 cases h
 exact zT Tryz.results86
end Go.Proofs.YthgnkhchpjcboaaGreat
set_option linter.unusedVariables false
set_option linter.unusedSimpArgs false
namespace Go.Proofs.YthgnkhchpjcboaaGreat
open Go Go.Ab
set_option maxHeartbeats 4000000 in
theorem ordering_Violation_1_con {D : Prop} (n1 : Int) (c2 : OD) (r3 : Bool) (h : ordering_Violation_1 n1 c2 = some r3) : Con D Tryz.prog 112 [(.int .i64 n1), .imm [.slc (List.map (PV.int .i64) c2.Lhs), .slc (List.map (PV.int .i64) c2.Rhs)]] (.bool r3) := by
 refine zP Tryz.call112 Tryz.func112 rfl Tryz.ntmps112 fun X w => ?_
 simp only [ordering_Violation_1] at h
 refine zs (zr ?_)
 refine zU (zl (zn (zs (zr ?_))))
 refine zU ?_
 obtain ⟨r4, h5, h⟩ := zB h
 refine zc (ordering_Valid_con n1 c2 _ h5) ?_
 refine zU (zl (zn (zq ?_)))
 cases h
 exact zT Tryz.results112
end Go.Proofs.YthgnkhchpjcboaaGreat
set_option linter.unusedVariables false
set_option linter.unusedSimpArgs false
namespace Go.Proofs.YthgnkhchpjcboaaGreat
open Go Go.Ab
set_option maxRecDepth 20000 in
set_option maxHeartbeats 4000000 in
theorem ordering_kind_con {D : Prop} (a1 : Row) (b2 : Row) (d3 : OD) (r4 : Int) (h : ordering_kind a1 b2 d3 = some r4) : Con D Tryz.prog 113 [(encRow a1), (encRow b2), (encOD d3)] (.int .i64 r4) := by
 refine zP Tryz.call113 Tryz.func113 rfl Tryz.ntmps113 fun X w => ?_
 simp only [ordering_kind] at h
 refine zs (zr ?_)
 refine zU (zl (zn (zs (zd ?_))))
 refine yU ?_
 obtain ⟨r5, h6, h⟩ := zB h
 refine yc (ordering_compare_con a1 b2 d3.Lhs _ h6) ?_
 refine yU ?_
 obtain ⟨r7, h8, h⟩ := zB h
 refine yc (ordering_compare_con a1 b2 d3.Rhs _ h8) ?_
 refine yU ?_
 refine yd (zn (zs (zb ?_)))
 obtain ⟨t9, h10, h⟩ := zB h
 refine zJ (fun (o11 : Bool) => tE (cX Tryz.f113 X w D) .normal ⟨[(7, .p (.int .i64 r5)), (8, .p (.int .i64 r7)), (19, .p (.bool o11))], []⟩) t9 ?_ ?_
 replace h := h10
 clear h10
 refine zr ?_
 refine zU ?_
 rcases zI h with ⟨h12, h⟩ | ⟨h12, h⟩
 replace h := h.symm
 refine zw 22 true ?_
 refine zg ?_
 refine zg ?_
 refine zU (zl ?_)
 cases h
 exact ⟨rfl, zE⟩
 refine zw 22 false ?_
 refine zh ?_
 refine zU (zl ?_)
 cases h
 exact ⟨rfl, zE⟩
 try simp only at h
 refine zA (zn ?_)
 rcases zI h with ⟨h13, h⟩ | ⟨h13, h⟩
 refine zi (zs (zr ?_))
 refine zU (zl (zn (zq (yr (zt ?_)))))
 cases h
 exact zT Tryz.results113
 refine zj (zs (zr ?_))
 refine zU (zl (zn ?_))
 rcases zI h with ⟨h14, h⟩ | ⟨h14, h⟩
 refine zi (zs (zr ?_))
 refine zU (zl (zn (zq (yr (zt ?_)))))
 cases h
 exact zT Tryz.results113
 refine zj (zk (yn (zn (zs (zr ?_)))))
 refine zU (zl (zn (zq ?_)))
 cases h
 exact zT Tryz.results113
end Go.Proofs.YthgnkhchpjcboaaGreat
set_option linter.unusedVariables false
set_option linter.unusedSimpArgs false
namespace Go.Proofs.YthgnkhchpjcboaaGreat
open Go Go.Ab
set_option maxHeartbeats 4000000 in
theorem ordering_Violation_con {D : Prop} (t1 : Table) (d2 : OD) (r3 : Int × Int × Int × Bool) (h : ordering_Violation t1 d2 = some r3) : Con D Tryz.prog 87 [(encTable t1), (encOD d2)] (.tup [(.int .i64 r3.1), (.int .i64 r3.2.1), (.int .i64 r3.2.2.1), (.bool r3.2.2.2)]) := by
 refine zP Tryz.call87 Tryz.func87 rfl Tryz.ntmps87 fun X w => ?_
 simp only [ordering_Violation] at h
 refine zs (zr ?_)
 refine zU (zl (zn (zs (zs (zr ?_)))))
 refine zU ?_
 obtain ⟨r4, h5, h⟩ := zB h
 refine zc (ordering_check_con t1 (fun (y6 : Int) => ordering_Violation_1 y6 d2) 112 [.imm [.slc (List.map (PV.int .i64) d2.Lhs), .slc (List.map (PV.int .i64) d2.Rhs)]] (fun y6 r h => ordering_Violation_1_con y6 d2 r h) _ h5) ?_
 refine zU (zl (zn ?_))
 rcases zI h with ⟨h7, h⟩ | ⟨h7, h⟩
 refine zi (zs (zr ?_))
 refine zU (zl (zn (zq (zt ?_))))
 cases h
 exact zT Tryz.results87
 refine zj (zk (zn (zs (zs (zr ?_)))))
 refine zU (zl (zn (zb ?_)))
 obtain ⟨o8, h9, h⟩ := zB h
 refine zO (fun (s : Int) => ⟨[(2, .loc 2 1 0 0), (3, .loc 3 1 0 0), (18, .p (.slc (List.map encRow t1.Rows))), (19, .p (.int .i64 (t1.Rows.length : Int))), (20, .p (.int .i64 s))], [(2, .arr 25 3 1 [.p (encTable t1)]), (3, .arr 55 2 1 [.p (encOD d2)])]⟩) (fun (o : (Unit) ⊕ (Int × Int × Int × Bool)) => match o with | .inl o10 => tE (cX Tryz.f87 X w D) (.exit 0) ⟨[], []⟩ | .inr o11 => tR Tryz.prog Tryz.f87 (.tup [(.int .i64 o11.1), (.int .i64 o11.2.1), (.int .i64 o11.2.2.1), (.bool o11.2.2.2)])) h9 ?_ ?_
 clear h h5 h7 h9
 intro t12 x h
 simp only [ordering_Violation_l4] at h
 refine zs (zr ?_)
 refine zU (zl (zn (zs ?_)))
 rcases zI h with ⟨h13, h⟩ | ⟨h13, h⟩
 refine zi (zk (zn (zs (zb (zs (zr ?_))))))
 obtain ⟨x14, h15, h15a, h15b, h⟩ := zX h
 refine zU (zl (zn (zs (zr ?_))))
 obtain ⟨h16, h⟩ := ite_some h
 obtain ⟨h17, h⟩ := ite_some h
 refine zU (zl (zn (zb ?_)))
 obtain ⟨o18, h19, h⟩ := zB h
 refine zO (fun (s : Int) => ⟨[(2, .loc 2 1 0 0), (3, .loc 3 1 0 0), (9, .loc 9 1 0 0), (18, .p (.slc (List.map encRow t1.Rows))), (19, .p (.int .i64 (t1.Rows.length : Int))), (20, .p (.int .i64 t12)), (29, .p (.slc (List.map encRow ((t1.Rows.drop (IntKind.i64.wrap (t12 + 1)).toNat).take (t1.Rows.length - (IntKind.i64.wrap (t12 + 1)).toNat))))), (30, .p (.int .i64 (((t1.Rows.drop (IntKind.i64.wrap (t12 + 1)).toNat).take (t1.Rows.length - (IntKind.i64.wrap (t12 + 1)).toNat)).length : Int))), (31, .p (.int .i64 s))], [(2, .arr 25 3 1 [.p (encTable t1)]), (3, .arr 55 2 1 [.p (encOD d2)]), (9, .arr 80 2 1 [.p (encRow x14)])]⟩) (fun (o : (Unit) ⊕ (Int × Int × Int × Bool)) => match o with | .inl o20 => tE (cX Tryz.f87 X w D) (.exit 2) ⟨[(2, .loc 2 1 0 0), (3, .loc 3 1 0 0), (18, .p (.slc (List.map encRow t1.Rows))), (19, .p (.int .i64 (t1.Rows.length : Int))), (20, .p (.int .i64 t12))], [(2, .arr 25 3 1 [.p (encTable t1)]), (3, .arr 55 2 1 [.p (encOD d2)])]⟩ | .inr o21 => tR Tryz.prog Tryz.f87 (.tup [(.int .i64 o21.1), (.int .i64 o21.2.1), (.int .i64 o21.2.2.1), (.bool o21.2.2.2)])) h19 ?_ ?_
 clear h h13 h15 h15a h15b h16 h17 h19
 intro t22 x h
 simp only [ordering_Violation_l3] at h
 refine zs (zr ?_)
 refine zU (zl (zn (zs ?_)))
 rcases zI h with ⟨h23, h⟩ | ⟨h23, h⟩
 refine zi (zk (zn (zs (zb (zs (zr ?_))))))
 obtain ⟨x24, h25, h25a, h25b, h⟩ := zX h
 refine zU (zl (zn (zs (zr ?_))))
 refine zU ?_
 obtain ⟨r26, h27, h⟩ := zB h
 refine zc (ordering_kind_con x14 x24 d2 _ h27) ?_
 refine zU (zl (zn (zs (zr ?_))))
 refine zU (zl (zn ?_))
 rcases zI h with ⟨h28, h⟩ | ⟨h28, h⟩
 refine zi (zs (zd ?_))
 refine yU ?_
 refine yd (zn (zq (yr (zt ?_))))
 cases h
 exact ⟨rfl, zT Tryz.results87⟩
 refine zj (zk (yn (zn (zr ?_))))
 refine zU (zl ?_)
 cases h
 exact ⟨rfl, zE⟩
 refine zj (zx (ze ?_))
 cases h
 exact ⟨rfl, zE⟩
 rcases o18 with ⟨⟩ | r29
 try simp only at h
 refine zA (yh (yn (zn (zr ?_))))
 refine zU (zl ?_)
 cases h
 exact ⟨rfl, zE⟩
 try simp only at h
 refine zZ fun s hq => ?_
 refine yr (yr (zt ?_))
 cases h
 refine ⟨rfl, ?_⟩
 exact hq
 refine zj (zx (ze ?_))
 cases h
 exact ⟨rfl, zE⟩
 rcases o8 with ⟨⟩ | r30
 try simp only at h
 refine zA (yh (zn (zs (zr ?_))))
 refine zU (zl (zn (zq ?_)))
 cases h
 exact zT Tryz.results87
 try simp only at h
 refine zZ fun s hq => ?_
 refine yr (zt ?_)
 cases h
 exact hq
end Go.Proofs.YthgnkhchpjcboaaGreat
set_option linter.unusedVariables false
set_option linter.unusedSimpArgs false
namespace Go.Proofs.YthgnkhchpjcboaaGreat
open Go Go.Ab
set_option maxHeartbeats 4000000 in
theorem ordering_Holds_con {D : Prop} (t1 : Table) (d2 : OD) (r3 : Bool × Int) (h : ordering_Holds t1 d2 = some r3) : Con D Tryz.prog 54 [(encTable t1), (encOD d2)] (.tup [(.bool r3.1), (.int .i64 r3.2)]) := by
 refine zP Tryz.call54 Tryz.func54 rfl Tryz.ntmps54 fun X w => ?_
 simp only [ordering_Holds] at h
 refine zs (zr ?_)
 refine zU (zl (zn (zs (zs (zr ?_)))))
 refine zU ?_
 obtain ⟨r4, h5, h⟩ := zB h
 refine zc (ordering_check_con t1 (fun (y6 : Int) => ordering_Holds_1 y6 d2) 86 [.imm [.slc (List.map (PV.int .i64) d2.Lhs), .slc (List.map (PV.int .i64) d2.Rhs)]] (fun y6 r h => ordering_Holds_1_con y6 d2 r h) _ h5) ?_
 refine zU (zl (zn (zs (zr ?_))))
 refine zU (zl (zn ?_))
 rcases zI h with ⟨h7, h⟩ | ⟨h7, h⟩
 refine zi (zs (zr ?_))
 refine zU (zl (zn (zq (zt ?_))))
 cases h
 exact zT Tryz.results54
 refine zj (zk (zn (zs (zr ?_))))
 refine zU ?_
 obtain ⟨r8, h9, h⟩ := zB h
 refine zc (ordering_Violation_con t1 d2 _ h9) ?_
 refine zU (zl (zn (zs (zr ?_))))
 refine zU (zl (zn (zq ?_)))
 cases h
 exact zT Tryz.results54
end Go.Proofs.YthgnkhchpjcboaaGreat
set_option linter.unusedVariables false
set_option linter.unusedSimpArgs false
namespace Go.Proofs.YthgnkhchpjcboaaGreat
open Go Go.Ab
set_option maxHeartbeats 4000000 in
theorem odmine_Keys_con {D : Prop} (t1 : Table) (r2 : List Int × Int) (h : odmine_Keys t1 = some r2) : Con D Tryz.prog 26 [(encTable t1)] (.tup [(.slc (List.map (PV.int .i64) r2.1)), (.int .i64 r2.2)]) := by
 refine zP Tryz.call26 Tryz.func26 rfl Tryz.ntmps26 fun X w => ?_
 simp only [odmine_Keys] at h
 refine zs (zr ?_)
 refine zU (zl (zn (zs (zs (zr ?_)))))
 refine zU ?_
 obtain ⟨r3, h4, h⟩ := zB h
 refine zc (odmine_check_con t1 _ h4) ?_
 refine zU (zl (zn (zs (zr ?_))))
 refine zU (zl (zn ?_))
 rcases zI h with ⟨h5, h⟩ | ⟨h5, h⟩
 refine zi (zs (zr ?_))
 refine zU (zl (zn (zq (zt ?_))))
 cases h
 exact zT Tryz.results26
 refine zj (zk (zn (zs (zr ?_))))
 refine zU (zl (zn (zs (zs (zr ?_)))))
 refine zU (zl (zn (zb ?_)))
 obtain ⟨o6, h7, h⟩ := zB h
 refine zO (fun (s : List Int × Int) => ⟨[(1, .loc 1 1 0 0), (5, .own 47 1 0 s.1.length), (18, .p (.int .i64 (t1.Attrs.length : Int))), (19, .p (.int .i64 s.2))], [(1, .arr 25 3 1 [.p (encTable t1)]), (47, .arr 3 1 1 (List.map AV.p (List.map (PV.int .i64) s.1)))]⟩) (fun (o8 : List Int) => tE (cX Tryz.f26 X w D) (.exit 0) ⟨[(5, .own 47 1 0 o8.length)], [(47, .arr 3 1 1 (List.map AV.p (List.map (PV.int .i64) o8)))]⟩) h7 ?_ ?_
 clear h h4 h5 h7
 intro s x h
 obtain ⟨o9, t10⟩ := s
 simp only [odmine_Keys_l4] at h
 dsimp only
 refine zs (zr ?_)
 refine zU (zl (zn (zs ?_)))
 rcases zI h with ⟨h11, h⟩ | ⟨h11, h⟩
 refine zi (zk (zn (zs (zb (zs (zr ?_))))))
 refine zU (zl (zn (zs (zr ?_))))
 refine zU (zl (zn (zs (zs (zr ?_)))))
 refine zU (zl (zn (zb ?_)))
 obtain ⟨a12, h13, h⟩ := zB h
 refine zO (fun (s : Bool × Int) => ⟨[(1, .loc 1 1 0 0), (5, .own 47 1 0 o9.length), (6, .p (.int .i64 t10)), (7, .p (.bool s.1)), (18, .p (.int .i64 (t1.Attrs.length : Int))), (19, .p (.int .i64 t10)), (24, .p (.int .i64 (t1.Attrs.length : Int))), (25, .p (.int .i64 s.2))], [(1, .arr 25 3 1 [.p (encTable t1)]), (47, .arr 3 1 1 (List.map AV.p (List.map (PV.int .i64) o9)))]⟩) (fun (o14 : Bool) => tE (cX Tryz.f26 X w D) (.exit 2) ⟨[(1, .loc 1 1 0 0), (5, .own 47 1 0 o9.length), (6, .p (.int .i64 t10)), (7, .p (.bool o14)), (18, .p (.int .i64 (t1.Attrs.length : Int))), (19, .p (.int .i64 t10))], [(1, .arr 25 3 1 [.p (encTable t1)]), (47, .arr 3 1 1 (List.map AV.p (List.map (PV.int .i64) o9)))]⟩) h13 ?_ ?_
 clear h h11 h13
 intro s x h
 obtain ⟨a15, t16⟩ := s
 simp only [odmine_Keys_l3] at h
 dsimp only
 refine zs (zr ?_)
 refine zU (zl (zn (zs ?_)))
 rcases zI h with ⟨h17, h⟩ | ⟨h17, h⟩
 refine zi (zk (zn (zs (zb (zs (zr ?_))))))
 refine zU (zl (zn (zs (zr ?_))))
 refine zU ?_
 obtain ⟨r18, h19, h⟩ := zB h
 refine zc (ordering_Holds_con t1 (OD.mk [t10] [t16]) _ h19) ?_
 refine zU (zl (zn (zr ?_)))
 refine zU ?_
 rcases zI h with ⟨h20, h⟩ | ⟨h20, h⟩
 replace h := h.symm
 refine zw 39 true ?_
 refine zg ?_
 refine zU (zl (yn (zn (zr ?_))))
 refine zU (zl ?_)
 cases h
 exact ⟨rfl, zE⟩
 refine zw 39 false ?_
 refine zh ?_
 refine zU (zl (yn (zn (zr ?_))))
 refine zU (zl ?_)
 cases h
 exact ⟨rfl, zE⟩
 refine zj (zx (ze ?_))
 cases h
 exact ⟨rfl, zE⟩
 try simp only at h
 refine zA (yh (zn (zs (zr ?_))))
 refine zU (zl (zn ?_))
 rcases zI h with ⟨h21, h⟩ | ⟨h21, h⟩
 refine zi (zr ?_)
 obtain ⟨h22, h⟩ := ite_some h
 refine zU (zl (yn (zn (zr ?_))))
 refine zU (zl ?_)
 cases h
 exact ⟨rfl, zE⟩
 refine zj (zk (yn (zn (zr ?_))))
 refine zU (zl ?_)
 cases h
 exact ⟨rfl, zE⟩
 refine zj (zx (ze ?_))
 cases h
 exact ⟨rfl, zE⟩
 try simp only at h
 refine zA (yh (zn (zs (zr ?_))))
 refine zU (zl (zn (zq ?_)))
 cases h
 exact zT Tryz.results26
end Go.Proofs.YthgnkhchpjcboaaGreat
set_option linter.unusedVariables false
set_option linter.unusedSimpArgs false
namespace Go.Proofs.YthgnkhchpjcboaaGreat
open Go Go.Ab
set_option maxRecDepth 20000 in
set_option maxHeartbeats 4000000 in
theorem drosslaw31_awake_con {D : Prop} (r1 : Bool) (h : drosslaw31_awake = some r1) : Con D Tryz.prog 8 [] (.bool r1) := by
 refine zP Tryz.call8 Tryz.func8 rfl Tryz.ntmps8 fun X w => ?_
 simp only [drosslaw31_awake] at h
 refine zs (zr ?_)
 refine zU (zl (zn (zs (zr ?_))))
 obtain ⟨r2, h3, h⟩ := zB h
 refine zc (drosslaw31_example_con  _ h3) ?_
 obtain ⟨r4, h5, h⟩ := zB h
 refine zc (odmine_All_con r2 _ h5) ?_
 refine zU (zl (zn (zs (zr ?_))))
 obtain ⟨r6, h7, h⟩ := zB h
 refine zc (drosslaw31_example_con  _ h7) ?_
 obtain ⟨r8, h9, h⟩ := zB h
 refine zc (odmine_Keys_con r6 _ h9) ?_
 refine zU (zl (zn (zs (zr ?_))))
 refine zU (zl (zn (zs (zr ?_))))
 refine zU ?_
 rcases zI h with ⟨h10, h⟩ | ⟨h10, h⟩
 refine zw 24 true ?_
 refine zg ?_
 refine zg ?_
 refine zU ?_
 rcases zI h with ⟨h11, h⟩ | ⟨h11, h⟩
 refine zw 28 true ?_
 refine zg ?_
 refine zg ?_
 obtain ⟨r12, h13, h⟩ := zB h
 refine zc (drossref17_Same_con r4.1 [(Canonical.mk 0 0 1), (Canonical.mk 0 1 2), (Canonical.mk 1 1 (-1)), (Canonical.mk 1 2 (-1)), (Canonical.mk 6 0 (-1))] _ h13) ?_
 refine zU ?_
 rcases zI h with ⟨h14, h⟩ | ⟨h14, h⟩
 replace h := h.symm
 refine zw 33 true ?_
 refine zg ?_
 refine zg ?_
 refine zg ?_
 refine zU (zl (zn (zq ?_)))
 cases h
 exact zT Tryz.results8
 refine zw 33 false ?_
 refine zh ?_
 refine zU (zl (zn (zq ?_)))
 cases h
 exact zT Tryz.results8
 refine zw 28 false ?_
 refine zh ?_
 refine zU ?_
 refine zh ?_
 refine zU (zl (zn (zq ?_)))
 cases h
 exact zT Tryz.results8
 refine zw 24 false ?_
 refine zh ?_
 refine zU ?_
 refine zh ?_
 refine zU ?_
 refine zh ?_
 refine zU (zl (zn (zq ?_)))
 cases h
 exact zT Tryz.results8
end Go.Proofs.YthgnkhchpjcboaaGreat
set_option linter.unusedVariables false
set_option linter.unusedSimpArgs false
namespace Go.Proofs.YthgnkhchpjcboaaGreat
open Go Go.Ab
set_option maxRecDepth 20000 in
set_option maxHeartbeats 4000000 in
theorem drosslaw31_few_con {D : Prop} (t1 : Table) (r2 : Bool) (h : drosslaw31_few t1 = some r2) : Con D Tryz.prog 9 [(encTable t1)] (.bool r2) := by
 refine zP Tryz.call9 Tryz.func9 rfl Tryz.ntmps9 fun X w => ?_
 simp only [drosslaw31_few] at h
 refine zs (zr ?_)
 refine zU (zl (zn (zs (zr ?_))))
 refine zU ?_
 rcases zI h with ⟨h3, h⟩ | ⟨h3, h⟩
 refine zw 7 true ?_
 refine zg ?_
 refine zg ?_
 refine zg ?_
 refine zg ?_
 refine zg ?_
 rcases zI h with ⟨h4, h⟩ | ⟨h4, h⟩
 replace h := h.symm
 refine zw 12 true ?_
 refine zh ?_
 refine zg ?_
 refine zU (zl (zn (zq ?_)))
 cases h
 exact zT Tryz.results9
 replace h := h.symm
 refine zw 12 false ?_
 refine zg ?_
 refine zg ?_
 refine zg ?_
 refine zg ?_
 refine zg ?_
 refine zU (zl (zn (zq ?_)))
 cases h
 exact zT Tryz.results9
 refine zw 7 false ?_
 refine zh ?_
 refine zU (zl (zn (zq ?_)))
 cases h
 exact zT Tryz.results9
end Go.Proofs.YthgnkhchpjcboaaGreat
set_option linter.unusedVariables false
set_option linter.unusedSimpArgs false
namespace Go.Proofs.YthgnkhchpjcboaaGreat
open Go Go.Ab
set_option maxRecDepth 20000 in
set_option maxHeartbeats 4000000 in
theorem drossref03_letter_con {D : Prop} (c1 : Int) (r2 : Bool) (h : drossref03_letter c1 = some r2) : Con D Tryz.prog 99 [(.int .u8 c1)] (.bool r2) := by
 refine zP Tryz.call99 Tryz.func99 rfl Tryz.ntmps99 fun X w => ?_
 simp only [drossref03_letter] at h
 refine zs (zr ?_)
 refine zU (zl (zn (zs (zr ?_))))
 refine zU ?_
 rcases zI h with ⟨h3, h⟩ | ⟨h3, h⟩
 refine zw 5 true ?_
 refine zg ?_
 refine zg ?_
 refine zU ?_
 rcases zI h with ⟨h4, h⟩ | ⟨h4, h⟩
 refine zw 9 true ?_
 refine zh ?_
 refine zU ?_
 refine zh ?_
 refine zU (zl (zn (zq ?_)))
 cases h
 exact zT Tryz.results99
 refine zw 9 false ?_
 refine zg ?_
 refine zg ?_
 refine zg ?_
 rcases zI h with ⟨h5, h⟩ | ⟨h5, h⟩
 refine zw 12 true ?_
 refine zg ?_
 refine zg ?_
 refine zg ?_
 refine zU ?_
 rcases zI h with ⟨h6, h⟩ | ⟨h6, h⟩
 refine zw 17 true ?_
 refine zh ?_
 refine zU (zl (zn (zq ?_)))
 cases h
 exact zT Tryz.results99
 replace h := h.symm
 refine zw 17 false ?_
 refine zg ?_
 refine zg ?_
 refine zU (zl (zn (zq ?_)))
 cases h
 exact zT Tryz.results99
 replace h := h.symm
 refine zw 12 false ?_
 refine zh ?_
 refine zg ?_
 refine zU ?_
 refine zg ?_
 refine zg ?_
 refine zU (zl (zn (zq ?_)))
 cases h
 exact zT Tryz.results99
 refine zw 5 false ?_
 refine zh ?_
 refine zU ?_
 refine zg ?_
 refine zg ?_
 refine zg ?_
 rcases zI h with ⟨h7, h⟩ | ⟨h7, h⟩
 refine zw 12 true ?_
 refine zg ?_
 refine zg ?_
 refine zg ?_
 refine zU ?_
 rcases zI h with ⟨h8, h⟩ | ⟨h8, h⟩
 refine zw 17 true ?_
 refine zh ?_
 refine zU (zl (zn (zq ?_)))
 cases h
 exact zT Tryz.results99
 replace h := h.symm
 refine zw 17 false ?_
 refine zg ?_
 refine zg ?_
 refine zU (zl (zn (zq ?_)))
 cases h
 exact zT Tryz.results99
 replace h := h.symm
 refine zw 12 false ?_
 refine zh ?_
 refine zg ?_
 refine zU ?_
 refine zg ?_
 refine zg ?_
 refine zU (zl (zn (zq ?_)))
 cases h
 exact zT Tryz.results99
end Go.Proofs.YthgnkhchpjcboaaGreat
set_option linter.unusedVariables false
set_option linter.unusedSimpArgs false
namespace Go.Proofs.YthgnkhchpjcboaaGreat
open Go Go.Ab
set_option maxRecDepth 20000 in
set_option maxHeartbeats 4000000 in
theorem drossref03_Name_con {D : Prop} (s1 : List UInt8) (r2 : Bool) (h : drossref03_Name s1 = some r2) : Con D Tryz.prog 66 [(.str s1)] (.bool r2) := by
 refine zP Tryz.call66 Tryz.func66 rfl Tryz.ntmps66 fun X w => ?_
 simp only [drossref03_Name] at h
 refine zs (zr ?_)
 refine zU (zl (zn (zs (zs (zr ?_)))))
 refine zU ?_
 rcases zI h with ⟨h3, h⟩ | ⟨h3, h⟩
 refine zw 7 true ?_
 refine zh ?_
 refine zU ?_
 refine zh ?_
 refine zU ?_
 refine zh ?_
 refine zU (zl (zn ?_))
 refine zi (zs (zr ?_))
 refine zU (zl (zn (zq (zt ?_))))
 cases h
 exact zT Tryz.results66
 refine zw 7 false ?_
 refine zg ?_
 refine zg ?_
 refine zg ?_
 refine zU ?_
 rcases zI h with ⟨h4, h⟩ | ⟨h4, h⟩
 refine zw 12 true ?_
 refine zh ?_
 refine zU ?_
 refine zh ?_
 refine zU (zl (zn ?_))
 refine zi (zs (zr ?_))
 refine zU (zl (zn (zq (zt ?_))))
 cases h
 exact zT Tryz.results66
 refine zw 12 false ?_
 refine zg ?_
 obtain ⟨c5, h6, h6l, h6L, h⟩ := zY 0 h
 refine zg ?_
 obtain ⟨r7, h8, h⟩ := zB h
 refine zc (drossref03_letter_con ((c5.toNat : Nat) : Int) _ h8) ?_
 refine zg ?_
 refine zU ?_
 rcases zI h with ⟨h9, h⟩ | ⟨h9, h⟩
 refine zw 18 false ?_
 refine zg ?_
 refine zg ?_
 refine zU (zl (zn ?_))
 rcases zI h with ⟨h10, h⟩ | ⟨h10, h⟩
 refine zi (zs (zr ?_))
 refine zU (zl (zn (zq (zt ?_))))
 cases h
 exact zT Tryz.results66
 refine zj (zk (zn (zs (zs (zr ?_)))))
 refine zU (zl (zn (zb ?_)))
 obtain ⟨o11, h12, h⟩ := zB h
 refine zO (fun (s : Int) => ⟨[(0, .p (.str s1)), (3, .p (.int .i64 s))], []⟩) (fun (o : (Unit) ⊕ (Bool)) => match o with | .inl o13 => tE (cX Tryz.f66 X w D) (.exit 0) ⟨[], []⟩ | .inr o14 => tR Tryz.prog Tryz.f66 (.bool o14)) h12 ?_ ?_
 clear h h3 h4 h6 h6l h6L h8 h9 h10 h12
 intro i15 x h
 simp only [drossref03_Name_l1] at h
 refine zs (zs (zr ?_))
 refine zU (zl (zn ?_))
 rcases zI h with ⟨h16, h⟩ | ⟨h16, h⟩
 refine zi (zk (zn (zs (zb (zs (zr ?_))))))
 obtain ⟨c17, h18, h18a, h18b, h⟩ := zX h
 refine zU ?_
 obtain ⟨r19, h20, h⟩ := zB h
 refine zc (drossref03_letter_con ((c17.toNat : Nat) : Int) _ h20) ?_
 refine zU ?_
 rcases zI h with ⟨h21, h⟩ | ⟨h21, h⟩
 refine zw 33 false ?_
 refine zh ?_
 refine zU (zl (zn ?_))
 refine zj (zk (yn (zn (zr ?_))))
 refine zU (zl ?_)
 cases h
 exact ⟨rfl, zE⟩
 refine zw 33 true ?_
 refine zg ?_
 refine zg ?_
 refine zg ?_
 refine zg ?_
 refine zg ?_
 rcases zI h with ⟨h22, h⟩ | ⟨h22, h⟩
 replace h := h.symm
 refine zw 38 true ?_
 refine zh ?_
 refine zg ?_
 refine zU (zl (zn ?_))
 refine zi (zs (zr ?_))
 refine zU (zl (zn (zq (yr (zt ?_)))))
 cases h
 exact ⟨rfl, zT Tryz.results66⟩
 refine zw 38 false ?_
 refine zg ?_
 refine zg ?_
 refine zg ?_
 refine zg ?_
 refine zg ?_
 refine zU (zl (zn ?_))
 rcases zI h with ⟨h23, h⟩ | ⟨h23, h⟩
 refine zi (zs (zr ?_))
 refine zU (zl (zn (zq (yr (zt ?_)))))
 cases h
 exact ⟨rfl, zT Tryz.results66⟩
 refine zj (zk (yn (zn (zr ?_))))
 refine zU (zl ?_)
 cases h
 exact ⟨rfl, zE⟩
 refine zj (zx (ze ?_))
 cases h
 exact ⟨rfl, zE⟩
 rcases o11 with ⟨⟩ | r24
 try simp only at h
 refine zA (yh (zn (zs (zr ?_))))
 refine zU (zl (zn (zq ?_)))
 cases h
 exact zT Tryz.results66
 try simp only at h
 refine zZ fun s hq => ?_
 refine yr (zt ?_)
 cases h
 exact hq
 refine zw 18 true ?_
 refine zh ?_
 refine zU (zl (zn ?_))
 refine zi (zs (zr ?_))
 refine zU (zl (zn (zq (zt ?_))))
 cases h
 exact zT Tryz.results66
end Go.Proofs.YthgnkhchpjcboaaGreat
set_option linter.unusedVariables false
set_option linter.unusedSimpArgs false
namespace Go.Proofs.YthgnkhchpjcboaaGreat
open Go Go.Ab
set_option maxHeartbeats 4000000 in
theorem drossref03_Attr_con {D : Prop} (l1 : List (List UInt8)) (n2 : List UInt8) (r3 : Int) (h : drossref03_Attr l1 n2 = some r3) : Con D Tryz.prog 100 [(.slc (List.map PV.str l1)), (.str n2)] (.int .i64 r3) := by
 refine zP Tryz.call100 Tryz.func100 rfl Tryz.ntmps100 fun X w => ?_
 simp only [drossref03_Attr] at h
 refine zs (zr ?_)
 refine zU (zl (zn (zs (zs (zr ?_)))))
 refine zU (zl (zn (zb ?_)))
 obtain ⟨o4, h5, h⟩ := zB h
 refine zO (fun (s : Int) => ⟨[(0, .p (.slc (List.map PV.str l1))), (1, .p (.str n2)), (5, .p (.int .i64 s))], []⟩) (fun (o : (Unit) ⊕ (Int)) => match o with | .inl o6 => tE (cX Tryz.f100 X w D) (.exit 0) ⟨[], []⟩ | .inr o7 => tR Tryz.prog Tryz.f100 (.int .i64 o7)) h5 ?_ ?_
 clear h h5
 intro i8 x h
 simp only [drossref03_Attr_l1] at h
 refine zs (zs (zr ?_))
 refine zU (zl (zn ?_))
 rcases zI h with ⟨h9, h⟩ | ⟨h9, h⟩
 refine zi (zk (zn (zs (zb (zs (zr ?_))))))
 obtain ⟨x10, h11, h11a, h11b, h⟩ := zX h
 refine zU (zl (zn ?_))
 rcases zI h with ⟨h12, h⟩ | ⟨h12, h⟩
 refine zi (zs (zr ?_))
 refine zU (zl (zn (zq (yr (zt ?_)))))
 cases h
 exact ⟨rfl, zT Tryz.results100⟩
 refine zj (zk (yn (zn (zr ?_))))
 refine zU (zl ?_)
 cases h
 exact ⟨rfl, zE⟩
 refine zj (zx (ze ?_))
 cases h
 exact ⟨rfl, zE⟩
 rcases o4 with ⟨⟩ | r13
 try simp only at h
 refine zA (yh (zn (zs (zr ?_))))
 refine zU (zl (zn (zq ?_)))
 cases h
 exact zT Tryz.results100
 try simp only at h
 refine zZ fun s hq => ?_
 refine yr (zt ?_)
 cases h
 exact hq
end Go.Proofs.YthgnkhchpjcboaaGreat
set_option linter.unusedVariables false
set_option linter.unusedSimpArgs false
namespace Go.Proofs.YthgnkhchpjcboaaGreat
open Go Go.Ab
set_option maxRecDepth 20000 in
set_option maxHeartbeats 4000000 in
theorem drossref03_Names_con {D : Prop} (l1 : List (List UInt8)) (r2 : Bool) (h : drossref03_Names l1 = some r2) : Con D Tryz.prog 67 [(.slc (List.map PV.str l1))] (.bool r2) := by
 refine zP Tryz.call67 Tryz.func67 rfl Tryz.ntmps67 fun X w => ?_
 simp only [drossref03_Names] at h
 refine zs (zr ?_)
 refine zU (zl (zn (zs (zs (zr ?_)))))
 refine zU (zl (zn (zb ?_)))
 obtain ⟨o3, h4, h⟩ := zB h
 refine zO (fun (s : Int) => ⟨[(0, .p (.slc (List.map PV.str l1))), (3, .p (.int .i64 s))], []⟩) (fun (o : (Unit) ⊕ (Bool)) => match o with | .inl o5 => tE (cX Tryz.f67 X w D) (.exit 0) ⟨[], []⟩ | .inr o6 => tR Tryz.prog Tryz.f67 (.bool o6)) h4 ?_ ?_
 clear h h4
 intro i7 x h
 simp only [drossref03_Names_l1] at h
 refine zs (zs (zr ?_))
 refine zU (zl (zn ?_))
 rcases zI h with ⟨h8, h⟩ | ⟨h8, h⟩
 refine zi (zk (zn (zs (zb (zs (zd ?_))))))
 obtain ⟨x9, h10, h10a, h10b, h⟩ := zX h
 refine yU ?_
 obtain ⟨r11, h12, h⟩ := zB h
 refine yc (drossref03_Name_con x9 _ h12) ?_
 refine yU ?_
 rcases zI h with ⟨h13, h⟩ | ⟨h13, h⟩
 refine yw 16 false ?_
 refine yg ?_
 refine yg ?_
 obtain ⟨h14, h⟩ := ite_some h
 obtain ⟨h15, h⟩ := ite_some h
 refine yg ?_
 refine yg ?_
 refine yg ?_
 refine yg ?_
 refine yg ?_
 obtain ⟨r16, h17, h⟩ := zB h
 refine yc (drossref03_Attr_con (l1.take (i7.toNat)) x9 _ h17) ?_
 refine yg ?_
 refine yU ?_
 refine yd (zn ?_)
 rcases zI h with ⟨h18, h⟩ | ⟨h18, h⟩
 refine zi (zs (zr ?_))
 refine zU (zl (zn (zq (yr (zt ?_)))))
 cases h
 exact ⟨rfl, zT Tryz.results67⟩
 refine zj (zk (yn (zn (zr ?_))))
 refine zU (zl ?_)
 cases h
 exact ⟨rfl, zE⟩
 refine yw 16 true ?_
 refine yk ?_
 refine yU ?_
 refine yd (zn ?_)
 refine zi (zs (zr ?_))
 refine zU (zl (zn (zq (yr (zt ?_)))))
 cases h
 exact ⟨rfl, zT Tryz.results67⟩
 refine zj (zx (ze ?_))
 cases h
 exact ⟨rfl, zE⟩
 rcases o3 with ⟨⟩ | r19
 try simp only at h
 refine zA (yh (zn (zs (zr ?_))))
 refine zU (zl (zn (zq ?_)))
 cases h
 exact zT Tryz.results67
 try simp only at h
 refine zZ fun s hq => ?_
 refine yr (zt ?_)
 cases h
 exact hq
end Go.Proofs.YthgnkhchpjcboaaGreat
set_option linter.unusedVariables false
set_option linter.unusedSimpArgs false
namespace Go.Proofs.YthgnkhchpjcboaaGreat
open Go Go.Ab
set_option maxHeartbeats 4000000 in
theorem drossref01_Valid_con {D : Prop} (v1 : Value) (r2 : Bool) (h : drossref01_Valid v1 = some r2) : Con D Tryz.prog 101 [(encValue v1)] (.bool r2) := by
 refine zP Tryz.call101 Tryz.func101 rfl Tryz.ntmps101 fun X w => ?_
 simp only [drossref01_Valid] at h
 refine zs (zr ?_)
 refine zU (zl (zn (zs (zs (zr ?_)))))
 refine zU (zl (zn (zb (zs (zr ?_)))))
 refine zU (zl (zn ?_))
 rcases zI h with ⟨h3, h⟩ | ⟨h3, h⟩
 refine zi (zs (zr ?_))
 refine zU ?_
 rcases zI h with ⟨h4, h⟩ | ⟨h4, h⟩
 replace h := h.symm
 refine zw 10 true ?_
 refine zg ?_
 refine zg ?_
 refine zg ?_
 refine zU (zl (zn (zq (yr (zt ?_)))))
 cases h
 exact zT Tryz.results101
 refine zw 10 false ?_
 refine zh ?_
 refine zU (zl (zn (zq (yr (zt ?_)))))
 cases h
 exact zT Tryz.results101
 refine zj (zs (zr ?_))
 refine zU (zl (zn ?_))
 rcases zI h with ⟨h5, h⟩ | ⟨h5, h⟩
 refine zi (zs (zr ?_))
 refine zU (zl (zn (zq (yr (zt ?_)))))
 cases h
 exact zT Tryz.results101
 refine zj (zs (zr ?_))
 refine zU (zl (zn ?_))
 rcases zI h with ⟨h6, h⟩ | ⟨h6, h⟩
 refine zi (zs (zr ?_))
 refine zU ?_
 rcases zI h with ⟨h7, h⟩ | ⟨h7, h⟩
 replace h := h.symm
 refine zw 25 true ?_
 refine zg ?_
 refine zg ?_
 refine zg ?_
 refine zg ?_
 refine zU (zl (zn (zq (yr (zt ?_)))))
 cases h
 exact zT Tryz.results101
 refine zw 25 false ?_
 refine zh ?_
 refine zU (zl (zn (zq (yr (zt ?_)))))
 cases h
 exact zT Tryz.results101
 refine zj (zk (yn (zn (zs (zr ?_)))))
 refine zU ?_
 rcases zI h with ⟨h8, h⟩ | ⟨h8, h⟩
 refine zw 34 true ?_
 refine zg ?_
 refine zg ?_
 refine zg ?_
 refine zU ?_
 rcases zI h with ⟨h9, h⟩ | ⟨h9, h⟩
 replace h := h.symm
 refine zw 39 true ?_
 refine zg ?_
 refine zg ?_
 refine zg ?_
 refine zU (zl (zn (zq ?_)))
 cases h
 exact zT Tryz.results101
 refine zw 39 false ?_
 refine zh ?_
 refine zU (zl (zn (zq ?_)))
 cases h
 exact zT Tryz.results101
 refine zw 34 false ?_
 refine zh ?_
 refine zU ?_
 refine zh ?_
 refine zU (zl (zn (zq ?_)))
 cases h
 exact zT Tryz.results101
end Go.Proofs.YthgnkhchpjcboaaGreat
set_option linter.unusedVariables false
set_option linter.unusedSimpArgs false
namespace Go.Proofs.YthgnkhchpjcboaaGreat
open Go Go.Ab
set_option maxHeartbeats 4000000 in
theorem drossref01_Valids_con {D : Prop} (l1 : List Value) (r2 : Bool) (h : drossref01_Valids l1 = some r2) : Con D Tryz.prog 68 [(.slc (List.map encValue l1))] (.bool r2) := by
 refine zP Tryz.call68 Tryz.func68 rfl Tryz.ntmps68 fun X w => ?_
 simp only [drossref01_Valids] at h
 refine zs (zr ?_)
 refine zU (zl (zn (zs (zs (zr ?_)))))
 refine zU (zl (zn (zb ?_)))
 obtain ⟨o3, h4, h⟩ := zB h
 refine zO (fun (s : Int) => ⟨[(0, .p (.slc (List.map encValue l1))), (3, .p (.int .i64 s))], []⟩) (fun (o : (Unit) ⊕ (Bool)) => match o with | .inl o5 => tE (cX Tryz.f68 X w D) (.exit 0) ⟨[], []⟩ | .inr o6 => tR Tryz.prog Tryz.f68 (.bool o6)) h4 ?_ ?_
 clear h h4
 intro i7 x h
 simp only [drossref01_Valids_l1] at h
 refine zs (zs (zr ?_))
 refine zU (zl (zn ?_))
 rcases zI h with ⟨h8, h⟩ | ⟨h8, h⟩
 refine zi (zk (zn (zs (zb (zs (zr ?_))))))
 obtain ⟨x9, h10, h10a, h10b, h⟩ := zX h
 refine zU ?_
 obtain ⟨r11, h12, h⟩ := zB h
 refine zc (drossref01_Valid_con x9 _ h12) ?_
 refine zU (zl (zn ?_))
 rcases zI h with ⟨h13, h⟩ | ⟨h13, h⟩
 refine zj (zk (yn (zn (zr ?_))))
 refine zU (zl ?_)
 cases h
 exact ⟨rfl, zE⟩
 refine zi (zs (zr ?_))
 refine zU (zl (zn (zq (yr (zt ?_)))))
 cases h
 exact ⟨rfl, zT Tryz.results68⟩
 refine zj (zx (ze ?_))
 cases h
 exact ⟨rfl, zE⟩
 rcases o3 with ⟨⟩ | r14
 try simp only at h
 refine zA (yh (zn (zs (zr ?_))))
 refine zU (zl (zn (zq ?_)))
 cases h
 exact zT Tryz.results68
 try simp only at h
 refine zZ fun s hq => ?_
 refine yr (zt ?_)
 cases h
 exact hq
end Go.Proofs.YthgnkhchpjcboaaGreat
set_option linter.unusedVariables false
set_option linter.unusedSimpArgs false
namespace Go.Proofs.YthgnkhchpjcboaaGreat
open Go Go.Ab
set_option maxHeartbeats 4000000 in
theorem drossref03_Valid_con {D : Prop} (t1 : Table) (r2 : Int) (h : drossref03_Valid t1 = some r2) : Con D Tryz.prog 40 [(encTable t1)] (.int .i64 r2) := by
 refine zP Tryz.call40 Tryz.func40 rfl Tryz.ntmps40 fun X w => ?_
 simp only [drossref03_Valid] at h
 refine zs (zr ?_)
 refine zU (zl (zn (zs (zs (zr ?_)))))
 refine zU ?_
 obtain ⟨r3, h4, h⟩ := zB h
 refine zc (drossref03_Name_con t1.Name _ h4) ?_
 refine zU (zl (zn ?_))
 rcases zI h with ⟨h5, h⟩ | ⟨h5, h⟩
 refine zj (zk (zn (zs (zs (zr ?_)))))
 refine zU ?_
 rcases zI h with ⟨h6, h⟩ | ⟨h6, h⟩
 refine zw 14 true ?_
 refine zh ?_
 refine zU (zl (zn ?_))
 refine zi (zs (zr ?_))
 refine zU (zl (zn (zq (zt ?_))))
 cases h
 exact zT Tryz.results40
 refine zw 14 false ?_
 refine zg ?_
 refine zg ?_
 refine zg ?_
 refine zg ?_
 refine zU (zl (zn ?_))
 rcases zI h with ⟨h7, h⟩ | ⟨h7, h⟩
 refine zi (zs (zr ?_))
 refine zU (zl (zn (zq (zt ?_))))
 cases h
 exact zT Tryz.results40
 refine zj (zk (zn (zs (zs (zr ?_)))))
 refine zU ?_
 obtain ⟨r8, h9, h⟩ := zB h
 refine zc (drossref03_Names_con t1.Attrs _ h9) ?_
 refine zU (zl (zn ?_))
 rcases zI h with ⟨h10, h⟩ | ⟨h10, h⟩
 refine zj (zk (zn (zs (zr ?_))))
 refine zU (zl (zn (zs (zs (zr ?_)))))
 refine zU (zl (zn (zb ?_)))
 obtain ⟨o11, h12, h⟩ := zB h
 refine zO (fun (s : Int × Int) => ⟨[(1, .loc 1 1 0 0), (3, .p (.int .i64 s.1)), (4, .p (.int .i64 s.2))], [(1, .arr 25 3 1 [.p (encTable t1)])]⟩) (fun (o : (Unit) ⊕ (Int)) => match o with | .inl o13 => tE (cX Tryz.f40 X w D) (.exit 0) ⟨[], []⟩ | .inr o14 => tR Tryz.prog Tryz.f40 (.int .i64 o14)) h12 ?_ ?_
 clear h h4 h5 h6 h7 h9 h10 h12
 intro s x h
 obtain ⟨b15, i16⟩ := s
 simp only [drossref03_Valid_l1] at h
 dsimp only
 refine zs (zs (zr ?_))
 refine zU (zl (zn ?_))
 rcases zI h with ⟨h17, h⟩ | ⟨h17, h⟩
 refine zi (zk (zn (zs (zb (zs (zr ?_))))))
 obtain ⟨x18, h19, h19a, h19b, h⟩ := zX h
 refine zU (zl (zn (zs (zs (zr ?_)))))
 refine zU (zl (zn ?_))
 rcases zI h with ⟨h20, h⟩ | ⟨h20, h⟩
 refine zi (zs (zr ?_))
 refine zU (zl (zn (zq (zt (yr (zt ?_))))))
 cases h
 exact ⟨rfl, zT Tryz.results40⟩
 refine zj (zk (zn (zs (zr ?_))))
 refine zU (zl (zn (zs (zs (zr ?_)))))
 refine zU (zl (zn ?_))
 rcases zI h with ⟨h21, h⟩ | ⟨h21, h⟩
 refine zi (zs (zr ?_))
 refine zU (zl (zn (zq (zt (yr (zt ?_))))))
 cases h
 exact ⟨rfl, zT Tryz.results40⟩
 refine zj (zk (zn (zs (zr ?_))))
 refine zU ?_
 obtain ⟨r22, h23, h⟩ := zB h
 refine zc (drossref01_Valids_con x18.Values _ h23) ?_
 refine zU (zl (zn ?_))
 rcases zI h with ⟨h24, h⟩ | ⟨h24, h⟩
 refine zj (zk (yn (zn (zr ?_))))
 refine zU (zl ?_)
 cases h
 exact ⟨rfl, zE⟩
 refine zi (zs (zr ?_))
 refine zU (zl (zn (zq (yr (zt ?_)))))
 cases h
 exact ⟨rfl, zT Tryz.results40⟩
 refine zj (zx (ze ?_))
 cases h
 exact ⟨rfl, zE⟩
 rcases o11 with ⟨⟩ | r25
 try simp only at h
 refine zA (yh (zn (zs (zr ?_))))
 refine zU (zl (zn (zq ?_)))
 cases h
 exact zT Tryz.results40
 try simp only at h
 refine zZ fun s hq => ?_
 refine yr (zt ?_)
 cases h
 exact hq
 refine zi (zs (zr ?_))
 refine zU (zl (zn (zq (zt ?_))))
 cases h
 exact zT Tryz.results40
 refine zi (zs (zr ?_))
 refine zU (zl (zn (zq (zt ?_))))
 cases h
 exact zT Tryz.results40
end Go.Proofs.YthgnkhchpjcboaaGreat
set_option linter.unusedVariables false
set_option linter.unusedSimpArgs false
namespace Go.Proofs.YthgnkhchpjcboaaGreat
open Go Go.Ab
set_option maxHeartbeats 4000000 in
theorem drossref31_Error_con {D : Prop} (t1 : Table) (r2 : Int) (h : drossref31_Error t1 = some r2) : Con D Tryz.prog 27 [(encTable t1)] (.int .i64 r2) := by
 refine zP Tryz.call27 Tryz.func27 rfl Tryz.ntmps27 fun X w => ?_
 simp only [drossref31_Error] at h
 refine zs (zr ?_)
 refine zU (zl (zn (zs (zs (zr ?_)))))
 refine zU ?_
 obtain ⟨r3, h4, h⟩ := zB h
 refine zc (drossref03_Valid_con t1 _ h4) ?_
 refine zU (zl (zn (zs (zr ?_))))
 refine zU (zl (zn ?_))
 rcases zI h with ⟨h5, h⟩ | ⟨h5, h⟩
 refine zi (zs (zr ?_))
 refine zU (zl (zn (zq (zt ?_))))
 cases h
 exact zT Tryz.results27
 refine zj (zk (zn (zs (zs (zr ?_)))))
 refine zU ?_
 rcases zI h with ⟨h6, h⟩ | ⟨h6, h⟩
 refine zw 13 true ?_
 refine zh ?_
 refine zU (zl (zn ?_))
 refine zi (zs (zr ?_))
 refine zU (zl (zn (zq (zt ?_))))
 cases h
 exact zT Tryz.results27
 refine zw 13 false ?_
 refine zg ?_
 refine zg ?_
 refine zg ?_
 refine zg ?_
 refine zU (zl (zn ?_))
 rcases zI h with ⟨h7, h⟩ | ⟨h7, h⟩
 refine zi (zs (zr ?_))
 refine zU (zl (zn (zq (zt ?_))))
 cases h
 exact zT Tryz.results27
 refine zj (zk (zn (zs (zr ?_))))
 refine zU (zl (zn (zq ?_)))
 cases h
 exact zT Tryz.results27
end Go.Proofs.YthgnkhchpjcboaaGreat
set_option linter.unusedVariables false
set_option linter.unusedSimpArgs false
namespace Go.Proofs.YthgnkhchpjcboaaGreat
open Go Go.Ab
set_option maxHeartbeats 4000000 in
theorem drossref02_Has_con {D : Prop} (s1 : Int) (i2 : Int) (r3 : Bool) (h : drossref02_Has s1 i2 = some r3) : Con D Tryz.prog 89 [(.int .u32 s1), (.int .i64 i2)] (.bool r3) := by
 refine zP Tryz.call89 Tryz.func89 rfl Tryz.ntmps89 fun X w => ?_
 simp only [drossref02_Has] at h
 refine zs (zr ?_)
 refine zU (zl (zn (zs (zr ?_))))
 refine zU ?_
 rcases zI h with ⟨h4, h⟩ | ⟨h4, h⟩
 refine zw 7 true ?_
 refine zg ?_
 refine zg ?_
 refine zU ?_
 rcases zI h with ⟨h5, h⟩ | ⟨h5, h⟩
 refine zw 11 true ?_
 refine zg ?_
 refine zg ?_
 obtain ⟨h6, h⟩ := ite_none h
 replace h := h.symm
 refine zg ?_
 refine zg ?_
 refine zg ?_
 refine zU (zl (zn (zq ?_)))
 cases h
 exact zT Tryz.results89
 refine zw 11 false ?_
 refine zh ?_
 refine zU (zl (zn (zq ?_)))
 cases h
 exact zT Tryz.results89
 refine zw 7 false ?_
 refine zh ?_
 refine zU ?_
 refine zh ?_
 refine zU (zl (zn (zq ?_)))
 cases h
 exact zT Tryz.results89
end Go.Proofs.YthgnkhchpjcboaaGreat
set_option linter.unusedVariables false
set_option linter.unusedSimpArgs false
namespace Go.Proofs.YthgnkhchpjcboaaGreat
open Go Go.Ab
set_option maxHeartbeats 4000000 in
theorem drossref02_Members_con {D : Prop} (s1 : Int) (r2 : List Int) (h : drossref02_Members s1 = some r2) : Con D Tryz.prog 88 [(.int .u32 s1)] (.slc (List.map (PV.int .i64) r2)) := by
 refine zP Tryz.call88 Tryz.func88 rfl Tryz.ntmps88 fun X w => ?_
 simp only [drossref02_Members] at h
 refine zs (zr ?_)
 refine zU (zl (zn (zs (zr ?_))))
 refine zU (zl (zn (zs (zs (zr ?_)))))
 refine zU (zl (zn (zb ?_)))
 obtain ⟨o3, h4, h⟩ := zB h
 refine zO (fun (s : List Int × Int) => ⟨[(0, .p (.int .u32 s1)), (3, .own 15 1 0 s.1.length), (4, .p (.int .i64 s.2))], [(15, .arr 3 1 1 (List.map AV.p (List.map (PV.int .i64) s.1)))]⟩) (fun (o5 : List Int) => tE (cX Tryz.f88 X w D) (.exit 0) ⟨[(3, .own 15 1 0 o5.length)], [(15, .arr 3 1 1 (List.map AV.p (List.map (PV.int .i64) o5)))]⟩) h4 ?_ ?_
 clear h h4
 intro s x h
 obtain ⟨o6, i7⟩ := s
 simp only [drossref02_Members_l1] at h
 dsimp only
 refine zs (zs (zr ?_))
 refine zU (zl (zn ?_))
 rcases zI h with ⟨h8, h⟩ | ⟨h8, h⟩
 refine zi (zk (zn (zs (zb (zs (zr ?_))))))
 refine zU ?_
 obtain ⟨r9, h10, h⟩ := zB h
 refine zc (drossref02_Has_con s1 i7 _ h10) ?_
 refine zl (zn ?_)
 rcases zI h with ⟨h11, h⟩ | ⟨h11, h⟩
 refine zi (zr ?_)
 obtain ⟨h12, h⟩ := ite_some h
 refine zU (zl (yn (zn (zr ?_))))
 refine zU (zl ?_)
 cases h
 exact ⟨rfl, zE⟩
 refine zj (zk (yn (zn (zr ?_))))
 refine zU (zl ?_)
 cases h
 exact ⟨rfl, zE⟩
 refine zj (zx (ze ?_))
 cases h
 exact ⟨rfl, zE⟩
 try simp only at h
 refine zA (yh (zn (zs (zr ?_))))
 refine zU (zl (zn (zq ?_)))
 cases h
 exact zT Tryz.results88
end Go.Proofs.YthgnkhchpjcboaaGreat
set_option linter.unusedVariables false
set_option linter.unusedSimpArgs false
namespace Go.Proofs.YthgnkhchpjcboaaGreat
open Go Go.Ab
set_option maxHeartbeats 4000000 in
theorem drossref02_Size_con {D : Prop} (s1 : Int) (r2 : Int) (h : drossref02_Size s1 = some r2) : Con D Tryz.prog 55 [(.int .u32 s1)] (.int .i64 r2) := by
 refine zP Tryz.call55 Tryz.func55 rfl Tryz.ntmps55 fun X w => ?_
 simp only [drossref02_Size] at h
 refine zs (zr ?_)
 refine zU (zl (zn (zs (zr ?_))))
 refine zU ?_
 obtain ⟨r3, h4, h⟩ := zB h
 refine zc (drossref02_Members_con s1 _ h4) ?_
 refine zU (zl (zn (zq ?_)))
 cases h
 exact zT Tryz.results55
end Go.Proofs.YthgnkhchpjcboaaGreat
set_option linter.unusedVariables false
set_option linter.unusedSimpArgs false
namespace Go.Proofs.YthgnkhchpjcboaaGreat
open Go Go.Ab
set_option maxHeartbeats 4000000 in
theorem drossref02_next_con {D : Prop} (x1 : Int) (s2 : Int) (r3 : Int) (h : drossref02_next x1 s2 = some r3) : Con D Tryz.prog 56 [(.int .u64 x1), (.int .u64 s2)] (.int .u64 r3) := by
 refine zP Tryz.call56 Tryz.func56 rfl Tryz.ntmps56 fun X w => ?_
 simp only [drossref02_next] at h
 refine zs (zr ?_)
 refine zU (zl (zn (zs (zs (zr ?_)))))
 refine zU (zl (zn ?_))
 rcases zI h with ⟨h4, h⟩ | ⟨h4, h⟩
 refine zi (zs (zr ?_))
 refine zU (zl (zn (zq (zt ?_))))
 cases h
 exact zT Tryz.results56
 refine zj (zk (zn (zs (zr ?_))))
 refine zU (zl (zn (zq ?_)))
 cases h
 exact zT Tryz.results56
end Go.Proofs.YthgnkhchpjcboaaGreat
set_option linter.unusedVariables false
set_option linter.unusedSimpArgs false
namespace Go.Proofs.YthgnkhchpjcboaaGreat
open Go Go.Ab
set_option maxHeartbeats 4000000 in
theorem drossref02_Subsets_con {D : Prop} (s1 : Int) (r2 : List Int) (h : drossref02_Subsets s1 = some r2) : Con D Tryz.prog 28 [(.int .u32 s1)] (.slc (List.map (PV.int .u32) r2)) := by
 refine zP Tryz.call28 Tryz.func28 rfl Tryz.ntmps28 fun X w => ?_
 simp only [drossref02_Subsets] at h
 refine zs (zr ?_)
 refine zU (zl (zn (zs (zs (zr ?_)))))
 refine zU ?_
 obtain ⟨r3, h4, h⟩ := zB h
 refine zc (drossref02_Size_con s1 _ h4) ?_
 refine zU (zl (zn ?_))
 rcases zI h with ⟨h5, h⟩ | ⟨h5, h⟩
 refine zi (zs (zr ?_))
 refine zU (zl (zn (zq (zt ?_))))
 cases h
 exact zT Tryz.results28
 refine zj (zk (zn (zs (zr ?_))))
 refine zU (zl (zn (zs (zs (zr ?_)))))
 refine zU (zl (zn (zb ?_)))
 obtain ⟨o6, h7, h⟩ := zB h
 refine zO (fun (s : List Int × Int) => ⟨[(0, .p (.int .u32 s1)), (3, .own 32 1 0 s.1.length), (4, .p (.int .i64 s.2))], [(32, .arr 36 1 1 (List.map AV.p (List.map (PV.int .u32) s.1)))]⟩) (fun (o8 : List Int) => tE (cX Tryz.f28 X w D) (.exit 0) ⟨[(3, .own 32 1 0 o8.length)], [(32, .arr 36 1 1 (List.map AV.p (List.map (PV.int .u32) o8)))]⟩) h7 ?_ ?_
 clear h h4 h5 h7
 intro s x h
 obtain ⟨o9, k10⟩ := s
 simp only [drossref02_Subsets_l4] at h
 dsimp only
 refine zs (zs (zr ?_))
 refine zU ?_
 obtain ⟨r11, h12, h⟩ := zB h
 refine zc (drossref02_Size_con s1 _ h12) ?_
 refine zU (zl (zn ?_))
 rcases zI h with ⟨h13, h⟩ | ⟨h13, h⟩
 refine zi (zk (zn (zs (zb (zs (zr ?_))))))
 refine zU (zl (zn (zb ?_)))
 obtain ⟨o14, h15, h⟩ := zB h
 refine zO (fun (s : List Int × Int) => ⟨[(0, .p (.int .u32 s1)), (3, .own 32 1 0 s.1.length), (4, .p (.int .i64 k10)), (5, .p (.int .u64 s.2))], [(32, .arr 36 1 1 (List.map AV.p (List.map (PV.int .u32) s.1)))]⟩) (fun (o16 : List Int) => tE (cX Tryz.f28 X w D) (.exit 2) ⟨[(0, .p (.int .u32 s1)), (3, .own 32 1 0 o16.length), (4, .p (.int .i64 k10))], [(32, .arr 36 1 1 (List.map AV.p (List.map (PV.int .u32) o16)))]⟩) h15 ?_ ?_
 clear h h12 h13 h15
 intro s x h
 obtain ⟨o17, x18⟩ := s
 simp only [drossref02_Subsets_l3] at h
 dsimp only
 refine zs (zs (zr ?_))
 refine zU (zl (zn ?_))
 rcases zI h with ⟨h19, h⟩ | ⟨h19, h⟩
 refine zi (zk (zn ?_))
 obtain ⟨o20, h21, h⟩ := zB h
 refine zJ (fun (o22 : List Int) => tE (cX Tryz.f28 X w D) .normal ⟨[(0, .p (.int .u32 s1)), (3, .own 32 1 0 o22.length), (4, .p (.int .i64 k10)), (5, .p (.int .u64 x18))], [(32, .arr 36 1 1 (List.map AV.p (List.map (PV.int .u32) o22)))]⟩) o20 ?_ ?_
 replace h := h21
 clear h21
 refine zb (zs (zr ?_))
 refine zU ?_
 obtain ⟨r23, h24, h⟩ := zB h
 refine zc (drossref02_Size_con (IntKind.u32.wrap x18) _ h24) ?_
 refine zU (zl (zn ?_))
 rcases zI h with ⟨h25, h⟩ | ⟨h25, h⟩
 refine zi (zr ?_)
 obtain ⟨h26, h⟩ := ite_some h
 refine zU (zl (yn ?_))
 cases h
 exact ⟨rfl, zE⟩
 refine zj (zk (yn ?_))
 cases h
 exact ⟨rfl, zE⟩
 try simp only at h
 refine zA (zn (zr ?_))
 refine zU ?_
 obtain ⟨r27, h28, h⟩ := zB h
 refine zc (drossref02_next_con x18 (IntKind.u64.wrap s1) _ h28) ?_
 refine zU (zl ?_)
 cases h
 exact ⟨rfl, zE⟩
 refine zj (zx (ze ?_))
 cases h
 exact ⟨rfl, zE⟩
 try simp only at h
 refine zA (yh (yn (zn (zr ?_))))
 refine zU (zl ?_)
 cases h
 exact ⟨rfl, zE⟩
 refine zj (zx (ze ?_))
 cases h
 exact ⟨rfl, zE⟩
 try simp only at h
 refine zA (yh (zn (zs (zr ?_))))
 refine zU (zl (zn (zq ?_)))
 cases h
 exact zT Tryz.results28
end Go.Proofs.YthgnkhchpjcboaaGreat
set_option linter.unusedVariables false
set_option linter.unusedSimpArgs false
namespace Go.Proofs.YthgnkhchpjcboaaGreat
open Go Go.Ab
set_option maxHeartbeats 4000000 in
theorem drossref02_Full_con {D : Prop} (n1 : Int) (r2 : Int) (h : drossref02_Full n1 = some r2) : Con D Tryz.prog 29 [(.int .i64 n1)] (.int .u32 r2) := by
 refine zP Tryz.call29 Tryz.func29 rfl Tryz.ntmps29 fun X w => ?_
 simp only [drossref02_Full] at h
 refine zs (zr ?_)
 refine zU (zl (zn (zs (zr ?_))))
 refine zU (zl (zn (zs (zs (zr ?_)))))
 refine zU (zl (zn (zb ?_)))
 obtain ⟨s3, h4, h⟩ := zB h
 refine zO (fun (s : Int × Int) => ⟨[(0, .p (.int .i64 n1)), (3, .p (.int .u32 s.1)), (4, .p (.int .i64 s.2))], []⟩) (fun (o5 : Int) => tE (cX Tryz.f29 X w D) (.exit 0) ⟨[(3, .p (.int .u32 o5))], []⟩) h4 ?_ ?_
 clear h h4
 intro s x h
 obtain ⟨s6, i7⟩ := s
 simp only [drossref02_Full_l1] at h
 dsimp only
 refine zs (zs (zr ?_))
 refine zU ?_
 rcases zI h with ⟨h8, h⟩ | ⟨h8, h⟩
 refine zw 8 true ?_
 refine zg ?_
 refine zg ?_
 refine zU (zl (zn ?_))
 rcases zI h with ⟨h9, h⟩ | ⟨h9, h⟩
 refine zi (zk (zn (zs (zb (zr ?_)))))
 obtain ⟨h10, h⟩ := ite_none h
 refine zU (zl (yn (zn (zr ?_))))
 refine zU (zl ?_)
 cases h
 exact ⟨rfl, zE⟩
 refine zj (zx (ze ?_))
 cases h
 exact ⟨rfl, zE⟩
 refine zw 8 false ?_
 refine zh ?_
 refine zU (zl (zn ?_))
 refine zj (zx (ze ?_))
 cases h
 exact ⟨rfl, zE⟩
 try simp only at h
 refine zA (yh (zn (zs (zr ?_))))
 refine zU (zl (zn (zq ?_)))
 cases h
 exact zT Tryz.results29
end Go.Proofs.YthgnkhchpjcboaaGreat
set_option linter.unusedVariables false
set_option linter.unusedSimpArgs false
namespace Go.Proofs.YthgnkhchpjcboaaGreat
open Go Go.Ab
set_option maxRecDepth 20000 in
set_option maxHeartbeats 4000000 in
theorem drossref31_Trivial_con {D : Prop} (c1 : Canonical) (r2 : Bool) (h : drossref31_Trivial c1 = some r2) : Con D Tryz.prog 57 [(encCanonical c1)] (.bool r2) := by
 refine zP Tryz.call57 Tryz.func57 rfl Tryz.ntmps57 fun X w => ?_
 simp only [drossref31_Trivial] at h
 refine zs (zr ?_)
 refine zU (zl (zn (zs (zs (zr ?_)))))
 refine zU ?_
 obtain ⟨r3, h4, h⟩ := zB h
 refine zc (drossref02_Has_con c1.Context c1.A _ h4) ?_
 refine zl (zn ?_)
 rcases zI h with ⟨h5, h⟩ | ⟨h5, h⟩
 refine zi (zs (zr ?_))
 refine zU (zl (zn (zq (zt ?_))))
 cases h
 exact zT Tryz.results57
 refine zj (zk (zn (zs (zr ?_))))
 refine zU ?_
 rcases zI h with ⟨h6, h⟩ | ⟨h6, h⟩
 refine zw 11 true ?_
 refine zg ?_
 refine zg ?_
 refine zg ?_
 refine zg ?_
 refine zg ?_
 refine zg ?_
 rcases zI h with ⟨h7, h⟩ | ⟨h7, h⟩
 replace h := h.symm
 refine zw 17 true ?_
 refine zh ?_
 refine zg ?_
 refine zU (zl (zn (zq ?_)))
 cases h
 exact zT Tryz.results57
 refine zw 17 false ?_
 refine zg ?_
 refine zg ?_
 refine zg ?_
 refine zg ?_
 obtain ⟨r8, h9, h⟩ := zB h
 replace h := h.symm
 refine zc (drossref02_Has_con c1.Context c1.B _ h9) ?_
 refine zg ?_
 refine zU (zl (zn (zq ?_)))
 cases h
 exact zT Tryz.results57
 refine zw 11 false ?_
 refine zh ?_
 refine zU (zl (zn (zq ?_)))
 cases h
 exact zT Tryz.results57
end Go.Proofs.YthgnkhchpjcboaaGreat
set_option linter.unusedVariables false
set_option linter.unusedSimpArgs false
namespace Go.Proofs.YthgnkhchpjcboaaGreat
open Go Go.Ab
set_option maxHeartbeats 4000000 in
theorem drossref02_Sub_con {D : Prop} (a1 : Int) (b2 : Int) (r3 : Bool) (h : drossref02_Sub a1 b2 = some r3) : Con D Tryz.prog 39 [(.int .u32 a1), (.int .u32 b2)] (.bool r3) := by
 refine zP Tryz.call39 Tryz.func39 rfl Tryz.ntmps39 fun X w => ?_
 simp only [drossref02_Sub] at h
 refine zs (zr ?_)
 refine zU (zl (zn (zs (zr ?_))))
 refine zU (zl (zn (zq ?_)))
 cases h
 exact zT Tryz.results39
end Go.Proofs.YthgnkhchpjcboaaGreat
set_option linter.unusedVariables false
set_option linter.unusedSimpArgs false
namespace Go.Proofs.YthgnkhchpjcboaaGreat
open Go Go.Ab
set_option maxRecDepth 20000 in
set_option maxHeartbeats 4000000 in
theorem drossref17_Statement_con {D : Prop} (n1 : Int) (c2 : Canonical) (r3 : Bool) (h : drossref17_Statement n1 c2 = some r3) : Con D Tryz.prog 18 [(.int .i64 n1), (encCanonical c2)] (.bool r3) := by
 refine zP Tryz.call18 Tryz.func18 rfl Tryz.ntmps18 fun X w => ?_
 simp only [drossref17_Statement] at h
 refine zs (zr ?_)
 refine zU (zl (zn (zs (zd ?_))))
 refine yU ?_
 rcases zI h with ⟨h4, h⟩ | ⟨h4, h⟩
 refine yw 8 true ?_
 refine yg ?_
 refine yg ?_
 refine yg ?_
 refine yg ?_
 refine yU ?_
 rcases zI h with ⟨h5, h⟩ | ⟨h5, h⟩
 refine yw 14 true ?_
 refine yg ?_
 refine yg ?_
 refine yg ?_
 refine yU ?_
 rcases zI h with ⟨h6, h⟩ | ⟨h6, h⟩
 refine yw 19 true ?_
 refine yg ?_
 refine yg ?_
 refine yg ?_
 refine yg ?_
 refine yU ?_
 rcases zI h with ⟨h7, h⟩ | ⟨h7, h⟩
 refine yw 25 true ?_
 refine yg ?_
 refine yg ?_
 refine yg ?_
 obtain ⟨r8, h9, h⟩ := zB h
 refine yc (drossref02_Full_con n1 _ h9) ?_
 obtain ⟨r10, h11, h⟩ := zB h
 refine yc (drossref02_Sub_con c2.Context r8 _ h11) ?_
 refine yU ?_
 refine yd (zn (zq ?_))
 cases h
 exact zT Tryz.results18
 refine yw 25 false ?_
 refine yk ?_
 refine yU ?_
 refine yd (zn (zq ?_))
 cases h
 exact zT Tryz.results18
 refine yw 19 false ?_
 refine yk ?_
 refine yU ?_
 refine yk ?_
 refine yU ?_
 refine yd (zn (zq ?_))
 cases h
 exact zT Tryz.results18
 refine yw 14 false ?_
 refine yk ?_
 refine yU ?_
 refine yk ?_
 refine yU ?_
 refine yk ?_
 refine yU ?_
 refine yd (zn (zq ?_))
 cases h
 exact zT Tryz.results18
 refine yw 8 false ?_
 refine yk ?_
 refine yU ?_
 refine yk ?_
 refine yU ?_
 refine yk ?_
 refine yU ?_
 refine yk ?_
 refine yU ?_
 refine yd (zn (zq ?_))
 cases h
 exact zT Tryz.results18
end Go.Proofs.YthgnkhchpjcboaaGreat
set_option linter.unusedVariables false
set_option linter.unusedSimpArgs false
namespace Go.Proofs.YthgnkhchpjcboaaGreat
open Go Go.Ab
set_option maxHeartbeats 4000000 in
theorem drossref01_sign_con {D : Prop} (a1 : Int) (b2 : Int) (r3 : Int) (h : drossref01_sign a1 b2 = some r3) : Con D Tryz.prog 103 [(.int .i64 a1), (.int .i64 b2)] (.int .i64 r3) := by
 refine zP Tryz.call103 Tryz.func103 rfl Tryz.ntmps103 fun X w => ?_
 simp only [drossref01_sign] at h
 refine zs (zr ?_)
 refine zU (zl (zn (zs (zs (zr ?_)))))
 refine zU (zl (zn ?_))
 rcases zI h with ⟨h4, h⟩ | ⟨h4, h⟩
 refine zi (zs (zr ?_))
 refine zU (zl (zn (zq (zt ?_))))
 cases h
 exact zT Tryz.results103
 refine zj (zk (zn (zs (zs (zr ?_)))))
 refine zU (zl (zn ?_))
 rcases zI h with ⟨h5, h⟩ | ⟨h5, h⟩
 refine zi (zs (zr ?_))
 refine zU (zl (zn (zq (zt ?_))))
 cases h
 exact zT Tryz.results103
 refine zj (zk (zn (zs (zr ?_))))
 refine zU (zl (zn (zq ?_)))
 cases h
 exact zT Tryz.results103
end Go.Proofs.YthgnkhchpjcboaaGreat
set_option linter.unusedVariables false
set_option linter.unusedSimpArgs false
namespace Go.Proofs.YthgnkhchpjcboaaGreat
open Go Go.Ab
set_option maxRecDepth 20000 in
set_option maxHeartbeats 4000000 in
theorem drossref01_strings_con {D : Prop} (a1 : List UInt8) (b2 : List UInt8) (r3 : Int) (h : drossref01_strings a1 b2 = some r3) : Con D Tryz.prog 104 [(.str a1), (.str b2)] (.int .i64 r3) := by
 refine zP Tryz.call104 Tryz.func104 rfl Tryz.ntmps104 fun X w => ?_
 simp only [drossref01_strings] at h
 refine zs (zr ?_)
 refine zU (zl (zn (zs (zs (zr ?_)))))
 refine zU (zl (zn (zb ?_)))
 obtain ⟨o4, h5, h⟩ := zB h
 refine zO (fun (s : Int) => ⟨[(0, .p (.str a1)), (1, .p (.str b2)), (5, .p (.int .i64 s))], []⟩) (fun (o : (Unit) ⊕ (Int)) => match o with | .inl o6 => tE (cX Tryz.f104 X w D) (.exit 0) ⟨[(0, .p (.str a1)), (1, .p (.str b2))], []⟩ | .inr o7 => tR Tryz.prog Tryz.f104 (.int .i64 o7)) h5 ?_ ?_
 clear h h5
 intro i8 x h
 simp only [drossref01_strings_l1] at h
 refine zs (zs (zr ?_))
 refine zU ?_
 rcases zI h with ⟨h9, h⟩ | ⟨h9, h⟩
 refine zw 10 true ?_
 refine zg ?_
 refine zg ?_
 refine zg ?_
 refine zg ?_
 refine zU (zl (zn ?_))
 rcases zI h with ⟨h10, h⟩ | ⟨h10, h⟩
 refine zi (zk (zn (zs (zb (zs (zd ?_))))))
 obtain ⟨c11, h12, h12a, h12b, h⟩ := zX h
 obtain ⟨c13, h14, h14a, h14b, h⟩ := zX h
 refine yU ?_
 refine yd (zn ?_)
 rcases zI h with ⟨h15, h⟩ | ⟨h15, h⟩
 refine zi (zs (zd ?_))
 refine yU ?_
 obtain ⟨r16, h17, h⟩ := zB h
 refine yc (drossref01_sign_con (IntKind.i64.wrap ((c11.toNat : Nat) : Int)) (IntKind.i64.wrap ((c13.toNat : Nat) : Int)) _ h17) ?_
 refine yU ?_
 refine yd (zn (zq (yr (zt ?_))))
 cases h
 exact ⟨rfl, zT Tryz.results104⟩
 refine zj (zk (yn (zn (zr ?_))))
 refine zU (zl ?_)
 cases h
 exact ⟨rfl, zE⟩
 refine zj (zx (ze ?_))
 cases h
 exact ⟨rfl, zE⟩
 refine zw 10 false ?_
 refine zh ?_
 refine zU (zl (zn ?_))
 refine zj (zx (ze ?_))
 cases h
 exact ⟨rfl, zE⟩
 rcases o4 with ⟨⟩ | r18
 try simp only at h
 refine zA (yh (zn (zs (zr ?_))))
 refine zU ?_
 obtain ⟨r19, h20, h⟩ := zB h
 refine zc (drossref01_sign_con (a1.length : Int) (b2.length : Int) _ h20) ?_
 refine zU (zl (zn (zq ?_)))
 cases h
 exact zT Tryz.results104
 try simp only at h
 refine zZ fun s hq => ?_
 refine yr (zt ?_)
 cases h
 exact hq
end Go.Proofs.YthgnkhchpjcboaaGreat
set_option linter.unusedVariables false
set_option linter.unusedSimpArgs false
namespace Go.Proofs.YthgnkhchpjcboaaGreat
open Go Go.Ab
set_option maxHeartbeats 4000000 in
theorem drossref01_Compare_con {D : Prop} (a1 : Value) (b2 : Value) (r3 : Int) (h : drossref01_Compare a1 b2 = some r3) : Con D Tryz.prog 71 [(encValue a1), (encValue b2)] (.int .i64 r3) := by
 refine zP Tryz.call71 Tryz.func71 rfl Tryz.ntmps71 fun X w => ?_
 simp only [drossref01_Compare] at h
 refine zs (zr ?_)
 refine zU (zl (zn (zs (zs (zr ?_)))))
 refine zU ?_
 obtain ⟨r4, h5, h⟩ := zB h
 refine zc (drossref01_sign_con a1.Kind b2.Kind _ h5) ?_
 refine zU (zl (zn (zs (zr ?_))))
 refine zU (zl (zn ?_))
 rcases zI h with ⟨h6, h⟩ | ⟨h6, h⟩
 refine zi (zs (zr ?_))
 refine zU (zl (zn (zq (zt ?_))))
 cases h
 exact zT Tryz.results71
 refine zj (zk (zn (zs (zs (zr ?_)))))
 refine zU ?_
 obtain ⟨r7, h8, h⟩ := zB h
 refine zc (drossref01_sign_con a1.Num b2.Num _ h8) ?_
 refine zU (zl (zn (zs (zr ?_))))
 refine zU (zl (zn ?_))
 rcases zI h with ⟨h9, h⟩ | ⟨h9, h⟩
 refine zi (zs (zr ?_))
 refine zU (zl (zn (zq (zt ?_))))
 cases h
 exact zT Tryz.results71
 refine zj (zk (zn (zs (zr ?_))))
 refine zU ?_
 obtain ⟨r10, h11, h⟩ := zB h
 refine zc (drossref01_strings_con a1.Str b2.Str _ h11) ?_
 refine zU (zl (zn (zq ?_)))
 cases h
 exact zT Tryz.results71
end Go.Proofs.YthgnkhchpjcboaaGreat
set_option linter.unusedVariables false
set_option linter.unusedSimpArgs false
namespace Go.Proofs.YthgnkhchpjcboaaGreat
open Go Go.Ab
set_option maxRecDepth 20000 in
set_option maxHeartbeats 4000000 in
theorem drossref01_Lists_con {D : Prop} (a1 : List Value) (b2 : List Value) (r3 : Int) (h : drossref01_Lists a1 b2 = some r3) : Con D Tryz.prog 102 [(.slc (List.map encValue a1)), (.slc (List.map encValue b2))] (.int .i64 r3) := by
 refine zP Tryz.call102 Tryz.func102 rfl Tryz.ntmps102 fun X w => ?_
 simp only [drossref01_Lists] at h
 refine zs (zr ?_)
 refine zU (zl (zn (zs (zs (zr ?_)))))
 refine zU (zl (zn (zb ?_)))
 obtain ⟨o4, h5, h⟩ := zB h
 refine zO (fun (s : Int) => ⟨[(0, .p (.slc (List.map encValue a1))), (1, .p (.slc (List.map encValue b2))), (5, .p (.int .i64 s))], []⟩) (fun (o : (Unit) ⊕ (Int)) => match o with | .inl o6 => tE (cX Tryz.f102 X w D) (.exit 0) ⟨[(0, .p (.slc (List.map encValue a1))), (1, .p (.slc (List.map encValue b2)))], []⟩ | .inr o7 => tR Tryz.prog Tryz.f102 (.int .i64 o7)) h5 ?_ ?_
 clear h h5
 intro i8 x h
 simp only [drossref01_Lists_l1] at h
 refine zs (zs (zr ?_))
 refine zU ?_
 rcases zI h with ⟨h9, h⟩ | ⟨h9, h⟩
 refine zw 11 true ?_
 refine zg ?_
 refine zg ?_
 refine zg ?_
 refine zg ?_
 refine zU (zl (zn ?_))
 rcases zI h with ⟨h10, h⟩ | ⟨h10, h⟩
 refine zi (zk (zn (zs (zb (zs (zd ?_))))))
 obtain ⟨x11, h12, h12a, h12b, h⟩ := zX h
 obtain ⟨x13, h14, h14a, h14b, h⟩ := zX h
 refine yU ?_
 obtain ⟨r15, h16, h⟩ := zB h
 refine yc (drossref01_Compare_con x11 x13 _ h16) ?_
 refine yU ?_
 refine yd (zn (zs (zr ?_)))
 refine zU (zl (zn ?_))
 rcases zI h with ⟨h17, h⟩ | ⟨h17, h⟩
 refine zi (zs (zr ?_))
 refine zU (zl (zn (zq (yr (zt ?_)))))
 cases h
 exact ⟨rfl, zT Tryz.results102⟩
 refine zj (zk (yn (zn (zr ?_))))
 refine zU (zl ?_)
 cases h
 exact ⟨rfl, zE⟩
 refine zj (zx (ze ?_))
 cases h
 exact ⟨rfl, zE⟩
 refine zw 11 false ?_
 refine zh ?_
 refine zU (zl (zn ?_))
 refine zj (zx (ze ?_))
 cases h
 exact ⟨rfl, zE⟩
 rcases o4 with ⟨⟩ | r18
 try simp only at h
 refine zA (yh (zn (zs (zr ?_))))
 refine zU ?_
 obtain ⟨r19, h20, h⟩ := zB h
 refine zc (drossref01_sign_con (a1.length : Int) (b2.length : Int) _ h20) ?_
 refine zU (zl (zn (zq ?_)))
 cases h
 exact zT Tryz.results102
 try simp only at h
 refine zZ fun s hq => ?_
 refine yr (zt ?_)
 cases h
 exact hq
end Go.Proofs.YthgnkhchpjcboaaGreat
set_option linter.unusedVariables false
set_option linter.unusedSimpArgs false
namespace Go.Proofs.YthgnkhchpjcboaaGreat
open Go Go.Ab
set_option maxHeartbeats 4000000 in
theorem drossref01_Same_con {D : Prop} (a1 : List Value) (b2 : List Value) (r3 : Bool) (h : drossref01_Same a1 b2 = some r3) : Con D Tryz.prog 69 [(.slc (List.map encValue a1)), (.slc (List.map encValue b2))] (.bool r3) := by
 refine zP Tryz.call69 Tryz.func69 rfl Tryz.ntmps69 fun X w => ?_
 simp only [drossref01_Same] at h
 refine zs (zr ?_)
 refine zU (zl (zn (zs (zr ?_))))
 refine zU ?_
 obtain ⟨r4, h5, h⟩ := zB h
 refine zc (drossref01_Lists_con a1 b2 _ h5) ?_
 refine zU (zl (zn (zq ?_)))
 cases h
 exact zT Tryz.results69
end Go.Proofs.YthgnkhchpjcboaaGreat
set_option linter.unusedVariables false
set_option linter.unusedSimpArgs false
namespace Go.Proofs.YthgnkhchpjcboaaGreat
open Go Go.Ab
set_option maxHeartbeats 4000000 in
theorem drossref03_Values_con {D : Prop} (r1 : Row) (s2 : Int) (r3 : List Value) (h : drossref03_Values r1 s2 = some r3) : Con D Tryz.prog 70 [(encRow r1), (.int .u32 s2)] (.slc (List.map encValue r3)) := by
 refine zP Tryz.call70 Tryz.func70 rfl Tryz.ntmps70 fun X w => ?_
 simp only [drossref03_Values] at h
 refine zs (zr ?_)
 refine zU (zl (zn (zs (zr ?_))))
 refine zU (zl (zn (zs (zs (zr ?_)))))
 refine zU (zl (zn (zb ?_)))
 obtain ⟨o4, h5, h⟩ := zB h
 refine zO (fun (s : List Value × Int) => ⟨[(1, .p (.int .u32 s2)), (2, .loc 2 1 0 0), (5, .own 24 1 0 s.1.length), (6, .p (.int .i64 s.2))], [(2, .arr 80 2 1 [.p (encRow r1)]), (24, .arr 88 3 1 (List.map AV.p (List.map encValue s.1)))]⟩) (fun (o6 : List Value) => tE (cX Tryz.f70 X w D) (.exit 0) ⟨[(5, .own 24 1 0 o6.length)], [(24, .arr 88 3 1 (List.map AV.p (List.map encValue o6)))]⟩) h5 ?_ ?_
 clear h h5
 intro s x h
 obtain ⟨o7, i8⟩ := s
 simp only [drossref03_Values_l1] at h
 dsimp only
 refine zs (zs (zr ?_))
 refine zU (zl (zn ?_))
 rcases zI h with ⟨h9, h⟩ | ⟨h9, h⟩
 refine zi (zk (zn (zs (zb (zs (zr ?_))))))
 refine zU ?_
 obtain ⟨r10, h11, h⟩ := zB h
 refine zc (drossref02_Has_con s2 i8 _ h11) ?_
 refine zl (zn ?_)
 rcases zI h with ⟨h12, h⟩ | ⟨h12, h⟩
 refine zi (zr ?_)
 obtain ⟨x13, h14, h14a, h14b, h⟩ := zX h
 obtain ⟨h15, h⟩ := ite_some h
 refine zU (zl (yn (zn (zr ?_))))
 refine zU (zl ?_)
 cases h
 exact ⟨rfl, zE⟩
 refine zj (zk (yn (zn (zr ?_))))
 refine zU (zl ?_)
 cases h
 exact ⟨rfl, zE⟩
 refine zj (zx (ze ?_))
 cases h
 exact ⟨rfl, zE⟩
 try simp only at h
 refine zA (yh (zn (zs (zr ?_))))
 refine zU (zl (zn (zq ?_)))
 cases h
 exact zT Tryz.results70
end Go.Proofs.YthgnkhchpjcboaaGreat
set_option linter.unusedVariables false
set_option linter.unusedSimpArgs false
namespace Go.Proofs.YthgnkhchpjcboaaGreat
open Go Go.Ab
set_option maxHeartbeats 4000000 in
theorem drossref03_Agree_con {D : Prop} (a1 : Row) (b2 : Row) (s3 : Int) (r4 : Bool) (h : drossref03_Agree a1 b2 s3 = some r4) : Con D Tryz.prog 41 [(encRow a1), (encRow b2), (.int .u32 s3)] (.bool r4) := by
 refine zP Tryz.call41 Tryz.func41 rfl Tryz.ntmps41 fun X w => ?_
 simp only [drossref03_Agree] at h
 refine zs (zr ?_)
 refine zU (zl (zn (zs (zd ?_))))
 refine yU ?_
 obtain ⟨r5, h6, h⟩ := zB h
 refine yc (drossref03_Values_con a1 s3 _ h6) ?_
 refine yU ?_
 obtain ⟨r7, h8, h⟩ := zB h
 refine yc (drossref03_Values_con b2 s3 _ h8) ?_
 obtain ⟨r9, h10, h⟩ := zB h
 refine yc (drossref01_Same_con r5 r7 _ h10) ?_
 refine yU ?_
 refine yd (zn (zq ?_))
 cases h
 exact zT Tryz.results41
end Go.Proofs.YthgnkhchpjcboaaGreat
set_option linter.unusedVariables false
set_option linter.unusedSimpArgs false
namespace Go.Proofs.YthgnkhchpjcboaaGreat
open Go Go.Ab
set_option maxRecDepth 20000 in
set_option maxHeartbeats 4000000 in
theorem drossref17_Compare_con {D : Prop} (a1 : Row) (b2 : Row) (l3 : List Int) (r4 : Int) (h : drossref17_Compare a1 b2 l3 = some r4) : Con D Tryz.prog 42 [(encRow a1), (encRow b2), (.slc (List.map (PV.int .i64) l3))] (.int .i64 r4) := by
 refine zP Tryz.call42 Tryz.func42 rfl Tryz.ntmps42 fun X w => ?_
 simp only [drossref17_Compare] at h
 refine zs (zr ?_)
 refine zU (zl (zn (zs (zs (zr ?_)))))
 refine zU (zl (zn (zb ?_)))
 obtain ⟨o5, h6, h⟩ := zB h
 refine zO (fun (s : Int) => ⟨[(2, .p (.slc (List.map (PV.int .i64) l3))), (3, .loc 3 1 0 0), (4, .loc 4 1 0 0), (7, .p (.int .i64 s))], [(3, .arr 80 2 1 [.p (encRow a1)]), (4, .arr 80 2 1 [.p (encRow b2)])]⟩) (fun (o : (Unit) ⊕ (Int)) => match o with | .inl o7 => tE (cX Tryz.f42 X w D) (.exit 0) ⟨[], []⟩ | .inr o8 => tR Tryz.prog Tryz.f42 (.int .i64 o8)) h6 ?_ ?_
 clear h h6
 intro i9 x h
 simp only [drossref17_Compare_l1] at h
 refine zs (zs (zr ?_))
 refine zU (zl (zn ?_))
 rcases zI h with ⟨h10, h⟩ | ⟨h10, h⟩
 refine zi (zk (zn (zs (zb (zs (zd ?_))))))
 obtain ⟨x11, h12, h12a, h12b, h⟩ := zX h
 obtain ⟨x13, h14, h14a, h14b, h⟩ := zX h
 obtain ⟨x15, h16, h16a, h16b, h⟩ := zX h
 refine yU ?_
 obtain ⟨r17, h18, h⟩ := zB h
 refine yc (drossref01_Compare_con x13 x15 _ h18) ?_
 refine yU ?_
 refine yd (zn (zs (zr ?_)))
 refine zU (zl (zn ?_))
 rcases zI h with ⟨h19, h⟩ | ⟨h19, h⟩
 refine zi (zs (zr ?_))
 refine zU (zl (zn (zq (yr (zt ?_)))))
 cases h
 exact ⟨rfl, zT Tryz.results42⟩
 refine zj (zk (yn (zn (zr ?_))))
 refine zU (zl ?_)
 cases h
 exact ⟨rfl, zE⟩
 refine zj (zx (ze ?_))
 cases h
 exact ⟨rfl, zE⟩
 rcases o5 with ⟨⟩ | r20
 try simp only at h
 refine zA (yh (zn (zs (zr ?_))))
 refine zU (zl (zn (zq ?_)))
 cases h
 exact zT Tryz.results42
 try simp only at h
 refine zZ fun s hq => ?_
 refine yr (zt ?_)
 cases h
 exact hq
end Go.Proofs.YthgnkhchpjcboaaGreat
set_option linter.unusedVariables false
set_option linter.unusedSimpArgs false
namespace Go.Proofs.YthgnkhchpjcboaaGreat
open Go Go.Ab
set_option maxRecDepth 20000 in
set_option maxHeartbeats 4000000 in
theorem drossref17_Satisfies_con {D : Prop} (t1 : Table) (c2 : Canonical) (r3 : Bool × Int) (h : drossref17_Satisfies t1 c2 = some r3) : Con D Tryz.prog 19 [(encTable t1), (encCanonical c2)] (.tup [(.bool r3.1), (.int .i64 r3.2)]) := by
 refine zP Tryz.call19 Tryz.func19 rfl Tryz.ntmps19 fun X w => ?_
 simp only [drossref17_Satisfies] at h
 refine zs (zr ?_)
 refine zU (zl (zn (zs (zs (zr ?_)))))
 refine zU ?_
 obtain ⟨r4, h5, h⟩ := zB h
 refine zc (drossref03_Valid_con t1 _ h5) ?_
 refine zU (zl (zn (zs (zr ?_))))
 refine zU (zl (zn ?_))
 rcases zI h with ⟨h6, h⟩ | ⟨h6, h⟩
 refine zi (zs (zr ?_))
 refine zU (zl (zn (zq (zt ?_))))
 cases h
 exact zT Tryz.results19
 refine zj (zk (zn (zs (zs (zr ?_)))))
 refine zU ?_
 obtain ⟨r7, h8, h⟩ := zB h
 refine zc (drossref17_Statement_con (t1.Attrs.length : Int) c2 _ h8) ?_
 refine zU (zl (zn ?_))
 rcases zI h with ⟨h9, h⟩ | ⟨h9, h⟩
 refine zj (zk (zn (zs (zs (zr ?_)))))
 refine zU (zl (zn (zb ?_)))
 obtain ⟨o10, h11, h⟩ := zB h
 refine zO (fun (s : Int) => ⟨[(2, .loc 2 1 0 0), (3, .loc 3 1 0 0), (7, .p (.int .i64 s))], [(2, .arr 25 3 1 [.p (encTable t1)]), (3, .arr 38 3 1 [.p (encCanonical c2)])]⟩) (fun (o : (Unit) ⊕ (Bool × Int)) => match o with | .inl o12 => tE (cX Tryz.f19 X w D) (.exit 0) ⟨[], []⟩ | .inr o13 => tR Tryz.prog Tryz.f19 (.tup [(.bool o13.1), (.int .i64 o13.2)])) h11 ?_ ?_
 clear h h5 h6 h8 h9 h11
 intro i14 x h
 simp only [drossref17_Satisfies_l4] at h
 refine zs (zs (zr ?_))
 refine zU (zl (zn ?_))
 rcases zI h with ⟨h15, h⟩ | ⟨h15, h⟩
 refine zi (zk (zn (zs (zb (zs (zr ?_))))))
 refine zU (zl (zn (zb ?_)))
 obtain ⟨o16, h17, h⟩ := zB h
 refine zO (fun (s : Int) => ⟨[(2, .loc 2 1 0 0), (3, .loc 3 1 0 0), (7, .p (.int .i64 i14)), (8, .p (.int .i64 s))], [(2, .arr 25 3 1 [.p (encTable t1)]), (3, .arr 38 3 1 [.p (encCanonical c2)])]⟩) (fun (o : (Unit) ⊕ (Bool × Int)) => match o with | .inl o18 => tE (cX Tryz.f19 X w D) (.exit 2) ⟨[(2, .loc 2 1 0 0), (3, .loc 3 1 0 0), (7, .p (.int .i64 i14))], [(2, .arr 25 3 1 [.p (encTable t1)]), (3, .arr 38 3 1 [.p (encCanonical c2)])]⟩ | .inr o19 => tR Tryz.prog Tryz.f19 (.tup [(.bool o19.1), (.int .i64 o19.2)])) h17 ?_ ?_
 clear h h15 h17
 intro k20 x h
 simp only [drossref17_Satisfies_l3] at h
 refine zs (zs (zr ?_))
 refine zU (zl (zn ?_))
 rcases zI h with ⟨h21, h⟩ | ⟨h21, h⟩
 refine zi (zk (zn (zs (zb (zs (zs (zd ?_)))))))
 obtain ⟨x22, h23, h23a, h23b, h⟩ := zX h
 obtain ⟨x24, h25, h25a, h25b, h⟩ := zX h
 refine yU ?_
 obtain ⟨r26, h27, h⟩ := zB h
 refine yc (drossref03_Agree_con x22 x24 c2.Context _ h27) ?_
 refine yU ?_
 refine yd (zn ?_)
 rcases zI h with ⟨h28, h⟩ | ⟨h28, h⟩
 refine zj (zk (zn (zs (zd ?_))))
 refine yU ?_
 obtain ⟨r29, h30, h⟩ := zB h
 refine yc (drossref17_Compare_con x22 x24 [c2.A] _ h30) ?_
 refine yU ?_
 refine yd (zn (zs (zd ?_)))
 refine yU ?_
 rcases zI h with ⟨h31, h⟩ | ⟨h31, h⟩
 refine yw 64 true ?_
 refine yg ?_
 refine yg ?_
 refine yU ?_
 rcases zI h with ⟨h32, h⟩ | ⟨h32, h⟩
 refine yw 68 true ?_
 refine yk ?_
 refine yU ?_
 refine yd (zn ?_)
 refine zi (zs (zr ?_))
 refine zU (zl (zn (zq (yr (zt ?_)))))
 cases h
 exact ⟨rfl, zT Tryz.results19⟩
 refine yw 68 false ?_
 refine yg ?_
 refine yg ?_
 refine yg ?_
 refine yg ?_
 rcases zI h with ⟨h33, h⟩ | ⟨h33, h⟩
 refine yw 72 true ?_
 refine yg ?_
 refine yg ?_
 refine yg ?_
 refine yg ?_
 refine yg ?_
 refine yg ?_
 refine yg ?_
 refine yg ?_
 refine yg ?_
 refine yg ?_
 refine yg ?_
 refine yg ?_
 refine yg ?_
 refine yg ?_
 obtain ⟨r34, h35, h⟩ := zB h
 refine yc (drossref17_Compare_con x22 x24 [c2.B] _ h35) ?_
 refine yg ?_
 refine yg ?_
 refine yg ?_
 refine yU ?_
 refine yd (zn ?_)
 rcases zI h with ⟨h36, h⟩ | ⟨h36, h⟩
 refine zi (zs (zr ?_))
 refine zU (zl (zn (zq (yr (zt ?_)))))
 cases h
 exact ⟨rfl, zT Tryz.results19⟩
 refine zj (zk (yn (zn (zr ?_))))
 refine zU (zl ?_)
 cases h
 exact ⟨rfl, zE⟩
 replace h := h.symm
 refine yw 72 false ?_
 refine yk ?_
 refine yg ?_
 refine yU ?_
 refine yd (zn ?_)
 refine zj (zk (yn (zn (zr ?_))))
 refine zU (zl ?_)
 cases h
 exact ⟨rfl, zE⟩
 refine yw 64 false ?_
 refine yk ?_
 refine yU ?_
 refine yg ?_
 refine yg ?_
 refine yg ?_
 refine yg ?_
 rcases zI h with ⟨h37, h⟩ | ⟨h37, h⟩
 refine yw 72 true ?_
 refine yg ?_
 refine yg ?_
 refine yg ?_
 refine yg ?_
 refine yg ?_
 refine yg ?_
 refine yg ?_
 refine yg ?_
 refine yg ?_
 refine yg ?_
 refine yg ?_
 refine yg ?_
 refine yg ?_
 refine yg ?_
 obtain ⟨r38, h39, h⟩ := zB h
 refine yc (drossref17_Compare_con x22 x24 [c2.B] _ h39) ?_
 refine yg ?_
 refine yg ?_
 refine yg ?_
 refine yU ?_
 refine yd (zn ?_)
 rcases zI h with ⟨h40, h⟩ | ⟨h40, h⟩
 refine zi (zs (zr ?_))
 refine zU (zl (zn (zq (yr (zt ?_)))))
 cases h
 exact ⟨rfl, zT Tryz.results19⟩
 refine zj (zk (yn (zn (zr ?_))))
 refine zU (zl ?_)
 cases h
 exact ⟨rfl, zE⟩
 replace h := h.symm
 refine yw 72 false ?_
 refine yk ?_
 refine yg ?_
 refine yU ?_
 refine yd (zn ?_)
 refine zj (zk (yn (zn (zr ?_))))
 refine zU (zl ?_)
 cases h
 exact ⟨rfl, zE⟩
 refine zi (zx (ze (yh (zn (zr ?_)))))
 refine zU (zl ?_)
 cases h
 exact ⟨rfl, zE⟩
 refine zj (zx (ze ?_))
 cases h
 exact ⟨rfl, zE⟩
 rcases o16 with ⟨⟩ | r41
 try simp only at h
 refine zA (yh (yn (zn (zr ?_))))
 refine zU (zl ?_)
 cases h
 exact ⟨rfl, zE⟩
 try simp only at h
 refine zZ fun s hq => ?_
 refine yr (yr (zt ?_))
 cases h
 refine ⟨rfl, ?_⟩
 exact hq
 refine zj (zx (ze ?_))
 cases h
 exact ⟨rfl, zE⟩
 rcases o10 with ⟨⟩ | r42
 try simp only at h
 refine zA (yh (zn (zs (zr ?_))))
 refine zU (zl (zn (zq ?_)))
 cases h
 exact zT Tryz.results19
 try simp only at h
 refine zZ fun s hq => ?_
 refine yr (zt ?_)
 cases h
 exact hq
 refine zi (zs (zr ?_))
 refine zU (zl (zn (zq (zt ?_))))
 cases h
 exact zT Tryz.results19
end Go.Proofs.YthgnkhchpjcboaaGreat
set_option linter.unusedVariables false
set_option linter.unusedSimpArgs false
namespace Go.Proofs.YthgnkhchpjcboaaGreat
open Go Go.Ab
set_option maxHeartbeats 4000000 in
theorem drossref31_holds_con {D : Prop} (t1 : Table) (c2 : Canonical) (r3 : Bool) (h : drossref31_holds t1 c2 = some r3) : Con D Tryz.prog 58 [(encTable t1), (encCanonical c2)] (.bool r3) := by
 refine zP Tryz.call58 Tryz.func58 rfl Tryz.ntmps58 fun X w => ?_
 simp only [drossref31_holds] at h
 refine zs (zr ?_)
 refine zU (zl (zn (zs (zr ?_))))
 refine zU ?_
 obtain ⟨r4, h5, h⟩ := zB h
 refine zc (drossref17_Satisfies_con t1 c2 _ h5) ?_
 refine zU (zl (zn (zs (zr ?_))))
 refine zU ?_
 rcases zI h with ⟨h6, h⟩ | ⟨h6, h⟩
 replace h := h.symm
 refine zw 14 true ?_
 refine zg ?_
 refine zg ?_
 refine zU (zl (zn (zq ?_)))
 cases h
 exact zT Tryz.results58
 refine zw 14 false ?_
 refine zh ?_
 refine zU (zl (zn (zq ?_)))
 cases h
 exact zT Tryz.results58
end Go.Proofs.YthgnkhchpjcboaaGreat
set_option linter.unusedVariables false
set_option linter.unusedSimpArgs false
namespace Go.Proofs.YthgnkhchpjcboaaGreat
open Go Go.Ab
set_option maxRecDepth 20000 in
set_option maxHeartbeats 4000000 in
theorem drossref31_Minimal_con {D : Prop} (t1 : Table) (c2 : Canonical) (r3 : Bool) (h : drossref31_Minimal t1 c2 = some r3) : Con D Tryz.prog 30 [(encTable t1), (encCanonical c2)] (.bool r3) := by
 refine zP Tryz.call30 Tryz.func30 rfl Tryz.ntmps30 fun X w => ?_
 simp only [drossref31_Minimal] at h
 refine zs (zr ?_)
 refine zU (zl (zn (zs (zs (zr ?_)))))
 refine zU ?_
 obtain ⟨r4, h5, h⟩ := zB h
 refine zc (drossref31_Trivial_con c2 _ h5) ?_
 refine zU ?_
 rcases zI h with ⟨h6, h⟩ | ⟨h6, h⟩
 refine zw 9 true ?_
 refine zh ?_
 refine zU (zl (zn ?_))
 refine zi (zs (zr ?_))
 refine zU (zl (zn (zq (zt ?_))))
 cases h
 exact zT Tryz.results30
 refine zw 9 false ?_
 refine zg ?_
 refine zg ?_
 obtain ⟨r7, h8, h⟩ := zB h
 refine zc (drossref31_holds_con t1 c2 _ h8) ?_
 refine zg ?_
 refine zU (zl (zn ?_))
 rcases zI h with ⟨h9, h⟩ | ⟨h9, h⟩
 refine zj (zk (zn (zs (zr ?_))))
 refine zU ?_
 obtain ⟨r10, h11, h⟩ := zB h
 refine zc (drossref02_Subsets_con c2.Context _ h11) ?_
 refine zU (zl (zn (zs (zs (zr ?_)))))
 refine zU (zl (zn (zb ?_)))
 obtain ⟨o12, h13, h⟩ := zB h
 refine zO (fun (s : Int) => ⟨[(2, .loc 2 1 0 0), (3, .loc 3 1 0 0), (5, .p (.slc (List.map (PV.int .u32) r10))), (6, .p (.int .i64 s))], [(2, .arr 25 3 1 [.p (encTable t1)]), (3, .arr 38 3 1 [.p (encCanonical c2)])]⟩) (fun (o : (Unit) ⊕ (Bool)) => match o with | .inl o14 => tE (cX Tryz.f30 X w D) (.exit 0) ⟨[(2, .loc 2 1 0 0), (3, .loc 3 1 0 0)], [(2, .arr 25 3 1 [.p (encTable t1)]), (3, .arr 38 3 1 [.p (encCanonical c2)])]⟩ | .inr o15 => tR Tryz.prog Tryz.f30 (.bool o15)) h13 ?_ ?_
 clear h h5 h6 h8 h9 h11 h13
 intro i16 x h
 simp only [drossref31_Minimal_l1] at h
 refine zs (zs (zr ?_))
 refine zU (zl (zn ?_))
 rcases zI h with ⟨h17, h⟩ | ⟨h17, h⟩
 refine zi (zk (zn (zs (zb (zs (zd ?_))))))
 obtain ⟨x18, h19, h19a, h19b, h⟩ := zX h
 refine yU ?_
 rcases zI h with ⟨h20, h⟩ | ⟨h20, h⟩
 refine yw 31 true ?_
 refine yg ?_
 refine yg ?_
 refine yg ?_
 refine yg ?_
 refine yg ?_
 refine yg ?_
 refine yg ?_
 refine yg ?_
 refine yg ?_
 refine yg ?_
 obtain ⟨r21, h22, h⟩ := zB h
 refine yc (drossref31_holds_con t1 (Canonical.mk x18 c2.A c2.B) _ h22) ?_
 refine yU ?_
 refine yd (zn ?_)
 rcases zI h with ⟨h23, h⟩ | ⟨h23, h⟩
 refine zi (zs (zr ?_))
 refine zU (zl (zn (zq (yr (zt ?_)))))
 cases h
 exact ⟨rfl, zT Tryz.results30⟩
 refine zj (zk (yn (zn (zr ?_))))
 refine zU (zl ?_)
 cases h
 exact ⟨rfl, zE⟩
 refine yw 31 false ?_
 refine yk ?_
 refine yU ?_
 refine yd (zn ?_)
 refine zj (zk (yn (zn (zr ?_))))
 refine zU (zl ?_)
 cases h
 exact ⟨rfl, zE⟩
 refine zj (zx (ze ?_))
 cases h
 exact ⟨rfl, zE⟩
 rcases o12 with ⟨⟩ | r24
 try simp only at h
 refine zA (yh (zn (zs (zs (zr ?_)))))
 refine zU (zl (zn ?_))
 rcases zI h with ⟨h25, h⟩ | ⟨h25, h⟩
 refine zi (zs (zr ?_))
 refine zU (zl (zn (zq (zt ?_))))
 cases h
 exact zT Tryz.results30
 refine zj (zk (zn (zs (zr ?_))))
 refine zU ?_
 obtain ⟨r26, h27, h⟩ := zB h
 refine zc (drossref31_holds_con t1 (Canonical.mk c2.Context c2.A (-1)) _ h27) ?_
 refine zU ?_
 rcases zI h with ⟨h28, h⟩ | ⟨h28, h⟩
 refine zw 55 false ?_
 refine zh ?_
 refine zU (zl (zn (zq ?_)))
 cases h
 exact zT Tryz.results30
 refine zw 55 true ?_
 refine zg ?_
 refine zg ?_
 refine zg ?_
 refine zg ?_
 refine zg ?_
 refine zg ?_
 obtain ⟨r29, h30, h⟩ := zB h
 replace h := h.symm
 refine zc (drossref31_holds_con t1 (Canonical.mk c2.Context c2.B (-1)) _ h30) ?_
 refine zg ?_
 refine zU (zl (zn (zq ?_)))
 cases h
 exact zT Tryz.results30
 try simp only at h
 refine zZ fun s hq => ?_
 refine yr (zt ?_)
 cases h
 exact hq
 refine zi (zs (zr ?_))
 refine zU (zl (zn (zq (zt ?_))))
 cases h
 exact zT Tryz.results30
end Go.Proofs.YthgnkhchpjcboaaGreat
set_option linter.unusedVariables false
set_option linter.unusedSimpArgs false
namespace Go.Proofs.YthgnkhchpjcboaaGreat
open Go Go.Ab
set_option maxHeartbeats 4000000 in
theorem drossref31_All_con {D : Prop} (t1 : Table) (r2 : List Canonical × Int) (h : drossref31_All t1 = some r2) : Con D Tryz.prog 10 [(encTable t1)] (.tup [(.slc (List.map encCanonical r2.1)), (.int .i64 r2.2)]) := by
 refine zP Tryz.call10 Tryz.func10 rfl Tryz.ntmps10 fun X w => ?_
 simp only [drossref31_All] at h
 refine zs (zr ?_)
 refine zU (zl (zn (zs (zs (zr ?_)))))
 refine zU ?_
 obtain ⟨r3, h4, h⟩ := zB h
 refine zc (drossref31_Error_con t1 _ h4) ?_
 refine zU (zl (zn (zs (zr ?_))))
 refine zU (zl (zn ?_))
 rcases zI h with ⟨h5, h⟩ | ⟨h5, h⟩
 refine zi (zs (zr ?_))
 refine zU (zl (zn (zq (zt ?_))))
 cases h
 exact zT Tryz.results10
 refine zj (zk (zn (zs (zr ?_))))
 refine zU (zl (zn (zs (zr ?_))))
 refine zU ?_
 obtain ⟨r6, h7, h⟩ := zB h
 refine zc (drossref02_Full_con (t1.Attrs.length : Int) _ h7) ?_
 obtain ⟨r8, h9, h⟩ := zB h
 refine zc (drossref02_Subsets_con r6 _ h9) ?_
 refine zU (zl (zn (zs (zr ?_))))
 refine zU (zl (zn (zs (zs (zr ?_)))))
 refine zU (zl (zn (zb ?_)))
 obtain ⟨o10, h11, h⟩ := zB h
 refine zO (fun (s : List Canonical × Int) => ⟨[(1, .loc 1 1 0 0), (5, .p (.int .i64 (t1.Attrs.length : Int))), (6, .p (.slc (List.map (PV.int .u32) r8))), (7, .own 48 1 0 s.1.length), (8, .p (.int .i64 s.2))], [(1, .arr 25 3 1 [.p (encTable t1)]), (48, .arr 38 3 1 (List.map AV.p (List.map encCanonical s.1)))]⟩) (fun (o12 : List Canonical) => tE (cX Tryz.f10 X w D) (.exit 0) ⟨[(7, .own 48 1 0 o12.length)], [(48, .arr 38 3 1 (List.map AV.p (List.map encCanonical o12)))]⟩) h11 ?_ ?_
 clear h h4 h5 h7 h9 h11
 intro s x h
 obtain ⟨o13, i14⟩ := s
 simp only [drossref31_All_l16] at h
 dsimp only
 refine zs (zs (zr ?_))
 refine zU (zl (zn ?_))
 rcases zI h with ⟨h15, h⟩ | ⟨h15, h⟩
 refine zi (zk (zn (zs (zb (zs (zs (zr ?_)))))))
 refine zU (zl (zn (zb ?_)))
 obtain ⟨o16, h17, h⟩ := zB h
 refine zO (fun (s : List Canonical × Int) => ⟨[(1, .loc 1 1 0 0), (5, .p (.int .i64 (t1.Attrs.length : Int))), (6, .p (.slc (List.map (PV.int .u32) r8))), (7, .own 48 1 0 s.1.length), (8, .p (.int .i64 i14)), (9, .p (.int .i64 s.2))], [(1, .arr 25 3 1 [.p (encTable t1)]), (48, .arr 38 3 1 (List.map AV.p (List.map encCanonical s.1)))]⟩) (fun (o18 : List Canonical) => tE (cX Tryz.f10 X w D) (.exit 2) ⟨[(1, .loc 1 1 0 0), (5, .p (.int .i64 (t1.Attrs.length : Int))), (6, .p (.slc (List.map (PV.int .u32) r8))), (7, .own 48 1 0 o18.length), (8, .p (.int .i64 i14))], [(1, .arr 25 3 1 [.p (encTable t1)]), (48, .arr 38 3 1 (List.map AV.p (List.map encCanonical o18)))]⟩) h17 ?_ ?_
 clear h h15 h17
 intro s x h
 obtain ⟨o19, a20⟩ := s
 simp only [drossref31_All_l11] at h
 dsimp only
 refine zs (zs (zr ?_))
 refine zU (zl (zn ?_))
 rcases zI h with ⟨h21, h⟩ | ⟨h21, h⟩
 refine zi (zk (zn (zs (zb (zs (zr ?_))))))
 obtain ⟨x22, h23, h23a, h23b, h⟩ := zX h
 refine zU (zl (zn (zs (zr ?_))))
 refine zU ?_
 obtain ⟨r24, h25, h⟩ := zB h
 refine zc (drossref31_Minimal_con t1 (Canonical.mk x22 a20 (-1)) _ h25) ?_
 refine zl (zn ?_)
 rcases zI h with ⟨h26, h⟩ | ⟨h26, h⟩
 refine zi (zr ?_)
 obtain ⟨h27, h⟩ := ite_some h
 refine zU (zl (yn (zn (zr ?_))))
 refine zU (zl ?_)
 cases h
 exact ⟨rfl, zE⟩
 refine zj (zk (yn (zn (zr ?_))))
 refine zU (zl ?_)
 cases h
 exact ⟨rfl, zE⟩
 refine zj (zx (ze ?_))
 cases h
 exact ⟨rfl, zE⟩
 try simp only at h
 refine zA (yh (zn (zs (zr ?_))))
 refine zU (zl (zn (zb ?_)))
 obtain ⟨o28, h29, h⟩ := zB h
 refine zO (fun (s : List Canonical × Int) => ⟨[(1, .loc 1 1 0 0), (5, .p (.int .i64 (t1.Attrs.length : Int))), (6, .p (.slc (List.map (PV.int .u32) r8))), (7, .own 48 1 0 s.1.length), (8, .p (.int .i64 i14)), (11, .p (.int .i64 s.2))], [(1, .arr 25 3 1 [.p (encTable t1)]), (48, .arr 38 3 1 (List.map AV.p (List.map encCanonical s.1)))]⟩) (fun (o30 : List Canonical) => tE (cX Tryz.f10 X w D) (.exit 4) ⟨[(1, .loc 1 1 0 0), (5, .p (.int .i64 (t1.Attrs.length : Int))), (6, .p (.slc (List.map (PV.int .u32) r8))), (7, .own 48 1 0 o30.length), (8, .p (.int .i64 i14))], [(1, .arr 25 3 1 [.p (encTable t1)]), (48, .arr 38 3 1 (List.map AV.p (List.map encCanonical o30)))]⟩) h29 ?_ ?_
 clear h h15 h17 h29
 intro s x h
 obtain ⟨o31, a32⟩ := s
 simp only [drossref31_All_l15] at h
 dsimp only
 refine zs (zs (zr ?_))
 refine zU (zl (zn ?_))
 rcases zI h with ⟨h33, h⟩ | ⟨h33, h⟩
 refine zi (zk (zn (zs (zb (zs (zr ?_))))))
 refine zU (zl (zn (zb ?_)))
 obtain ⟨o34, h35, h⟩ := zB h
 refine zO (fun (s : List Canonical × Int) => ⟨[(1, .loc 1 1 0 0), (5, .p (.int .i64 (t1.Attrs.length : Int))), (6, .p (.slc (List.map (PV.int .u32) r8))), (7, .own 48 1 0 s.1.length), (8, .p (.int .i64 i14)), (11, .p (.int .i64 a32)), (12, .p (.int .i64 s.2))], [(1, .arr 25 3 1 [.p (encTable t1)]), (48, .arr 38 3 1 (List.map AV.p (List.map encCanonical s.1)))]⟩) (fun (o36 : List Canonical) => tE (cX Tryz.f10 X w D) (.exit 6) ⟨[(1, .loc 1 1 0 0), (5, .p (.int .i64 (t1.Attrs.length : Int))), (6, .p (.slc (List.map (PV.int .u32) r8))), (7, .own 48 1 0 o36.length), (8, .p (.int .i64 i14)), (11, .p (.int .i64 a32))], [(1, .arr 25 3 1 [.p (encTable t1)]), (48, .arr 38 3 1 (List.map AV.p (List.map encCanonical o36)))]⟩) h35 ?_ ?_
 clear h h33 h35
 intro s x h
 obtain ⟨o37, b38⟩ := s
 simp only [drossref31_All_l14] at h
 dsimp only
 refine zs (zs (zr ?_))
 refine zU (zl (zn ?_))
 rcases zI h with ⟨h39, h⟩ | ⟨h39, h⟩
 refine zi (zk (zn (zs (zb (zs (zr ?_))))))
 obtain ⟨x40, h41, h41a, h41b, h⟩ := zX h
 refine zU (zl (zn (zs (zr ?_))))
 refine zU ?_
 obtain ⟨r42, h43, h⟩ := zB h
 refine zc (drossref31_Minimal_con t1 (Canonical.mk x40 a32 b38) _ h43) ?_
 refine zl (zn ?_)
 rcases zI h with ⟨h44, h⟩ | ⟨h44, h⟩
 refine zi (zr ?_)
 obtain ⟨h45, h⟩ := ite_some h
 refine zU (zl (yn (zn (zr ?_))))
 refine zU (zl ?_)
 cases h
 exact ⟨rfl, zE⟩
 refine zj (zk (yn (zn (zr ?_))))
 refine zU (zl ?_)
 cases h
 exact ⟨rfl, zE⟩
 refine zj (zx (ze ?_))
 cases h
 exact ⟨rfl, zE⟩
 try simp only at h
 refine zA (yh (yn (zn (zr ?_))))
 refine zU (zl ?_)
 cases h
 exact ⟨rfl, zE⟩
 refine zj (zx (ze ?_))
 cases h
 exact ⟨rfl, zE⟩
 try simp only at h
 refine zA (yh (yn (zn (zr ?_))))
 refine zU (zl ?_)
 cases h
 exact ⟨rfl, zE⟩
 refine zj (zx (ze ?_))
 cases h
 exact ⟨rfl, zE⟩
 try simp only at h
 refine zA (yh (zn (zs (zr ?_))))
 refine zU (zl (zn (zq ?_)))
 cases h
 exact zT Tryz.results10
end Go.Proofs.YthgnkhchpjcboaaGreat
set_option linter.unusedVariables false
set_option linter.unusedSimpArgs false
namespace Go.Proofs.YthgnkhchpjcboaaGreat
open Go Go.Ab
set_option maxHeartbeats 4000000 in
theorem odmine_Constants_1_con {D : Prop} (c1 : Canonical) (r2 : Bool) (h : odmine_Constants_1 c1 = some r2) : Con D Tryz.prog 37 [(encCanonical c1)] (.bool r2) := by
 refine zP Tryz.call37 Tryz.func37 rfl Tryz.ntmps37 fun X w => ?_
 simp only [odmine_Constants_1] at h
 refine zs (zr ?_)
 refine zU (zl (zn (zs (zr ?_))))
 refine zU (zl (zn (zq ?_)))
 cases h
 exact zT Tryz.results37
end Go.Proofs.YthgnkhchpjcboaaGreat
set_option linter.unusedVariables false
set_option linter.unusedSimpArgs false
namespace Go.Proofs.YthgnkhchpjcboaaGreat
open Go Go.Ab
set_option maxHeartbeats 4000000 in
theorem slices_IndexFunc_Canonical_con {D : Prop} (s1 : List Canonical) (f2 : Canonical → Option (Bool)) (f2_k : FuncId) (f2_cs : List PV) (f2_h : ∀ (y3 : Canonical) (r4 : Bool), f2 y3 = some r4 → Con D Tryz.prog f2_k ((encCanonical y3) :: f2_cs) (.bool r4)) (r5 : Int) (h : slices_IndexFunc_Canonical s1 f2 = some r5) : Con D Tryz.prog 64 [(.slc (List.map encCanonical s1)), .func (.func f2_k) f2_cs] (.int .i64 r5) := by
 refine zP Tryz.call64 Tryz.func64 rfl Tryz.ntmps64 fun X w => ?_
 simp only [slices_IndexFunc_Canonical] at h
 refine zs (zr ?_)
 refine zU (zl (zn (zs (zs (zr ?_)))))
 refine zU (zl (zn (zb ?_)))
 obtain ⟨o6, h7, h⟩ := zB h
 refine zO (fun (s : Int) => ⟨[(0, .p (.slc (List.map encCanonical s1))), (1, .p (.func (.func f2_k) f2_cs)), (7, .p (.int .i64 (s1.length : Int))), (8, .p (.int .i64 s))], []⟩) (fun (o : (Unit) ⊕ (Int)) => match o with | .inl o8 => tE (cX Tryz.f64 X w D) (.exit 0) ⟨[], []⟩ | .inr o9 => tR Tryz.prog Tryz.f64 (.int .i64 o9)) h7 ?_ ?_
 clear h h7
 intro t10 x h
 simp only [slices_IndexFunc_Canonical_l1] at h
 refine zs (zr ?_)
 refine zU (zl (zn (zs ?_)))
 rcases zI h with ⟨h11, h⟩ | ⟨h11, h⟩
 refine zi (zk (zn (zs (zb (zs (zr ?_))))))
 refine zU (zl (zn (zs (zr ?_))))
 obtain ⟨x12, h13, h13a, h13b, h⟩ := zX h
 refine zU ?_
 obtain ⟨r14, h15, h⟩ := zB h
 refine zc (f2_h x12 _ h15) ?_
 refine zl (zn ?_)
 rcases zI h with ⟨h16, h⟩ | ⟨h16, h⟩
 refine zi (zs (zr ?_))
 refine zU (zl (zn (zq (yr (zt ?_)))))
 cases h
 exact ⟨rfl, zT Tryz.results64⟩
 refine zj (zk (yn (zn (zr ?_))))
 refine zU (zl ?_)
 cases h
 exact ⟨rfl, zE⟩
 refine zj (zx (ze ?_))
 cases h
 exact ⟨rfl, zE⟩
 rcases o6 with ⟨⟩ | r17
 try simp only at h
 refine zA (yh (zn (zs (zr ?_))))
 refine zU (zl (zn (zq ?_)))
 cases h
 exact zT Tryz.results64
 try simp only at h
 refine zZ fun s hq => ?_
 refine yr (zt ?_)
 cases h
 exact hq
end Go.Proofs.YthgnkhchpjcboaaGreat
