/- Each function of the program computes what its Lean function says, where that has a value. -/
import Derived.Ground.SlgnProg
import Derived.Shelf.Small.Strs
import Derived.Shelf.SlSortCmp.NoneTotal
import Derived.Ground.SlsfProg
import Derived.Test.YthgnkhchpjcboaaT1
import Derived.Test.YthgnkhchpjcboaaL1
import Derived.Test.YthgnkhchpjcboaaA2
set_option linter.unusedVariables false
set_option linter.unusedSimpArgs false
namespace Go.Proofs.Ythgnkhchpjcboaa
open Go Go.Ab
theorem mixed : Try.prog.follows .mixedOrders = true := by kernel_rfl
@[reducible] noncomputable def cX (f : Func) (X : Nat → Prop) (w : World) (D : Prop) : Cx := ⟨Try.prog, f.ntmps, 0, X, [], fun _ => none, w, D⟩
theorem zd {N B : Nat} {X : Nat → Prop} {H0 : List (Nat × AO)} {inj0 : Inj} {w0 : World} {D : Prop} {Q : Exit → St → Prop} {st : St} {id : Nat} {l : List Oper} (h : DGo ⟨Try.prog, N, B, X, H0, inj0, w0, D⟩ l.toArray l st [] (DK ⟨Try.prog, N, B, X, H0, inj0, w0, D⟩ l.toArray Q)) (hs : slotsOk l.toArray = true := by kernel_rfl) : AWp ⟨Try.prog, N, B, X, H0, inj0, w0, D⟩ (.region id l.toArray true) Q st := awp_drawn_walk mixed hs h
theorem zdl (n : Nat) {N B : Nat} {X : Nat → Prop} {H0 : List (Nat × AO)} {inj0 : Inj} {w0 : World} {D : Prop} {Q : Exit → St → Prop} {st : St} {id : Nat} {l : List Oper} (h : DGo ⟨Try.prog, N, B, X, H0, inj0, w0, D⟩ l.toArray (l.take n) st [] (DKL ⟨Try.prog, N, B, X, H0, inj0, w0, D⟩ l.toArray (l.drop n) Q)) (hs : slotsOk l.toArray = true := by kernel_rfl) (hl : lastOk l.toArray n = true := by kernel_rfl) : AWp ⟨Try.prog, N, B, X, H0, inj0, w0, D⟩ (.region id l.toArray true) Q st := awp_drawn_last n mixed hs hl h
def encValue (x : Value) : PV := .agg [.int .i64 x.Kind, .int .i64 x.Num, .str x.Str]
@[go_sem] theorem encValue_fold (x : Value) : PV.agg [.int .i64 x.Kind, .int .i64 x.Num, .str x.Str] = encValue x := rfl
@[go_sem] theorem encValue_cells (x : Value) : (encValue x).cells = [.int .i64 x.Kind, .int .i64 x.Num, .str x.Str] := rfl
@[go_sem] theorem encValue_isAgg (x : Value) : (encValue x).isAgg = true := rfl
@[go_sem] theorem encValue_isTup (x : Value) : (encValue x).isTup = false := rfl
@[go_sem] theorem encValue_sl (l : List Value) : ((l.map encValue).all fun y => y.cells.length == 3) = true := by simp [encValue, PV.cells]
@[go_sem] theorem encValue_ok (l : List Value) : ((l.map encValue).map AV.p).all (elemOk 3) = true := elemOkAll_map _ _ _ fun _ => ⟨rfl, rfl⟩
@[go_sem] theorem encValue_flat (x : Value) : (encValue x).flat = true := rfl
def encRow (x : Row) : PV := .agg [.int .i64 x.ID, .slc (List.map encValue x.Values)]
@[go_sem] theorem encRow_fold (x : Row) : PV.agg [.int .i64 x.ID, .slc (List.map encValue x.Values)] = encRow x := rfl
@[go_sem] theorem encRow_cells (x : Row) : (encRow x).cells = [.int .i64 x.ID, .slc (List.map encValue x.Values)] := rfl
@[go_sem] theorem encRow_isAgg (x : Row) : (encRow x).isAgg = true := rfl
@[go_sem] theorem encRow_isTup (x : Row) : (encRow x).isTup = false := rfl
@[go_sem] theorem encRow_sl (l : List Row) : ((l.map encRow).all fun y => y.cells.length == 2) = true := by simp [encRow, PV.cells]
@[go_sem] theorem encRow_ok (l : List Row) : ((l.map encRow).map AV.p).all (elemOk 2) = true := elemOkAll_map _ _ _ fun _ => ⟨rfl, rfl⟩
def encTable (x : Table) : PV := .agg [.str x.Name, .slc (List.map PV.str x.Attrs), .slc (List.map encRow x.Rows)]
@[go_sem] theorem encTable_fold (x : Table) : PV.agg [.str x.Name, .slc (List.map PV.str x.Attrs), .slc (List.map encRow x.Rows)] = encTable x := rfl
@[go_sem] theorem encTable_cells (x : Table) : (encTable x).cells = [.str x.Name, .slc (List.map PV.str x.Attrs), .slc (List.map encRow x.Rows)] := rfl
@[go_sem] theorem encTable_isAgg (x : Table) : (encTable x).isAgg = true := rfl
@[go_sem] theorem encTable_isTup (x : Table) : (encTable x).isTup = false := rfl
@[go_sem] theorem encTable_sl (l : List Table) : ((l.map encTable).all fun y => y.cells.length == 3) = true := by simp [encTable, PV.cells]
@[go_sem] theorem encTable_ok (l : List Table) : ((l.map encTable).map AV.p).all (elemOk 3) = true := elemOkAll_map _ _ _ fun _ => ⟨rfl, rfl⟩
def encOD (x : OD) : PV := .agg [.slc (List.map (PV.int .i64) x.Lhs), .slc (List.map (PV.int .i64) x.Rhs)]
@[go_sem] theorem encOD_fold (x : OD) : PV.agg [.slc (List.map (PV.int .i64) x.Lhs), .slc (List.map (PV.int .i64) x.Rhs)] = encOD x := rfl
@[go_sem] theorem encOD_cells (x : OD) : (encOD x).cells = [.slc (List.map (PV.int .i64) x.Lhs), .slc (List.map (PV.int .i64) x.Rhs)] := rfl
@[go_sem] theorem encOD_isAgg (x : OD) : (encOD x).isAgg = true := rfl
@[go_sem] theorem encOD_isTup (x : OD) : (encOD x).isTup = false := rfl
@[go_sem] theorem encOD_sl (l : List OD) : ((l.map encOD).all fun y => y.cells.length == 2) = true := by simp [encOD, PV.cells]
@[go_sem] theorem encOD_ok (l : List OD) : ((l.map encOD).map AV.p).all (elemOk 2) = true := elemOkAll_map _ _ _ fun _ => ⟨rfl, rfl⟩
def encCanonical (x : Canonical) : PV := .agg [.int .u32 x.Context, .int .i64 x.A, .int .i64 x.B]
@[go_sem] theorem encCanonical_fold (x : Canonical) : PV.agg [.int .u32 x.Context, .int .i64 x.A, .int .i64 x.B] = encCanonical x := rfl
@[go_sem] theorem encCanonical_cells (x : Canonical) : (encCanonical x).cells = [.int .u32 x.Context, .int .i64 x.A, .int .i64 x.B] := rfl
@[go_sem] theorem encCanonical_isAgg (x : Canonical) : (encCanonical x).isAgg = true := rfl
@[go_sem] theorem encCanonical_isTup (x : Canonical) : (encCanonical x).isTup = false := rfl
@[go_sem] theorem encCanonical_sl (l : List Canonical) : ((l.map encCanonical).all fun y => y.cells.length == 3) = true := by simp [encCanonical, PV.cells]
@[go_sem] theorem encCanonical_ok (l : List Canonical) : ((l.map encCanonical).map AV.p).all (elemOk 3) = true := elemOkAll_map _ _ _ fun _ => ⟨rfl, rfl⟩
@[go_sem] theorem encCanonical_flat (x : Canonical) : (encCanonical x).flat = true := rfl
def encOdmine_miner (x : Odmine_miner) : PV := .agg [.str x.t.Name, .slc (List.map PV.str x.t.Attrs), .slc (List.map encRow x.t.Rows), .mapv (encK encCanonical x.known) (encW PV.bool x.known)]
@[go_sem] theorem encOdmine_miner_fold (x : Odmine_miner) : PV.agg [.str x.t.Name, .slc (List.map PV.str x.t.Attrs), .slc (List.map encRow x.t.Rows), .mapv (encK encCanonical x.known) (encW PV.bool x.known)] = encOdmine_miner x := rfl
@[go_sem] theorem encOdmine_miner_cells (x : Odmine_miner) : (encOdmine_miner x).cells = [.str x.t.Name, .slc (List.map PV.str x.t.Attrs), .slc (List.map encRow x.t.Rows), .mapv (encK encCanonical x.known) (encW PV.bool x.known)] := rfl
@[go_sem] theorem encOdmine_miner_isAgg (x : Odmine_miner) : (encOdmine_miner x).isAgg = true := rfl
@[go_sem] theorem encOdmine_miner_isTup (x : Odmine_miner) : (encOdmine_miner x).isTup = false := rfl
@[go_sem] theorem encOdmine_miner_sl (l : List Odmine_miner) : ((l.map encOdmine_miner).all fun y => y.cells.length == 4) = true := by simp [encOdmine_miner, PV.cells]
@[go_sem] theorem encOdmine_miner_ok (l : List Odmine_miner) : ((l.map encOdmine_miner).map AV.p).all (elemOk 4) = true := elemOkAll_map _ _ _ fun _ => ⟨rfl, rfl⟩
def encDrossref03_Recipe (x : Drossref03_Recipe) : PV := .agg [.int .u8 x.Attrs, .int .u8 x.Gap, .slc (List.map (encL (PV.int .u8)) x.Rows)]
@[go_sem] theorem encDrossref03_Recipe_fold (x : Drossref03_Recipe) : PV.agg [.int .u8 x.Attrs, .int .u8 x.Gap, .slc (List.map (encL (PV.int .u8)) x.Rows)] = encDrossref03_Recipe x := rfl
@[go_sem] theorem encDrossref03_Recipe_cells (x : Drossref03_Recipe) : (encDrossref03_Recipe x).cells = [.int .u8 x.Attrs, .int .u8 x.Gap, .slc (List.map (encL (PV.int .u8)) x.Rows)] := rfl
@[go_sem] theorem encDrossref03_Recipe_isAgg (x : Drossref03_Recipe) : (encDrossref03_Recipe x).isAgg = true := rfl
@[go_sem] theorem encDrossref03_Recipe_isTup (x : Drossref03_Recipe) : (encDrossref03_Recipe x).isTup = false := rfl
@[go_sem] theorem encDrossref03_Recipe_sl (l : List Drossref03_Recipe) : ((l.map encDrossref03_Recipe).all fun y => y.cells.length == 3) = true := by simp [encDrossref03_Recipe, PV.cells]
@[go_sem] theorem encDrossref03_Recipe_ok (l : List Drossref03_Recipe) : ((l.map encDrossref03_Recipe).map AV.p).all (elemOk 3) = true := elemOkAll_map _ _ _ fun _ => ⟨rfl, rfl⟩
theorem encCanonical_52_key (a b : Canonical) : keyEqK Try.prog 52 (encCanonical a) (encCanonical b) = some (decide (a = b)) := by
  obtain ⟨a0, a1, a2⟩ := a
  obtain ⟨b0, b1, b2⟩ := b
  simp only [encCanonical, keyEqK, keyB, eqC, go_sem, seval, beq_self_eq_true, Bool.true_and, Bool.and_true, if_true, Option.bind_some, Option.isSome_some]
  congr 1
  rw [Bool.eq_iff_iff]
  simp
@[go_sem] theorem encCanonical_52_keyB (x : Canonical) : keyB Try.prog 52 (encCanonical x) = true := by
  obtain ⟨a0, a1, a2⟩ := x
  simp only [encCanonical, keyEqK, keyB, eqC, go_sem, seval, beq_self_eq_true, Bool.true_and, Bool.and_true, if_true, Option.bind_some, Option.isSome_some]
@[go_sem] theorem encCanonical_52_keyL (a0 : Int) (a1 : Int) (a2 : Int) : keyB Try.prog 52 (.agg [.int .u32 a0, .int .i64 a1, .int .i64 a2]) = true := encCanonical_52_keyB (Canonical.mk a0 a1 a2)
@[go_sem] theorem encCanonical_52_find {V : Type} (k : Canonical) (m : List (Canonical × V)) (g : V → PV) : findA Try.prog 52 (encCanonical k) (encK encCanonical m) ((encW g m).map AV.p) = some ((mget m k).map fun v => AV.p (g v)) := findA_gen _ _ _ encCanonical_52_key k m g
@[go_sem] theorem encCanonical_52_findL {V : Type} (a0 : Int) (a1 : Int) (a2 : Int) (m : List (Canonical × V)) (g : V → PV) : findA Try.prog 52 (.agg [.int .u32 a0, .int .i64 a1, .int .i64 a2]) (encK encCanonical m) ((encW g m).map AV.p) = some ((mget m (Canonical.mk a0 a1 a2)).map fun v => AV.p (g v)) := encCanonical_52_find (Canonical.mk a0 a1 a2) m g
@[go_sem] theorem encCanonical_52_upd {V : Type} (k : Canonical) (m : List (Canonical × V)) (g : V → PV) (v : V) : updA Try.prog 52 (encCanonical k) (.p (g v)) (encK encCanonical m) ((encW g m).map AV.p) = some (encK encCanonical (mset m k v), (encW g (mset m k v)).map AV.p) := updA_gen _ _ _ encCanonical_52_key k m g v
@[go_sem] theorem encCanonical_52_updL {V : Type} (a0 : Int) (a1 : Int) (a2 : Int) (m : List (Canonical × V)) (g : V → PV) (v : V) : updA Try.prog 52 (.agg [.int .u32 a0, .int .i64 a1, .int .i64 a2]) (.p (g v)) (encK encCanonical m) ((encW g m).map AV.p) = some (encK encCanonical (mset m (Canonical.mk a0 a1 a2) v), (encW g (mset m (Canonical.mk a0 a1 a2) v)).map AV.p) := encCanonical_52_upd (Canonical.mk a0 a1 a2) m g v
end Go.Proofs.Ythgnkhchpjcboaa
namespace Go.Proofs
open Go Go.Ab Go.Shelf
def Ythgnkhchpjcboaa.clone20_ren : Go.Shelf.Ren := ⟨fun | 41 => 20 | n => n, fun | 22 => 47 | 23 => 52 | 4 => 4 | n => n, fun | n => n⟩
theorem Ythgnkhchpjcboaa.clone20 : Go.Proofs.SlLaysE0.n41 Try.prog Ythgnkhchpjcboaa.clone20_ren := {
  mixed := by kernel_rfl
  f41 := ⟨Try.f20.name, by decide, Try.func20.trans (congrArg some (by kernel_rfl))⟩
  t4 := Try.underlying4
  a4 := Try.isAgg4
  z4 := Try.sizeOf4
  v4 := Try.zeroValue4
  t22 := Try.underlying47
  a22 := Try.isAgg47
  z22 := Try.sizeOf47
  v22 := Try.zeroValue47 }
def Ythgnkhchpjcboaa.clone72_ren : Go.Shelf.Ren := ⟨fun | 41 => 72 | n => n, fun | 22 => 76 | 23 => 37 | 4 => 4 | n => n, fun | n => n⟩
theorem Ythgnkhchpjcboaa.clone72 : Go.Proofs.SlLaysE0.n41 Try.prog Ythgnkhchpjcboaa.clone72_ren := {
  mixed := by kernel_rfl
  f41 := ⟨Try.f72.name, by decide, Try.func72.trans (congrArg some (by kernel_rfl))⟩
  t4 := Try.underlying4
  a4 := Try.isAgg4
  z4 := Try.sizeOf4
  v4 := Try.zeroValue4
  t22 := Try.underlying76
  a22 := Try.isAgg76
  z22 := Try.sizeOf76
  v22 := Try.zeroValue76 }
theorem Ythgnkhchpjcboaa.cln20 : Cln Try.prog 20 52 3 24 := AbE.cln Ythgnkhchpjcboaa.clone20 Try.call20 Try.t52 _ _ _ (by kernel_rfl) rfl rfl rfl rfl (by decide)
theorem Ythgnkhchpjcboaa.cln72 : Cln Try.prog 72 37 1 4 := AbE.cln Ythgnkhchpjcboaa.clone72 Try.call72 Try.t37 _ _ _ (by kernel_rfl) rfl rfl rfl rfl (by decide)
end Go.Proofs
set_option linter.unusedVariables false
set_option linter.unusedSimpArgs false
namespace Go.Proofs.Ythgnkhchpjcboaa
open Go Go.Ab
set_option maxRecDepth 20000 in
set_option maxHeartbeats 4000000 in
theorem table_isName_con {D : Prop} (s1 : List UInt8) (r2 : Bool) (h : table_isName s1 = some r2) : Con D Try.prog 60 [(.str s1)] (.bool r2) := by
 refine zP Try.call60 Try.func60 rfl Try.ntmps60 fun X w => ?_
 simp only [table_isName] at h
 refine zs (zr ?_)
 refine zU (zl (zn (zs (zs (zr ?_)))))
 refine zU ?_
 rcases zI h with ⟨h3, h⟩ | ⟨h3, h⟩
 refine zw 8 true ?_
 refine zh ?_
 refine zU ?_
 refine zh ?_
 refine zU (zl (zn ?_))
 refine zi (zs (zr ?_))
 refine zU (zl (zn (zq (zt ?_))))
 cases h
 exact zT Try.results60
 refine zw 8 false ?_
 refine zg ?_
 refine zg ?_
 refine zg ?_
 refine zU ?_
 rcases zI h with ⟨h4, h⟩ | ⟨h4, h⟩
 refine zw 13 true ?_
 refine zh ?_
 refine zU (zl (zn ?_))
 refine zi (zs (zr ?_))
 refine zU (zl (zn (zq (zt ?_))))
 cases h
 exact zT Try.results60
 refine zw 13 false ?_
 refine zg ?_
 refine zg ?_
 refine zU (zl (zn ?_))
 rcases zI h with ⟨h5, h⟩ | ⟨h5, h⟩
 refine zi (zs (zr ?_))
 refine zU (zl (zn (zq (zt ?_))))
 cases h
 exact zT Try.results60
 refine zj (zk (zn (zs (zs (zr ?_)))))
 refine zU (zl (zn (zb ?_)))
 obtain ⟨o6, h7, h⟩ := zB h
 refine zO (fun (s : Int) => ⟨[(0, .p (.str s1)), (18, .p (.int .i64 (s1.length : Int))), (19, .p (.int .i64 s))], []⟩) (fun (o : (Unit) ⊕ (Bool)) => match o with | .inl o8 => tE (cX Try.f60 X w D) (.exit 0) ⟨[], []⟩ | .inr o9 => tR Try.prog Try.f60 (.bool o9)) h7 ?_ ?_
 clear h h3 h4 h5 h7
 intro t10 x h
 simp only [table_isName_l1] at h
 refine zs (zr ?_)
 refine zU (zl (zn (zs ?_)))
 rcases zI h with ⟨h11, h⟩ | ⟨h11, h⟩
 refine zi (zk (zn (zs (zb (zs (zr ?_))))))
 refine zU (zl (zn (zs (zr ?_))))
 obtain ⟨c12, h13, h13a, h13b, h⟩ := zX h
 refine zU (zl (zn ?_))
 obtain ⟨l14, h15, h⟩ := zB h
 refine zJ (fun (o16 : Bool) => tE (cX Try.f60 X w D) .normal ⟨[(0, .p (.str s1)), (3, .p (.int .i64 t10)), (4, .p (.int .u8 ((c12.toNat : Nat) : Int))), (5, .p (.bool o16)), (18, .p (.int .i64 (s1.length : Int))), (19, .p (.int .i64 t10))], []⟩) l14 ?_ ?_
 replace h := h15
 clear h15
 refine zr ?_
 refine zU ?_
 rcases zI h with ⟨h17, h⟩ | ⟨h17, h⟩
 refine zw 27 true ?_
 refine zg ?_
 refine zg ?_
 refine zU ?_
 rcases zI h with ⟨h18, h⟩ | ⟨h18, h⟩
 refine zw 31 true ?_
 refine zh ?_
 refine zU ?_
 refine zh ?_
 refine zU (zl ?_)
 cases h
 exact ⟨rfl, zE⟩
 refine zw 31 false ?_
 refine zg ?_
 refine zg ?_
 refine zg ?_
 rcases zI h with ⟨h19, h⟩ | ⟨h19, h⟩
 refine zw 34 true ?_
 refine zg ?_
 refine zg ?_
 refine zg ?_
 refine zU ?_
 rcases zI h with ⟨h20, h⟩ | ⟨h20, h⟩
 refine zw 39 true ?_
 refine zh ?_
 refine zU (zl ?_)
 cases h
 exact ⟨rfl, zE⟩
 replace h := h.symm
 refine zw 39 false ?_
 refine zg ?_
 refine zg ?_
 refine zU (zl ?_)
 cases h
 exact ⟨rfl, zE⟩
 replace h := h.symm
 refine zw 34 false ?_
 refine zh ?_
 refine zg ?_
 refine zU ?_
 refine zg ?_
 refine zg ?_
 refine zU (zl ?_)
 cases h
 exact ⟨rfl, zE⟩
 refine zw 27 false ?_
 refine zh ?_
 refine zU ?_
 refine zg ?_
 refine zg ?_
 refine zg ?_
 rcases zI h with ⟨h21, h⟩ | ⟨h21, h⟩
 refine zw 34 true ?_
 refine zg ?_
 refine zg ?_
 refine zg ?_
 refine zU ?_
 rcases zI h with ⟨h22, h⟩ | ⟨h22, h⟩
 refine zw 39 true ?_
 refine zh ?_
 refine zU (zl ?_)
 cases h
 exact ⟨rfl, zE⟩
 replace h := h.symm
 refine zw 39 false ?_
 refine zg ?_
 refine zg ?_
 refine zU (zl ?_)
 cases h
 exact ⟨rfl, zE⟩
 replace h := h.symm
 refine zw 34 false ?_
 refine zh ?_
 refine zg ?_
 refine zU ?_
 refine zg ?_
 refine zg ?_
 refine zU (zl ?_)
 cases h
 exact ⟨rfl, zE⟩
 try simp only at h
 refine zA (zn (zs (zr ?_)))
 refine zU ?_
 rcases zI h with ⟨h23, h⟩ | ⟨h23, h⟩
 refine zw 45 false ?_
 refine zh ?_
 refine zU (zl (zn ?_))
 refine zj (zk (yn (zn (zr ?_))))
 refine zU (zl ?_)
 cases h
 exact ⟨rfl, zE⟩
 refine zw 45 true ?_
 refine zg ?_
 refine zg ?_
 refine zg ?_
 rcases zI h with ⟨h24, h⟩ | ⟨h24, h⟩
 replace h := h.symm
 refine zw 48 true ?_
 refine zh ?_
 refine zg ?_
 refine zg ?_
 refine zh ?_
 refine zg ?_
 refine zU (zl (zn ?_))
 refine zi (zs (zr ?_))
 refine zU (zl (zn (zq (yr (zt ?_)))))
 cases h
 exact ⟨rfl, zT Try.results60⟩
 refine zw 48 false ?_
 refine zg ?_
 refine zg ?_
 refine zg ?_
 refine zg ?_
 rcases zI h with ⟨h25, h⟩ | ⟨h25, h⟩
 replace h := h.symm
 refine zw 52 true ?_
 refine zh ?_
 refine zg ?_
 refine zU (zl (zn ?_))
 refine zi (zs (zr ?_))
 refine zU (zl (zn (zq (yr (zt ?_)))))
 cases h
 exact ⟨rfl, zT Try.results60⟩
 refine zw 52 false ?_
 refine zg ?_
 refine zg ?_
 refine zg ?_
 refine zU (zl (zn ?_))
 rcases zI h with ⟨h26, h⟩ | ⟨h26, h⟩
 refine zi (zs (zr ?_))
 refine zU (zl (zn (zq (yr (zt ?_)))))
 cases h
 exact ⟨rfl, zT Try.results60⟩
 refine zj (zk (yn (zn (zr ?_))))
 refine zU (zl ?_)
 cases h
 exact ⟨rfl, zE⟩
 refine zj (zx (ze ?_))
 cases h
 exact ⟨rfl, zE⟩
 rcases o6 with ⟨⟩ | r27
 try simp only at h
 refine zA (yh (zn (zs (zr ?_))))
 refine zU (zl (zn (zq ?_)))
 cases h
 exact zT Try.results60
 try simp only at h
 refine zZ fun s hq => ?_
 refine yr (zt ?_)
 cases h
 exact hq
end Go.Proofs.Ythgnkhchpjcboaa
set_option linter.unusedVariables false
set_option linter.unusedSimpArgs false
namespace Go.Proofs.Ythgnkhchpjcboaa
open Go Go.Ab
set_option maxHeartbeats 4000000 in
theorem slices_Index_string_con {D : Prop} (s1 : List (List UInt8)) (v2 : List UInt8) (r3 : Int) (h : slices_Index_string s1 v2 = some r3) : Con D Try.prog 77 [(.slc (List.map PV.str s1)), (.str v2)] (.int .i64 r3) := by
 refine zP Try.call77 Try.func77 rfl Try.ntmps77 fun X w => ?_
 simp only [slices_Index_string] at h
 refine zs (zr ?_)
 refine zU (zl (zn (zs (zs (zr ?_)))))
 refine zU (zl (zn (zb ?_)))
 obtain ⟨o4, h5, h⟩ := zB h
 refine zO (fun (s : Int) => ⟨[(0, .p (.slc (List.map PV.str s1))), (1, .p (.str v2)), (7, .p (.int .i64 (s1.length : Int))), (8, .p (.int .i64 s))], []⟩) (fun (o : (Unit) ⊕ (Int)) => match o with | .inl o6 => tE (cX Try.f77 X w D) (.exit 0) ⟨[], []⟩ | .inr o7 => tR Try.prog Try.f77 (.int .i64 o7)) h5 ?_ ?_
 clear h h5
 intro t8 x h
 simp only [slices_Index_string_l1] at h
 refine zs (zr ?_)
 refine zU (zl (zn (zs ?_)))
 rcases zI h with ⟨h9, h⟩ | ⟨h9, h⟩
 refine zi (zk (zn (zs (zb (zs (zr ?_))))))
 refine zU (zl (zn (zs (zr ?_))))
 obtain ⟨x10, h11, h11a, h11b, h⟩ := zX h
 refine zU (zl (zn ?_))
 rcases zI h with ⟨h12, h⟩ | ⟨h12, h⟩
 refine zi (zs (zr ?_))
 refine zU (zl (zn (zq (yr (zt ?_)))))
 cases h
 exact ⟨rfl, zT Try.results77⟩
 refine zj (zk (yn (zn (zr ?_))))
 refine zU (zl ?_)
 cases h
 exact ⟨rfl, zE⟩
 refine zj (zx (ze ?_))
 cases h
 exact ⟨rfl, zE⟩
 rcases o4 with ⟨⟩ | r13
 try simp only at h
 refine zA (yh (zn (zs (zr ?_))))
 refine zU (zl (zn (zq ?_)))
 cases h
 exact zT Try.results77
 try simp only at h
 refine zZ fun s hq => ?_
 refine yr (zt ?_)
 cases h
 exact hq
end Go.Proofs.Ythgnkhchpjcboaa
set_option linter.unusedVariables false
set_option linter.unusedSimpArgs false
namespace Go.Proofs.Ythgnkhchpjcboaa
open Go Go.Ab
set_option maxHeartbeats 4000000 in
theorem slices_Contains_string_con {D : Prop} (s1 : List (List UInt8)) (v2 : List UInt8) (r3 : Bool) (h : slices_Contains_string s1 v2 = some r3) : Con D Try.prog 61 [(.slc (List.map PV.str s1)), (.str v2)] (.bool r3) := by
 refine zP Try.call61 Try.func61 rfl Try.ntmps61 fun X w => ?_
 simp only [slices_Contains_string] at h
 refine zs (zr ?_)
 refine zU (zl (zn (zs (zr ?_))))
 refine zU ?_
 obtain ⟨r4, h5, h⟩ := zB h
 refine zc (slices_Index_string_con s1 v2 _ h5) ?_
 refine zU (zl (zn (zq ?_)))
 cases h
 exact zT Try.results61
end Go.Proofs.Ythgnkhchpjcboaa
set_option linter.unusedVariables false
set_option linter.unusedSimpArgs false
namespace Go.Proofs.Ythgnkhchpjcboaa
open Go Go.Ab
set_option maxHeartbeats 4000000 in
theorem slices_IndexFunc_Value_con {D : Prop} (s1 : List Value) (f2 : Value → Option (Bool)) (f2_k : FuncId) (f2_cs : List PV) (f2_h : ∀ (y3 : Value) (r4 : Bool), f2 y3 = some r4 → Con D Try.prog f2_k ((encValue y3) :: f2_cs) (.bool r4)) (r5 : Int) (h : slices_IndexFunc_Value s1 f2 = some r5) : Con D Try.prog 95 [(.slc (List.map encValue s1)), .func (.func f2_k) f2_cs] (.int .i64 r5) := by
 refine zP Try.call95 Try.func95 rfl Try.ntmps95 fun X w => ?_
 simp only [slices_IndexFunc_Value] at h
 refine zs (zr ?_)
 refine zU (zl (zn (zs (zs (zr ?_)))))
 refine zU (zl (zn (zb ?_)))
 obtain ⟨o6, h7, h⟩ := zB h
 refine zO (fun (s : Int) => ⟨[(0, .p (.slc (List.map encValue s1))), (1, .p (.func (.func f2_k) f2_cs)), (7, .p (.int .i64 (s1.length : Int))), (8, .p (.int .i64 s))], []⟩) (fun (o : (Unit) ⊕ (Int)) => match o with | .inl o8 => tE (cX Try.f95 X w D) (.exit 0) ⟨[], []⟩ | .inr o9 => tR Try.prog Try.f95 (.int .i64 o9)) h7 ?_ ?_
 clear h h7
 intro t10 x h
 simp only [slices_IndexFunc_Value_l1] at h
 refine zs (zr ?_)
 refine zU (zl (zn (zs ?_)))
 rcases zI h with ⟨h11, h⟩ | ⟨h11, h⟩
 refine zi (zk (zn (zs (zb (zs (zr ?_))))))
 refine zU (zl (zn (zs (zr ?_))))
 obtain ⟨x12, h13, h13a, h13b, h⟩ := zX h
 refine zU ?_
 obtain ⟨r14, h15, h⟩ := zB h
 refine zc (f2_h x12 _ h15) ?_
 refine zl (zn ?_)
 rcases zI h with ⟨h16, h⟩ | ⟨h16, h⟩
 refine zi (zs (zr ?_))
 refine zU (zl (zn (zq (yr (zt ?_)))))
 cases h
 exact ⟨rfl, zT Try.results95⟩
 refine zj (zk (yn (zn (zr ?_))))
 refine zU (zl ?_)
 cases h
 exact ⟨rfl, zE⟩
 refine zj (zx (ze ?_))
 cases h
 exact ⟨rfl, zE⟩
 rcases o6 with ⟨⟩ | r17
 try simp only at h
 refine zA (yh (zn (zs (zr ?_))))
 refine zU (zl (zn (zq ?_)))
 cases h
 exact zT Try.results95
 try simp only at h
 refine zZ fun s hq => ?_
 refine yr (zt ?_)
 cases h
 exact hq
end Go.Proofs.Ythgnkhchpjcboaa
set_option linter.unusedVariables false
set_option linter.unusedSimpArgs false
namespace Go.Proofs.Ythgnkhchpjcboaa
open Go Go.Ab
set_option maxHeartbeats 4000000 in
theorem slices_ContainsFunc_Value_con {D : Prop} (s1 : List Value) (f2 : Value → Option (Bool)) (f2_k : FuncId) (f2_cs : List PV) (f2_h : ∀ (y3 : Value) (r4 : Bool), f2 y3 = some r4 → Con D Try.prog f2_k ((encValue y3) :: f2_cs) (.bool r4)) (r5 : Bool) (h : slices_ContainsFunc_Value s1 f2 = some r5) : Con D Try.prog 78 [(.slc (List.map encValue s1)), .func (.func f2_k) f2_cs] (.bool r5) := by
 refine zP Try.call78 Try.func78 rfl Try.ntmps78 fun X w => ?_
 simp only [slices_ContainsFunc_Value] at h
 refine zs (zr ?_)
 refine zU (zl (zn (zs (zr ?_))))
 refine zU ?_
 obtain ⟨r6, h7, h⟩ := zB h
 refine zc (slices_IndexFunc_Value_con s1 f2 f2_k f2_cs f2_h _ h7) ?_
 refine zU (zl (zn (zq ?_)))
 cases h
 exact zT Try.results78
end Go.Proofs.Ythgnkhchpjcboaa
set_option linter.unusedVariables false
set_option linter.unusedSimpArgs false
namespace Go.Proofs.Ythgnkhchpjcboaa
open Go Go.Ab
set_option maxHeartbeats 4000000 in
theorem value_Valid_con {D : Prop} (v1 : Value) (r2 : Bool) (h : value_Valid v1 = some r2) : Con D Try.prog 80 [(encValue v1)] (.bool r2) := by
 refine zP Try.call80 Try.func80 rfl Try.ntmps80 fun X w => ?_
 simp only [value_Valid] at h
 refine zs (zr ?_)
 refine zU (zl (zn (zs (zs (zr ?_)))))
 refine zU (zl (zn (zb (zs (zr ?_)))))
 refine zU (zl (zn ?_))
 rcases zI h with ⟨h3, h⟩ | ⟨h3, h⟩
 refine zi (zs (zr ?_))
 refine zU ?_
 rcases zI h with ⟨h4, h⟩ | ⟨h4, h⟩
 replace h := h.symm
 refine zw 10 true ?_
 refine zg ?_
 refine zg ?_
 refine zg ?_
 refine zU (zl (zn (zq (yr (zt ?_)))))
 cases h
 exact zT Try.results80
 refine zw 10 false ?_
 refine zh ?_
 refine zU (zl (zn (zq (yr (zt ?_)))))
 cases h
 exact zT Try.results80
 refine zj (zs (zr ?_))
 refine zU (zl (zn ?_))
 rcases zI h with ⟨h5, h⟩ | ⟨h5, h⟩
 refine zi (zs (zr ?_))
 refine zU (zl (zn (zq (yr (zt ?_)))))
 cases h
 exact zT Try.results80
 refine zj (zs (zr ?_))
 refine zU (zl (zn ?_))
 rcases zI h with ⟨h6, h⟩ | ⟨h6, h⟩
 refine zi (zs (zr ?_))
 refine zU ?_
 rcases zI h with ⟨h7, h⟩ | ⟨h7, h⟩
 replace h := h.symm
 refine zw 25 true ?_
 refine zg ?_
 refine zg ?_
 refine zg ?_
 refine zg ?_
 refine zU (zl (zn (zq (yr (zt ?_)))))
 cases h
 exact zT Try.results80
 refine zw 25 false ?_
 refine zh ?_
 refine zU (zl (zn (zq (yr (zt ?_)))))
 cases h
 exact zT Try.results80
 refine zj (zs (zr ?_))
 refine zU (zl (zn ?_))
 rcases zI h with ⟨h8, h⟩ | ⟨h8, h⟩
 refine zi (zs (zr ?_))
 refine zU ?_
 rcases zI h with ⟨h9, h⟩ | ⟨h9, h⟩
 replace h := h.symm
 refine zw 36 true ?_
 refine zg ?_
 refine zg ?_
 refine zg ?_
 refine zU (zl (zn (zq (yr (zt ?_)))))
 cases h
 exact zT Try.results80
 refine zw 36 false ?_
 refine zh ?_
 refine zU (zl (zn (zq (yr (zt ?_)))))
 cases h
 exact zT Try.results80
 refine zj (zk (yn (zn (zs (zr ?_)))))
 refine zU (zl (zn (zq ?_)))
 cases h
 exact zT Try.results80
end Go.Proofs.Ythgnkhchpjcboaa
set_option linter.unusedVariables false
set_option linter.unusedSimpArgs false
namespace Go.Proofs.Ythgnkhchpjcboaa
open Go Go.Ab
set_option maxHeartbeats 4000000 in
theorem table_validValues_1_con {D : Prop} (v1 : Value) (r2 : Bool) (h : table_validValues_1 v1 = some r2) : Con D Try.prog 79 [(encValue v1)] (.bool r2) := by
 refine zP Try.call79 Try.func79 rfl Try.ntmps79 fun X w => ?_
 simp only [table_validValues_1] at h
 refine zs (zr ?_)
 refine zU (zl (zn (zs (zr ?_))))
 refine zU ?_
 obtain ⟨r3, h4, h⟩ := zB h
 refine zc (value_Valid_con v1 _ h4) ?_
 refine zU (zl (zn (zq ?_)))
 cases h
 exact zT Try.results79
end Go.Proofs.Ythgnkhchpjcboaa
set_option linter.unusedVariables false
set_option linter.unusedSimpArgs false
namespace Go.Proofs.Ythgnkhchpjcboaa
open Go Go.Ab
set_option maxHeartbeats 4000000 in
theorem table_validValues_con {D : Prop} (l1 : List Value) (r2 : Bool) (h : table_validValues l1 = some r2) : Con D Try.prog 62 [(.slc (List.map encValue l1))] (.bool r2) := by
 refine zP Try.call62 Try.func62 rfl Try.ntmps62 fun X w => ?_
 simp only [table_validValues] at h
 refine zs (zr ?_)
 refine zU (zl (zn (zs (zr ?_))))
 refine zU ?_
 obtain ⟨r3, h4, h⟩ := zB h
 refine zc (slices_ContainsFunc_Value_con l1 (fun (y5 : Value) => table_validValues_1 y5) 79 [] (fun y5 r h => table_validValues_1_con y5 r h) _ h4) ?_
 refine zU (zl (zn (zq ?_)))
 cases h
 exact zT Try.results62
end Go.Proofs.Ythgnkhchpjcboaa
set_option linter.unusedVariables false
set_option linter.unusedSimpArgs false
namespace Go.Proofs.Ythgnkhchpjcboaa
open Go Go.Ab
set_option maxHeartbeats 4000000 in
theorem table_Valid_con {D : Prop} (t1 : Table) (r2 : Int) (h : table_Valid t1 = some r2) : Con D Try.prog 45 [(encTable t1)] (.int .i64 r2) := by
 refine zP Try.call45 Try.func45 rfl Try.ntmps45 fun X w => ?_
 simp only [table_Valid] at h
 refine zs (zr ?_)
 refine zU (zl (zn (zs (zs (zr ?_)))))
 refine zU ?_
 obtain ⟨r3, h4, h⟩ := zB h
 refine zc (table_isName_con t1.Name _ h4) ?_
 refine zU (zl (zn ?_))
 rcases zI h with ⟨h5, h⟩ | ⟨h5, h⟩
 refine zj (zk (zn (zs (zs (zr ?_)))))
 refine zU ?_
 rcases zI h with ⟨h6, h⟩ | ⟨h6, h⟩
 refine zw 16 true ?_
 refine zh ?_
 refine zU (zl (zn ?_))
 refine zi (zs (zr ?_))
 refine zU (zl (zn (zq (zt ?_))))
 cases h
 exact zT Try.results45
 refine zw 16 false ?_
 refine zg ?_
 refine zg ?_
 refine zg ?_
 refine zg ?_
 refine zU (zl (zn ?_))
 rcases zI h with ⟨h7, h⟩ | ⟨h7, h⟩
 refine zi (zs (zr ?_))
 refine zU (zl (zn (zq (zt ?_))))
 cases h
 exact zT Try.results45
 refine zj (zk (zn (zs (zs (zr ?_)))))
 refine zU (zl (zn (zb ?_)))
 obtain ⟨o8, h9, h⟩ := zB h
 refine zO (fun (s : Int) => ⟨[(1, .loc 1 1 0 0), (23, .p (.slc (List.map PV.str t1.Attrs))), (24, .p (.int .i64 (t1.Attrs.length : Int))), (25, .p (.int .i64 s))], [(1, .arr 25 3 1 [.p (encTable t1)])]⟩) (fun (o : (Unit) ⊕ (Int)) => match o with | .inl o10 => tE (cX Try.f45 X w D) (.exit 0) ⟨[(1, .loc 1 1 0 0)], [(1, .arr 25 3 1 [.p (encTable t1)])]⟩ | .inr o11 => tR Try.prog Try.f45 (.int .i64 o11)) h9 ?_ ?_
 clear h h4 h5 h6 h7 h9
 intro t12 x h
 simp only [table_Valid_l1] at h
 refine zs (zr ?_)
 refine zU (zl (zn (zs ?_)))
 rcases zI h with ⟨h13, h⟩ | ⟨h13, h⟩
 refine zi (zk (zn (zs (zb (zs (zr ?_))))))
 obtain ⟨x14, h15, h15a, h15b, h⟩ := zX h
 refine zU (zl (zn (zs (zr ?_))))
 refine zU ?_
 obtain ⟨r16, h17, h⟩ := zB h
 refine zc (table_isName_con x14 _ h17) ?_
 refine zU ?_
 rcases zI h with ⟨h18, h⟩ | ⟨h18, h⟩
 refine zw 33 false ?_
 refine zg ?_
 refine zg ?_
 refine zg ?_
 obtain ⟨h19, h⟩ := ite_some h
 obtain ⟨h20, h⟩ := ite_some h
 refine zg ?_
 refine zg ?_
 obtain ⟨r21, h22, h⟩ := zB h
 refine zc (slices_Contains_string_con (t1.Attrs.take (t12.toNat)) x14 _ h22) ?_
 refine zU (zl (zn ?_))
 rcases zI h with ⟨h23, h⟩ | ⟨h23, h⟩
 refine zi (zs (zr ?_))
 refine zU (zl (zn (zq (yr (zt ?_)))))
 cases h
 exact ⟨rfl, zT Try.results45⟩
 refine zj (zk (yn (zn (zr ?_))))
 refine zU (zl ?_)
 cases h
 exact ⟨rfl, zE⟩
 refine zw 33 true ?_
 refine zh ?_
 refine zU (zl (zn ?_))
 refine zi (zs (zr ?_))
 refine zU (zl (zn (zq (yr (zt ?_)))))
 cases h
 exact ⟨rfl, zT Try.results45⟩
 refine zj (zx (ze ?_))
 cases h
 exact ⟨rfl, zE⟩
 rcases o8 with ⟨⟩ | r24
 try simp only at h
 refine zA (yh (zn (zs (zr ?_))))
 refine zU (zl (zn (zs (zs (zr ?_)))))
 refine zU (zl (zn (zb ?_)))
 obtain ⟨o25, h26, h⟩ := zB h
 refine zO (fun (s : Int × Int) => ⟨[(1, .loc 1 1 0 0), (5, .p (.int .i64 s.1)), (43, .p (.slc (List.map encRow t1.Rows))), (44, .p (.int .i64 (t1.Rows.length : Int))), (45, .p (.int .i64 s.2))], [(1, .arr 25 3 1 [.p (encTable t1)])]⟩) (fun (o : (Unit) ⊕ (Int)) => match o with | .inl o27 => tE (cX Try.f45 X w D) (.exit 2) ⟨[], []⟩ | .inr o28 => tR Try.prog Try.f45 (.int .i64 o28)) h26 ?_ ?_
 clear h h4 h5 h6 h7 h9 h26
 intro s x h
 obtain ⟨l29, t30⟩ := s
 simp only [table_Valid_l2] at h
 dsimp only
 refine zs (zr ?_)
 refine zU (zl (zn (zs ?_)))
 rcases zI h with ⟨h31, h⟩ | ⟨h31, h⟩
 refine zi (zk (zn (zs (zb (zs (zr ?_))))))
 obtain ⟨x32, h33, h33a, h33b, h⟩ := zX h
 refine zU (zl (zn (zs (zb (zs (zr ?_))))))
 refine zU (zl (zn ?_))
 rcases zI h with ⟨h34, h⟩ | ⟨h34, h⟩
 refine zi (zs (zr ?_))
 refine zU (zl (zn (zq (yr (zt (yr (zt ?_)))))))
 cases h
 exact ⟨rfl, zT Try.results45⟩
 refine zj (zs (zr ?_))
 refine zU (zl (zn ?_))
 rcases zI h with ⟨h35, h⟩ | ⟨h35, h⟩
 refine zi (zs (zr ?_))
 refine zU (zl (zn (zq (yr (zt (yr (zt ?_)))))))
 cases h
 exact ⟨rfl, zT Try.results45⟩
 refine zj (zs (zr ?_))
 refine zU ?_
 obtain ⟨r36, h37, h⟩ := zB h
 refine zc (table_validValues_con x32.Values _ h37) ?_
 refine zU (zl (zn ?_))
 rcases zI h with ⟨h38, h⟩ | ⟨h38, h⟩
 refine zj (zk (yn (zn (zr ?_))))
 refine zU (zl (yn (zn (zr ?_))))
 refine zU (zl ?_)
 cases h
 exact ⟨rfl, zE⟩
 refine zi (zs (zr ?_))
 refine zU (zl (zn (zq (yr (zt (yr (zt ?_)))))))
 cases h
 exact ⟨rfl, zT Try.results45⟩
 refine zj (zx (ze ?_))
 cases h
 exact ⟨rfl, zE⟩
 rcases o25 with ⟨⟩ | r39
 try simp only at h
 refine zA (yh (zn (zs (zr ?_))))
 refine zU (zl (zn (zq ?_)))
 cases h
 exact zT Try.results45
 try simp only at h
 refine zZ fun s hq => ?_
 refine yr (zt ?_)
 cases h
 exact hq
 try simp only at h
 refine zZ fun s hq => ?_
 refine yr (zt ?_)
 cases h
 exact hq
 refine zi (zs (zr ?_))
 refine zU (zl (zn (zq (zt ?_))))
 cases h
 exact zT Try.results45
end Go.Proofs.Ythgnkhchpjcboaa
set_option linter.unusedVariables false
set_option linter.unusedSimpArgs false
namespace Go.Proofs.Ythgnkhchpjcboaa
open Go Go.Ab
set_option maxHeartbeats 4000000 in
theorem odmine_check_con {D : Prop} (t1 : Table) (r2 : Int) (h : odmine_check t1 = some r2) : Con D Try.prog 25 [(encTable t1)] (.int .i64 r2) := by
 refine zP Try.call25 Try.func25 rfl Try.ntmps25 fun X w => ?_
 simp only [odmine_check] at h
 refine zs (zr ?_)
 refine zU (zl (zn (zs (zs (zr ?_)))))
 refine zU ?_
 obtain ⟨r3, h4, h⟩ := zB h
 refine zc (table_Valid_con t1 _ h4) ?_
 refine zU (zl (zn (zs (zr ?_))))
 refine zU (zl (zn ?_))
 rcases zI h with ⟨h5, h⟩ | ⟨h5, h⟩
 refine zi (zs (zr ?_))
 refine zU (zl (zn (zq (zt ?_))))
 cases h
 exact zT Try.results25
 refine zj (zk (zn (zs (zs (zr ?_)))))
 refine zU ?_
 rcases zI h with ⟨h6, h⟩ | ⟨h6, h⟩
 refine zw 13 true ?_
 refine zh ?_
 refine zU (zl (zn ?_))
 refine zi (zs (zr ?_))
 refine zU (zl (zn (zq (zt ?_))))
 cases h
 exact zT Try.results25
 refine zw 13 false ?_
 refine zg ?_
 refine zg ?_
 refine zg ?_
 refine zg ?_
 refine zU (zl (zn ?_))
 rcases zI h with ⟨h7, h⟩ | ⟨h7, h⟩
 refine zi (zs (zr ?_))
 refine zU (zl (zn (zq (zt ?_))))
 cases h
 exact zT Try.results25
 refine zj (zk (zn (zs (zr ?_))))
 refine zU (zl (zn (zq ?_)))
 cases h
 exact zT Try.results25
end Go.Proofs.Ythgnkhchpjcboaa
set_option linter.unusedVariables false
set_option linter.unusedSimpArgs false
namespace Go.Proofs.Ythgnkhchpjcboaa
open Go Go.Ab
set_option maxHeartbeats 4000000 in
theorem ordering_check_con {D : Prop} (t1 : Table) (o2 : Int → Option (Bool)) (o2_k : FuncId) (o2_cs : List PV) (o2_h : ∀ (y3 : Int) (r4 : Bool), o2 y3 = some r4 → Con D Try.prog o2_k ((.int .i64 y3) :: o2_cs) (.bool r4)) (r5 : Int) (h : ordering_check t1 o2 = some r5) : Con D Try.prog 46 [(encTable t1), .func (.func o2_k) o2_cs] (.int .i64 r5) := by
 refine zP Try.call46 Try.func46 rfl Try.ntmps46 fun X w => ?_
 simp only [ordering_check] at h
 refine zs (zr ?_)
 refine zU (zl (zn (zs (zs (zr ?_)))))
 refine zU ?_
 obtain ⟨r6, h7, h⟩ := zB h
 refine zc (table_Valid_con t1 _ h7) ?_
 refine zU (zl (zn (zs (zr ?_))))
 refine zU (zl (zn ?_))
 rcases zI h with ⟨h8, h⟩ | ⟨h8, h⟩
 refine zi (zs (zr ?_))
 refine zU (zl (zn (zq (zt ?_))))
 cases h
 exact zT Try.results46
 refine zj (zk (zn (zs (zs (zr ?_)))))
 refine zU ?_
 obtain ⟨r9, h10, h⟩ := zB h
 refine zc (o2_h (t1.Attrs.length : Int) _ h10) ?_
 refine zU (zl (zn ?_))
 rcases zI h with ⟨h11, h⟩ | ⟨h11, h⟩
 refine zj (zk (zn (zs (zr ?_))))
 refine zU (zl (zn (zq ?_)))
 cases h
 exact zT Try.results46
 refine zi (zs (zr ?_))
 refine zU (zl (zn (zq (zt ?_))))
 cases h
 exact zT Try.results46
end Go.Proofs.Ythgnkhchpjcboaa
set_option linter.unusedVariables false
set_option linter.unusedSimpArgs false
namespace Go.Proofs.Ythgnkhchpjcboaa
open Go Go.Ab
set_option maxHeartbeats 4000000 in
theorem slices_IndexFunc_int_con {D : Prop} (s1 : List Int) (f2 : Int → Option (Bool)) (f2_k : FuncId) (f2_cs : List PV) (f2_h : ∀ (y3 : Int) (r4 : Bool), f2 y3 = some r4 → Con D Try.prog f2_k ((.int .i64 y3) :: f2_cs) (.bool r4)) (r5 : Int) (h : slices_IndexFunc_int s1 f2 = some r5) : Con D Try.prog 96 [(.slc (List.map (PV.int .i64) s1)), .func (.func f2_k) f2_cs] (.int .i64 r5) := by
 refine zP Try.call96 Try.func96 rfl Try.ntmps96 fun X w => ?_
 simp only [slices_IndexFunc_int] at h
 refine zs (zr ?_)
 refine zU (zl (zn (zs (zs (zr ?_)))))
 refine zU (zl (zn (zb ?_)))
 obtain ⟨o6, h7, h⟩ := zB h
 refine zO (fun (s : Int) => ⟨[(0, .p (.slc (List.map (PV.int .i64) s1))), (1, .p (.func (.func f2_k) f2_cs)), (7, .p (.int .i64 (s1.length : Int))), (8, .p (.int .i64 s))], []⟩) (fun (o : (Unit) ⊕ (Int)) => match o with | .inl o8 => tE (cX Try.f96 X w D) (.exit 0) ⟨[], []⟩ | .inr o9 => tR Try.prog Try.f96 (.int .i64 o9)) h7 ?_ ?_
 clear h h7
 intro t10 x h
 simp only [slices_IndexFunc_int_l1] at h
 refine zs (zr ?_)
 refine zU (zl (zn (zs ?_)))
 rcases zI h with ⟨h11, h⟩ | ⟨h11, h⟩
 refine zi (zk (zn (zs (zb (zs (zr ?_))))))
 refine zU (zl (zn (zs (zr ?_))))
 obtain ⟨x12, h13, h13a, h13b, h⟩ := zX h
 refine zU ?_
 obtain ⟨r14, h15, h⟩ := zB h
 refine zc (f2_h x12 _ h15) ?_
 refine zl (zn ?_)
 rcases zI h with ⟨h16, h⟩ | ⟨h16, h⟩
 refine zi (zs (zr ?_))
 refine zU (zl (zn (zq (yr (zt ?_)))))
 cases h
 exact ⟨rfl, zT Try.results96⟩
 refine zj (zk (yn (zn (zr ?_))))
 refine zU (zl ?_)
 cases h
 exact ⟨rfl, zE⟩
 refine zj (zx (ze ?_))
 cases h
 exact ⟨rfl, zE⟩
 rcases o6 with ⟨⟩ | r17
 try simp only at h
 refine zA (yh (zn (zs (zr ?_))))
 refine zU (zl (zn (zq ?_)))
 cases h
 exact zT Try.results96
 try simp only at h
 refine zZ fun s hq => ?_
 refine yr (zt ?_)
 cases h
 exact hq
end Go.Proofs.Ythgnkhchpjcboaa
set_option linter.unusedVariables false
set_option linter.unusedSimpArgs false
namespace Go.Proofs.Ythgnkhchpjcboaa
open Go Go.Ab
set_option maxHeartbeats 4000000 in
theorem slices_ContainsFunc_int_con {D : Prop} (s1 : List Int) (f2 : Int → Option (Bool)) (f2_k : FuncId) (f2_cs : List PV) (f2_h : ∀ (y3 : Int) (r4 : Bool), f2 y3 = some r4 → Con D Try.prog f2_k ((.int .i64 y3) :: f2_cs) (.bool r4)) (r5 : Bool) (h : slices_ContainsFunc_int s1 f2 = some r5) : Con D Try.prog 81 [(.slc (List.map (PV.int .i64) s1)), .func (.func f2_k) f2_cs] (.bool r5) := by
 refine zP Try.call81 Try.func81 rfl Try.ntmps81 fun X w => ?_
 simp only [slices_ContainsFunc_int] at h
 refine zs (zr ?_)
 refine zU (zl (zn (zs (zr ?_))))
 refine zU ?_
 obtain ⟨r6, h7, h⟩ := zB h
 refine zc (slices_IndexFunc_int_con s1 f2 f2_k f2_cs f2_h _ h7) ?_
 refine zU (zl (zn (zq ?_)))
 cases h
 exact zT Try.results81
end Go.Proofs.Ythgnkhchpjcboaa
set_option linter.unusedVariables false
set_option linter.unusedSimpArgs false
namespace Go.Proofs.Ythgnkhchpjcboaa
open Go Go.Ab
set_option maxHeartbeats 4000000 in
theorem ordering_list_1_con {D : Prop} (a1 : Int) (c2 : Int) (r3 : Bool) (h : ordering_list_1 a1 c2 = some r3) : Con D Try.prog 82 [(.int .i64 a1), .imm [.int .i64 c2]] (.bool r3) := by
 refine zP Try.call82 Try.func82 rfl Try.ntmps82 fun X w => ?_
 simp only [ordering_list_1] at h
 refine zs (zr ?_)
 refine zU (zl (zn (zs (zr ?_))))
 refine zU ?_
 rcases zI h with ⟨h4, h⟩ | ⟨h4, h⟩
 refine zw 6 true ?_
 refine zh ?_
 refine zU (zl (zn (zq ?_)))
 cases h
 exact zT Try.results82
 replace h := h.symm
 refine zw 6 false ?_
 refine zg ?_
 refine zg ?_
 refine zg ?_
 refine zU (zl (zn (zq ?_)))
 cases h
 exact zT Try.results82
end Go.Proofs.Ythgnkhchpjcboaa
set_option linter.unusedVariables false
set_option linter.unusedSimpArgs false
namespace Go.Proofs.Ythgnkhchpjcboaa
open Go Go.Ab
set_option maxHeartbeats 4000000 in
theorem ordering_list_con {D : Prop} (n1 : Int) (l2 : List Int) (r3 : Bool) (h : ordering_list n1 l2 = some r3) : Con D Try.prog 63 [(.int .i64 n1), (.slc (List.map (PV.int .i64) l2))] (.bool r3) := by
 refine zP Try.call63 Try.func63 rfl Try.ntmps63 fun X w => ?_
 simp only [ordering_list] at h
 refine zs (zr ?_)
 refine zU (zl (zn (zs (zr ?_))))
 refine zU ?_
 rcases zI h with ⟨h4, h⟩ | ⟨h4, h⟩
 refine zw 8 true ?_
 refine zg ?_
 refine zg ?_
 obtain ⟨r5, h6, h⟩ := zB h
 replace h := h.symm
 refine zc (slices_ContainsFunc_int_con l2 (fun (y7 : Int) => ordering_list_1 y7 n1) 82 [.imm [.int .i64 n1]] (fun y7 r h => ordering_list_1_con y7 n1 r h) _ h6) ?_
 refine zg ?_
 refine zU (zl (zn (zq ?_)))
 cases h
 exact zT Try.results63
 refine zw 8 false ?_
 refine zh ?_
 refine zU (zl (zn (zq ?_)))
 cases h
 exact zT Try.results63
end Go.Proofs.Ythgnkhchpjcboaa
set_option linter.unusedVariables false
set_option linter.unusedSimpArgs false
namespace Go.Proofs.Ythgnkhchpjcboaa
open Go Go.Ab
set_option maxHeartbeats 4000000 in
theorem ordering_Valid_con {D : Prop} (n1 : Int) (d2 : OD) (r3 : Bool) (h : ordering_Valid n1 d2 = some r3) : Con D Try.prog 48 [(.int .i64 n1), (encOD d2)] (.bool r3) := by
 refine zP Try.call48 Try.func48 rfl Try.ntmps48 fun X w => ?_
 simp only [ordering_Valid] at h
 refine zs (zr ?_)
 refine zU (zl (zn (zs (zr ?_))))
 refine zU ?_
 obtain ⟨r4, h5, h⟩ := zB h
 refine zc (ordering_list_con n1 d2.Lhs _ h5) ?_
 refine zU ?_
 rcases zI h with ⟨h6, h⟩ | ⟨h6, h⟩
 refine zw 9 true ?_
 refine zg ?_
 refine zg ?_
 refine zg ?_
 obtain ⟨r7, h8, h⟩ := zB h
 refine zc (ordering_list_con n1 d2.Rhs _ h8) ?_
 refine zU (zl (zn (zq ?_)))
 cases h
 exact zT Try.results48
 refine zw 9 false ?_
 refine zh ?_
 refine zU (zl (zn (zq ?_)))
 cases h
 exact zT Try.results48
end Go.Proofs.Ythgnkhchpjcboaa
set_option linter.unusedVariables false
set_option linter.unusedSimpArgs false
namespace Go.Proofs.Ythgnkhchpjcboaa
open Go Go.Ab
set_option maxHeartbeats 4000000 in
theorem ordering_Holds_1_con {D : Prop} (n1 : Int) (c2 : OD) (r3 : Bool) (h : ordering_Holds_1 n1 c2 = some r3) : Con D Try.prog 47 [(.int .i64 n1), .imm [.slc (List.map (PV.int .i64) c2.Lhs), .slc (List.map (PV.int .i64) c2.Rhs)]] (.bool r3) := by
 refine zP Try.call47 Try.func47 rfl Try.ntmps47 fun X w => ?_
 simp only [ordering_Holds_1] at h
 refine zs (zr ?_)
 refine zU (zl (zn (zs (zr ?_))))
 refine zU ?_
 obtain ⟨r4, h5, h⟩ := zB h
 refine zc (ordering_Valid_con n1 c2 _ h5) ?_
 refine zU (zl (zn (zq ?_)))
 cases h
 exact zT Try.results47
end Go.Proofs.Ythgnkhchpjcboaa
set_option linter.unusedVariables false
set_option linter.unusedSimpArgs false
namespace Go.Proofs.Ythgnkhchpjcboaa
open Go Go.Ab
set_option maxHeartbeats 4000000 in
theorem ordering_Violation_1_con {D : Prop} (n1 : Int) (c2 : OD) (r3 : Bool) (h : ordering_Violation_1 n1 c2 = some r3) : Con D Try.prog 64 [(.int .i64 n1), .imm [.slc (List.map (PV.int .i64) c2.Lhs), .slc (List.map (PV.int .i64) c2.Rhs)]] (.bool r3) := by
 refine zP Try.call64 Try.func64 rfl Try.ntmps64 fun X w => ?_
 simp only [ordering_Violation_1] at h
 refine zs (zr ?_)
 refine zU (zl (zn (zs (zr ?_))))
 refine zU ?_
 obtain ⟨r4, h5, h⟩ := zB h
 refine zc (ordering_Valid_con n1 c2 _ h5) ?_
 refine zU (zl (zn (zq ?_)))
 cases h
 exact zT Try.results64
end Go.Proofs.Ythgnkhchpjcboaa
set_option linter.unusedVariables false
set_option linter.unusedSimpArgs false
namespace Go.Proofs.Ythgnkhchpjcboaa
open Go Go.Ab
set_option maxHeartbeats 4000000 in
theorem cmp_Or_int_con {D : Prop} (v1 : List Int) (r2 : Int) (h : cmp_Or_int v1 = some r2) : Con D Try.prog 90 [(.slc (List.map (PV.int .i64) v1))] (.int .i64 r2) := by
 refine zP Try.call90 Try.func90 rfl Try.ntmps90 fun X w => ?_
 simp only [cmp_Or_int] at h
 refine zs (zr ?_)
 refine zU (zl (zn (zs (zr ?_))))
 refine zU (zl (zn (zs (zs (zr ?_)))))
 refine zU (zl (zn (zb ?_)))
 obtain ⟨o3, h4, h⟩ := zB h
 refine zO (fun (s : Int) => ⟨[(3, .p (.int .i64 0)), (6, .p (.slc (List.map (PV.int .i64) v1))), (7, .p (.int .i64 (v1.length : Int))), (8, .p (.int .i64 s))], []⟩) (fun (o : (Unit) ⊕ (Int)) => match o with | .inl o5 => tE (cX Try.f90 X w D) (.exit 0) ⟨[(3, .p (.int .i64 0))], []⟩ | .inr o6 => tR Try.prog Try.f90 (.int .i64 o6)) h4 ?_ ?_
 clear h h4
 intro t7 x h
 simp only [cmp_Or_int_l1] at h
 refine zs (zr ?_)
 refine zU (zl (zn (zs ?_)))
 rcases zI h with ⟨h8, h⟩ | ⟨h8, h⟩
 refine zi (zk (zn (zs (zb (zs (zr ?_))))))
 obtain ⟨x9, h10, h10a, h10b, h⟩ := zX h
 refine zU (zl (zn (zs (zr ?_))))
 refine zU (zl (zn ?_))
 rcases zI h with ⟨h11, h⟩ | ⟨h11, h⟩
 refine zi (zs (zr ?_))
 refine zU (zl (zn (zq (yr (zt ?_)))))
 cases h
 exact ⟨rfl, zT Try.results90⟩
 refine zj (zk (yn (zn (zr ?_))))
 refine zU (zl ?_)
 cases h
 exact ⟨rfl, zE⟩
 refine zj (zx (ze ?_))
 cases h
 exact ⟨rfl, zE⟩
 rcases o3 with ⟨⟩ | r12
 try simp only at h
 refine zA (yh (zn (zs (zr ?_))))
 refine zU (zl (zn (zq ?_)))
 cases h
 exact zT Try.results90
 try simp only at h
 refine zZ fun s hq => ?_
 refine yr (zt ?_)
 cases h
 exact hq
end Go.Proofs.Ythgnkhchpjcboaa
set_option linter.unusedVariables false
set_option linter.unusedSimpArgs false
namespace Go.Proofs.Ythgnkhchpjcboaa
open Go Go.Ab
set_option maxHeartbeats 4000000 in
theorem cmp_isNaN_int_con {D : Prop} (x1 : Int) (r2 : Bool) (h : cmp_isNaN_int x1 = some r2) : Con D Try.prog 107 [(.int .i64 x1)] (.bool r2) := by
 refine zP Try.call107 Try.func107 rfl Try.ntmps107 fun X w => ?_
 simp only [cmp_isNaN_int] at h
 refine zs (zr ?_)
 refine zU (zl (zn (zs (zr ?_))))
 refine zU (zl (zn (zq ?_)))
 cases h
 exact zT Try.results107
end Go.Proofs.Ythgnkhchpjcboaa
set_option linter.unusedVariables false
set_option linter.unusedSimpArgs false
namespace Go.Proofs.Ythgnkhchpjcboaa
open Go Go.Ab
set_option maxHeartbeats 4000000 in
theorem cmp_Compare_int_con {D : Prop} (x1 : Int) (y2 : Int) (r3 : Int) (h : cmp_Compare_int x1 y2 = some r3) : Con D Try.prog 91 [(.int .i64 x1), (.int .i64 y2)] (.int .i64 r3) := by
 refine zP Try.call91 Try.func91 rfl Try.ntmps91 fun X w => ?_
 simp only [cmp_Compare_int] at h
 refine zs (zr ?_)
 refine zU (zl (zn (zs (zr ?_))))
 refine zU ?_
 obtain ⟨r4, h5, h⟩ := zB h
 refine zc (cmp_isNaN_int_con x1 _ h5) ?_
 refine zU (zl (zn (zs (zr ?_))))
 refine zU ?_
 obtain ⟨r6, h7, h⟩ := zB h
 refine zc (cmp_isNaN_int_con y2 _ h7) ?_
 refine zU (zl (zn (zs (zs (zr ?_)))))
 refine zU (zl (zn ?_))
 rcases zI h with ⟨h8, h⟩ | ⟨h8, h⟩
 refine zi (zs (zs (zr ?_)))
 refine zU (zl (zn ?_))
 rcases zI h with ⟨h9, h⟩ | ⟨h9, h⟩
 refine zi (zs (zr ?_))
 refine zU (zl (zn (zq (zt (zt ?_)))))
 cases h
 exact zT Try.results91
 refine zj (zk (zn (zs (zr ?_))))
 refine zU (zl (zn (zq (zt ?_))))
 cases h
 exact zT Try.results91
 refine zj (zk (zn (zs (zs (zr ?_)))))
 refine zU (zl (zn ?_))
 rcases zI h with ⟨h10, h⟩ | ⟨h10, h⟩
 refine zi (zs (zr ?_))
 refine zU (zl (zn (zq (zt ?_))))
 cases h
 exact zT Try.results91
 refine zj (zk (zn (zs (zs (zr ?_)))))
 refine zU (zl (zn ?_))
 rcases zI h with ⟨h11, h⟩ | ⟨h11, h⟩
 refine zi (zs (zr ?_))
 refine zU (zl (zn (zq (zt ?_))))
 cases h
 exact zT Try.results91
 refine zj (zk (zn (zs (zs (zr ?_)))))
 refine zU (zl (zn ?_))
 rcases zI h with ⟨h12, h⟩ | ⟨h12, h⟩
 refine zi (zs (zr ?_))
 refine zU (zl (zn (zq (zt ?_))))
 cases h
 exact zT Try.results91
 refine zj (zk (zn (zs (zr ?_))))
 refine zU (zl (zn (zq ?_)))
 cases h
 exact zT Try.results91
end Go.Proofs.Ythgnkhchpjcboaa
set_option linter.unusedVariables false
set_option linter.unusedSimpArgs false
namespace Go.Proofs.Ythgnkhchpjcboaa
open Go Go.Ab
set_option maxHeartbeats 4000000 in
theorem cmp_isNaN_int64_con {D : Prop} (x1 : Int) (r2 : Bool) (h : cmp_isNaN_int64 x1 = some r2) : Con D Try.prog 116 [(.int .i64 x1)] (.bool r2) := by
 refine zP Try.call116 Try.func116 rfl Try.ntmps116 fun X w => ?_
 simp only [cmp_isNaN_int64] at h
 refine zs (zr ?_)
 refine zU (zl (zn (zs (zr ?_))))
 refine zU (zl (zn (zq ?_)))
 cases h
 exact zT Try.results116
end Go.Proofs.Ythgnkhchpjcboaa
set_option linter.unusedVariables false
set_option linter.unusedSimpArgs false
namespace Go.Proofs.Ythgnkhchpjcboaa
open Go Go.Ab
set_option maxHeartbeats 4000000 in
theorem cmp_Compare_int64_con {D : Prop} (x1 : Int) (y2 : Int) (r3 : Int) (h : cmp_Compare_int64 x1 y2 = some r3) : Con D Try.prog 109 [(.int .i64 x1), (.int .i64 y2)] (.int .i64 r3) := by
 refine zP Try.call109 Try.func109 rfl Try.ntmps109 fun X w => ?_
 simp only [cmp_Compare_int64] at h
 refine zs (zr ?_)
 refine zU (zl (zn (zs (zr ?_))))
 refine zU ?_
 obtain ⟨r4, h5, h⟩ := zB h
 refine zc (cmp_isNaN_int64_con x1 _ h5) ?_
 refine zU (zl (zn (zs (zr ?_))))
 refine zU ?_
 obtain ⟨r6, h7, h⟩ := zB h
 refine zc (cmp_isNaN_int64_con y2 _ h7) ?_
 refine zU (zl (zn (zs (zs (zr ?_)))))
 refine zU (zl (zn ?_))
 rcases zI h with ⟨h8, h⟩ | ⟨h8, h⟩
 refine zi (zs (zs (zr ?_)))
 refine zU (zl (zn ?_))
 rcases zI h with ⟨h9, h⟩ | ⟨h9, h⟩
 refine zi (zs (zr ?_))
 refine zU (zl (zn (zq (zt (zt ?_)))))
 cases h
 exact zT Try.results109
 refine zj (zk (zn (zs (zr ?_))))
 refine zU (zl (zn (zq (zt ?_))))
 cases h
 exact zT Try.results109
 refine zj (zk (zn (zs (zs (zr ?_)))))
 refine zU (zl (zn ?_))
 rcases zI h with ⟨h10, h⟩ | ⟨h10, h⟩
 refine zi (zs (zr ?_))
 refine zU (zl (zn (zq (zt ?_))))
 cases h
 exact zT Try.results109
 refine zj (zk (zn (zs (zs (zr ?_)))))
 refine zU (zl (zn ?_))
 rcases zI h with ⟨h11, h⟩ | ⟨h11, h⟩
 refine zi (zs (zr ?_))
 refine zU (zl (zn (zq (zt ?_))))
 cases h
 exact zT Try.results109
 refine zj (zk (zn (zs (zs (zr ?_)))))
 refine zU (zl (zn ?_))
 rcases zI h with ⟨h12, h⟩ | ⟨h12, h⟩
 refine zi (zs (zr ?_))
 refine zU (zl (zn (zq (zt ?_))))
 cases h
 exact zT Try.results109
 refine zj (zk (zn (zs (zr ?_))))
 refine zU (zl (zn (zq ?_)))
 cases h
 exact zT Try.results109
end Go.Proofs.Ythgnkhchpjcboaa
namespace Go.Proofs.Ythgnkhchpjcboaa
open Go Go.Ab
theorem ext119 (a b : List UInt8) (w : World) : (callFunc 119 #[.string ⟨a.toArray⟩, .string ⟨b.toArray⟩]).run Try.prog w = .ok (.value (.int .i64 (Lib.compareBytes a b))) w := by
  rw [run_callFunc_extern Try.func119 (by kernel_rfl) (by kernel_rfl) (by kernel_rfl) (e := Extern.BytealgCompare.compare) (by kernel_rfl), Lib.run_compareString]
  rfl
end Go.Proofs.Ythgnkhchpjcboaa
set_option linter.unusedVariables false
set_option linter.unusedSimpArgs false
namespace Go.Proofs.Ythgnkhchpjcboaa
open Go Go.Ab
set_option maxHeartbeats 4000000 in
theorem bytealg_CompareString_con {D : Prop} (a1 : List UInt8) (b2 : List UInt8) (r3 : Int) (h : bytealg_CompareString a1 b2 = some r3) : Con D Try.prog 117 [(.str a1), (.str b2)] (.int .i64 r3) := by
 refine zP Try.call117 Try.func117 rfl Try.ntmps117 fun X w => ?_
 simp only [bytealg_CompareString] at h
 refine zs (zr ?_)
 refine zU (zl (zn (zs (zr ?_))))
 refine zU ?_
 refine AL_ext2 (ext119 a1 b2) (by simp only [go_sem, seval]; all_goals ((repeat' refine And.intro ?_ ?_) <;> first | rfl | (simp; done) | (simp; rfl) | (simp [*]; done) | (simp [*]; rfl))) (by simp only [go_sem, seval]; all_goals ((repeat' refine And.intro ?_ ?_) <;> first | rfl | (simp; done) | (simp; rfl) | (simp [*]; done) | (simp [*]; rfl))) rfl ?_
 refine zU (zl (zn (zq ?_)))
 cases h
 exact zT Try.results117
end Go.Proofs.Ythgnkhchpjcboaa
set_option linter.unusedVariables false
set_option linter.unusedSimpArgs false
namespace Go.Proofs.Ythgnkhchpjcboaa
open Go Go.Ab
set_option maxHeartbeats 4000000 in
theorem strings_Compare_con {D : Prop} (a1 : List UInt8) (b2 : List UInt8) (r3 : Int) (h : strings_Compare a1 b2 = some r3) : Con D Try.prog 110 [(.str a1), (.str b2)] (.int .i64 r3) := by
 refine zP Try.call110 Try.func110 rfl Try.ntmps110 fun X w => ?_
 simp only [strings_Compare] at h
 refine zs (zr ?_)
 refine zU (zl (zn (zs (zr ?_))))
 refine zU ?_
 obtain ⟨r4, h5, h⟩ := zB h
 refine zc (bytealg_CompareString_con a1 b2 _ h5) ?_
 refine zU (zl (zn (zq ?_)))
 cases h
 exact zT Try.results110
end Go.Proofs.Ythgnkhchpjcboaa
set_option linter.unusedVariables false
set_option linter.unusedSimpArgs false
namespace Go.Proofs.Ythgnkhchpjcboaa
open Go Go.Ab
set_option maxRecDepth 20000 in
set_option maxHeartbeats 4000000 in
theorem value_Compare_con {D : Prop} (a1 : Value) (b2 : Value) (r3 : Int) (h : value_Compare a1 b2 = some r3) : Con D Try.prog 94 [(encValue a1), (encValue b2)] (.int .i64 r3) := by
 refine zP Try.call94 Try.func94 rfl Try.ntmps94 fun X w => ?_
 simp only [value_Compare] at h
 refine zs (zr ?_)
 refine zU (zl (zn (zs (zd ?_))))
 refine yU ?_
 obtain ⟨r4, h5, h⟩ := zB h
 refine yc (cmp_Compare_int_con a1.Kind b2.Kind _ h5) ?_
 refine yU ?_
 obtain ⟨r6, h7, h⟩ := zB h
 refine yc (cmp_Compare_int64_con a1.Num b2.Num _ h7) ?_
 refine yU ?_
 obtain ⟨r8, h9, h⟩ := zB h
 refine yc (strings_Compare_con a1.Str b2.Str _ h9) ?_
 refine yU ?_
 obtain ⟨r10, h11, h⟩ := zB h
 refine yc (cmp_Or_int_con [r4, r6, r8] _ h11) ?_
 refine yU ?_
 refine yd (zn (zq ?_))
 cases h
 exact zT Try.results94
end Go.Proofs.Ythgnkhchpjcboaa
set_option linter.unusedVariables false
set_option linter.unusedSimpArgs false
namespace Go.Proofs.Ythgnkhchpjcboaa
open Go Go.Ab
set_option maxRecDepth 20000 in
set_option maxHeartbeats 4000000 in
theorem ordering_compare_con {D : Prop} (a1 : Row) (b2 : Row) (l3 : List Int) (r4 : Int) (h : ordering_compare a1 b2 l3 = some r4) : Con D Try.prog 83 [(encRow a1), (encRow b2), (.slc (List.map (PV.int .i64) l3))] (.int .i64 r4) := by
 refine zP Try.call83 Try.func83 rfl Try.ntmps83 fun X w => ?_
 simp only [ordering_compare] at h
 refine zs (zr ?_)
 refine zU (zl (zn (zs (zs (zr ?_)))))
 refine zU (zl (zn (zb ?_)))
 obtain ⟨o5, h6, h⟩ := zB h
 refine zO (fun (s : Int) => ⟨[(3, .loc 3 1 0 0), (4, .loc 4 1 0 0), (10, .p (.slc (List.map (PV.int .i64) l3))), (11, .p (.int .i64 (l3.length : Int))), (12, .p (.int .i64 s))], [(3, .arr 43 2 1 [.p (encRow a1)]), (4, .arr 43 2 1 [.p (encRow b2)])]⟩) (fun (o : (Unit) ⊕ (Int)) => match o with | .inl o7 => tE (cX Try.f83 X w D) (.exit 0) ⟨[], []⟩ | .inr o8 => tR Try.prog Try.f83 (.int .i64 o8)) h6 ?_ ?_
 clear h h6
 intro t9 x h
 simp only [ordering_compare_l1] at h
 refine zs (zr ?_)
 refine zU (zl (zn (zs ?_)))
 rcases zI h with ⟨h10, h⟩ | ⟨h10, h⟩
 refine zi (zk (zn (zs (zb (zs (zr ?_))))))
 obtain ⟨x11, h12, h12a, h12b, h⟩ := zX h
 refine zU (zl (zn (zs (zd ?_))))
 obtain ⟨x13, h14, h14a, h14b, h⟩ := zX h
 obtain ⟨x15, h16, h16a, h16b, h⟩ := zX h
 refine yU ?_
 obtain ⟨r17, h18, h⟩ := zB h
 refine yc (value_Compare_con x13 x15 _ h18) ?_
 refine yU ?_
 refine yd (zn (zs (zr ?_)))
 refine zU (zl (zn ?_))
 rcases zI h with ⟨h19, h⟩ | ⟨h19, h⟩
 refine zi (zs (zr ?_))
 refine zU (zl (zn (zq (yr (zt ?_)))))
 cases h
 exact ⟨rfl, zT Try.results83⟩
 refine zj (zk (yn (zn (zr ?_))))
 refine zU (zl ?_)
 cases h
 exact ⟨rfl, zE⟩
 refine zj (zx (ze ?_))
 cases h
 exact ⟨rfl, zE⟩
 rcases o5 with ⟨⟩ | r20
 try simp only at h
 refine zA (yh (zn (zs (zr ?_))))
 refine zU (zl (zn (zq ?_)))
 cases h
 exact zT Try.results83
 try simp only at h
 refine zZ fun s hq => ?_
 refine yr (zt ?_)
 cases h
 exact hq
end Go.Proofs.Ythgnkhchpjcboaa
set_option linter.unusedVariables false
set_option linter.unusedSimpArgs false
namespace Go.Proofs.Ythgnkhchpjcboaa
open Go Go.Ab
set_option maxRecDepth 20000 in
set_option maxHeartbeats 4000000 in
theorem ordering_kind_con {D : Prop} (a1 : Row) (b2 : Row) (d3 : OD) (r4 : Int) (h : ordering_kind a1 b2 d3 = some r4) : Con D Try.prog 65 [(encRow a1), (encRow b2), (encOD d3)] (.int .i64 r4) := by
 refine zP Try.call65 Try.func65 rfl Try.ntmps65 fun X w => ?_
 simp only [ordering_kind] at h
 refine zs (zr ?_)
 refine zU (zl (zn (zs (zd ?_))))
 refine yU ?_
 obtain ⟨r5, h6, h⟩ := zB h
 refine yc (ordering_compare_con a1 b2 d3.Lhs _ h6) ?_
 refine yU ?_
 obtain ⟨r7, h8, h⟩ := zB h
 refine yc (ordering_compare_con a1 b2 d3.Rhs _ h8) ?_
 refine yU ?_
 refine yd (zn (zs (zb ?_)))
 obtain ⟨t9, h10, h⟩ := zB h
 refine zJ (fun (o11 : Bool) => tE (cX Try.f65 X w D) .normal ⟨[(7, .p (.int .i64 r5)), (8, .p (.int .i64 r7)), (19, .p (.bool o11))], []⟩) t9 ?_ ?_
 replace h := h10
 clear h10
 refine zr ?_
 refine zU ?_
 rcases zI h with ⟨h12, h⟩ | ⟨h12, h⟩
 replace h := h.symm
 refine zw 22 true ?_
 refine zg ?_
 refine zg ?_
 refine zU (zl ?_)
 cases h
 exact ⟨rfl, zE⟩
 refine zw 22 false ?_
 refine zh ?_
 refine zU (zl ?_)
 cases h
 exact ⟨rfl, zE⟩
 try simp only at h
 refine zA (zn ?_)
 rcases zI h with ⟨h13, h⟩ | ⟨h13, h⟩
 refine zi (zs (zr ?_))
 refine zU (zl (zn (zq (yr (zt ?_)))))
 cases h
 exact zT Try.results65
 refine zj (zs (zr ?_))
 refine zU (zl (zn ?_))
 rcases zI h with ⟨h14, h⟩ | ⟨h14, h⟩
 refine zi (zs (zr ?_))
 refine zU (zl (zn (zq (yr (zt ?_)))))
 cases h
 exact zT Try.results65
 refine zj (zk (yn (zn (zs (zr ?_)))))
 refine zU (zl (zn (zq ?_)))
 cases h
 exact zT Try.results65
end Go.Proofs.Ythgnkhchpjcboaa
set_option linter.unusedVariables false
set_option linter.unusedSimpArgs false
namespace Go.Proofs.Ythgnkhchpjcboaa
open Go Go.Ab
set_option maxHeartbeats 4000000 in
theorem ordering_Violation_con {D : Prop} (t1 : Table) (d2 : OD) (r3 : Int × Int × Int × Bool) (h : ordering_Violation t1 d2 = some r3) : Con D Try.prog 49 [(encTable t1), (encOD d2)] (.tup [(.int .i64 r3.1), (.int .i64 r3.2.1), (.int .i64 r3.2.2.1), (.bool r3.2.2.2)]) := by
 refine zP Try.call49 Try.func49 rfl Try.ntmps49 fun X w => ?_
 simp only [ordering_Violation] at h
 refine zs (zr ?_)
 refine zU (zl (zn (zs (zs (zr ?_)))))
 refine zU ?_
 obtain ⟨r4, h5, h⟩ := zB h
 refine zc (ordering_check_con t1 (fun (y6 : Int) => ordering_Violation_1 y6 d2) 64 [.imm [.slc (List.map (PV.int .i64) d2.Lhs), .slc (List.map (PV.int .i64) d2.Rhs)]] (fun y6 r h => ordering_Violation_1_con y6 d2 r h) _ h5) ?_
 refine zU (zl (zn ?_))
 rcases zI h with ⟨h7, h⟩ | ⟨h7, h⟩
 refine zi (zs (zr ?_))
 refine zU (zl (zn (zq (zt ?_))))
 cases h
 exact zT Try.results49
 refine zj (zk (zn (zs (zs (zr ?_)))))
 refine zU (zl (zn (zb ?_)))
 obtain ⟨o8, h9, h⟩ := zB h
 refine zO (fun (s : Int) => ⟨[(2, .loc 2 1 0 0), (3, .loc 3 1 0 0), (18, .p (.slc (List.map encRow t1.Rows))), (19, .p (.int .i64 (t1.Rows.length : Int))), (20, .p (.int .i64 s))], [(2, .arr 25 3 1 [.p (encTable t1)]), (3, .arr 62 2 1 [.p (encOD d2)])]⟩) (fun (o : (Unit) ⊕ (Int × Int × Int × Bool)) => match o with | .inl o10 => tE (cX Try.f49 X w D) (.exit 0) ⟨[], []⟩ | .inr o11 => tR Try.prog Try.f49 (.tup [(.int .i64 o11.1), (.int .i64 o11.2.1), (.int .i64 o11.2.2.1), (.bool o11.2.2.2)])) h9 ?_ ?_
 clear h h5 h7 h9
 intro t12 x h
 simp only [ordering_Violation_l4] at h
 refine zs (zr ?_)
 refine zU (zl (zn (zs ?_)))
 rcases zI h with ⟨h13, h⟩ | ⟨h13, h⟩
 refine zi (zk (zn (zs (zb (zs (zr ?_))))))
 obtain ⟨x14, h15, h15a, h15b, h⟩ := zX h
 refine zU (zl (zn (zs (zr ?_))))
 obtain ⟨h16, h⟩ := ite_some h
 obtain ⟨h17, h⟩ := ite_some h
 refine zU (zl (zn (zb ?_)))
 obtain ⟨o18, h19, h⟩ := zB h
 refine zO (fun (s : Int) => ⟨[(2, .loc 2 1 0 0), (3, .loc 3 1 0 0), (9, .loc 9 1 0 0), (18, .p (.slc (List.map encRow t1.Rows))), (19, .p (.int .i64 (t1.Rows.length : Int))), (20, .p (.int .i64 t12)), (29, .p (.slc (List.map encRow ((t1.Rows.drop (IntKind.i64.wrap (t12 + 1)).toNat).take (t1.Rows.length - (IntKind.i64.wrap (t12 + 1)).toNat))))), (30, .p (.int .i64 (((t1.Rows.drop (IntKind.i64.wrap (t12 + 1)).toNat).take (t1.Rows.length - (IntKind.i64.wrap (t12 + 1)).toNat)).length : Int))), (31, .p (.int .i64 s))], [(2, .arr 25 3 1 [.p (encTable t1)]), (3, .arr 62 2 1 [.p (encOD d2)]), (9, .arr 43 2 1 [.p (encRow x14)])]⟩) (fun (o : (Unit) ⊕ (Int × Int × Int × Bool)) => match o with | .inl o20 => tE (cX Try.f49 X w D) (.exit 2) ⟨[(2, .loc 2 1 0 0), (3, .loc 3 1 0 0), (18, .p (.slc (List.map encRow t1.Rows))), (19, .p (.int .i64 (t1.Rows.length : Int))), (20, .p (.int .i64 t12))], [(2, .arr 25 3 1 [.p (encTable t1)]), (3, .arr 62 2 1 [.p (encOD d2)])]⟩ | .inr o21 => tR Try.prog Try.f49 (.tup [(.int .i64 o21.1), (.int .i64 o21.2.1), (.int .i64 o21.2.2.1), (.bool o21.2.2.2)])) h19 ?_ ?_
 clear h h13 h15 h15a h15b h16 h17 h19
 intro t22 x h
 simp only [ordering_Violation_l3] at h
 refine zs (zr ?_)
 refine zU (zl (zn (zs ?_)))
 rcases zI h with ⟨h23, h⟩ | ⟨h23, h⟩
 refine zi (zk (zn (zs (zb (zs (zr ?_))))))
 obtain ⟨x24, h25, h25a, h25b, h⟩ := zX h
 refine zU (zl (zn (zs (zr ?_))))
 refine zU ?_
 obtain ⟨r26, h27, h⟩ := zB h
 refine zc (ordering_kind_con x14 x24 d2 _ h27) ?_
 refine zU (zl (zn (zs (zr ?_))))
 refine zU (zl (zn ?_))
 rcases zI h with ⟨h28, h⟩ | ⟨h28, h⟩
 refine zi (zs (zd ?_))
 refine yU ?_
 refine yd (zn (zq (yr (zt ?_))))
 cases h
 exact ⟨rfl, zT Try.results49⟩
 refine zj (zk (yn (zn (zr ?_))))
 refine zU (zl ?_)
 cases h
 exact ⟨rfl, zE⟩
 refine zj (zx (ze ?_))
 cases h
 exact ⟨rfl, zE⟩
 rcases o18 with ⟨⟩ | r29
 try simp only at h
 refine zA (yh (yn (zn (zr ?_))))
 refine zU (zl ?_)
 cases h
 exact ⟨rfl, zE⟩
 try simp only at h
 refine zZ fun s hq => ?_
 refine yr (yr (zt ?_))
 cases h
 refine ⟨rfl, ?_⟩
 exact hq
 refine zj (zx (ze ?_))
 cases h
 exact ⟨rfl, zE⟩
 rcases o8 with ⟨⟩ | r30
 try simp only at h
 refine zA (yh (zn (zs (zr ?_))))
 refine zU (zl (zn (zq ?_)))
 cases h
 exact zT Try.results49
 try simp only at h
 refine zZ fun s hq => ?_
 refine yr (zt ?_)
 cases h
 exact hq
end Go.Proofs.Ythgnkhchpjcboaa
set_option linter.unusedVariables false
set_option linter.unusedSimpArgs false
namespace Go.Proofs.Ythgnkhchpjcboaa
open Go Go.Ab
set_option maxHeartbeats 4000000 in
theorem ordering_Holds_con {D : Prop} (t1 : Table) (d2 : OD) (r3 : Bool × Int) (h : ordering_Holds t1 d2 = some r3) : Con D Try.prog 26 [(encTable t1), (encOD d2)] (.tup [(.bool r3.1), (.int .i64 r3.2)]) := by
 refine zP Try.call26 Try.func26 rfl Try.ntmps26 fun X w => ?_
 simp only [ordering_Holds] at h
 refine zs (zr ?_)
 refine zU (zl (zn (zs (zs (zr ?_)))))
 refine zU ?_
 obtain ⟨r4, h5, h⟩ := zB h
 refine zc (ordering_check_con t1 (fun (y6 : Int) => ordering_Holds_1 y6 d2) 47 [.imm [.slc (List.map (PV.int .i64) d2.Lhs), .slc (List.map (PV.int .i64) d2.Rhs)]] (fun y6 r h => ordering_Holds_1_con y6 d2 r h) _ h5) ?_
 refine zU (zl (zn (zs (zr ?_))))
 refine zU (zl (zn ?_))
 rcases zI h with ⟨h7, h⟩ | ⟨h7, h⟩
 refine zi (zs (zr ?_))
 refine zU (zl (zn (zq (zt ?_))))
 cases h
 exact zT Try.results26
 refine zj (zk (zn (zs (zr ?_))))
 refine zU ?_
 obtain ⟨r8, h9, h⟩ := zB h
 refine zc (ordering_Violation_con t1 d2 _ h9) ?_
 refine zU (zl (zn (zs (zr ?_))))
 refine zU (zl (zn (zq ?_)))
 cases h
 exact zT Try.results26
end Go.Proofs.Ythgnkhchpjcboaa
set_option linter.unusedVariables false
set_option linter.unusedSimpArgs false
namespace Go.Proofs.Ythgnkhchpjcboaa
open Go Go.Ab
set_option maxHeartbeats 4000000 in
theorem odmine_Keys_con {D : Prop} (t1 : Table) (r2 : List Int × Int) (h : odmine_Keys t1 = some r2) : Con D Try.prog 9 [(encTable t1)] (.tup [(.slc (List.map (PV.int .i64) r2.1)), (.int .i64 r2.2)]) := by
 refine zP Try.call9 Try.func9 rfl Try.ntmps9 fun X w => ?_
 simp only [odmine_Keys] at h
 refine zs (zr ?_)
 refine zU (zl (zn (zs (zs (zr ?_)))))
 refine zU ?_
 obtain ⟨r3, h4, h⟩ := zB h
 refine zc (odmine_check_con t1 _ h4) ?_
 refine zU (zl (zn (zs (zr ?_))))
 refine zU (zl (zn ?_))
 rcases zI h with ⟨h5, h⟩ | ⟨h5, h⟩
 refine zi (zs (zr ?_))
 refine zU (zl (zn (zq (zt ?_))))
 cases h
 exact zT Try.results9
 refine zj (zk (zn (zs (zr ?_))))
 refine zU (zl (zn (zs (zs (zr ?_)))))
 refine zU (zl (zn (zb ?_)))
 obtain ⟨o6, h7, h⟩ := zB h
 refine zO (fun (s : List Int × Int) => ⟨[(1, .loc 1 1 0 0), (5, .own 47 1 0 s.1.length), (18, .p (.int .i64 (t1.Attrs.length : Int))), (19, .p (.int .i64 s.2))], [(1, .arr 25 3 1 [.p (encTable t1)]), (47, .arr 3 1 1 (List.map AV.p (List.map (PV.int .i64) s.1)))]⟩) (fun (o8 : List Int) => tE (cX Try.f9 X w D) (.exit 0) ⟨[(5, .own 47 1 0 o8.length)], [(47, .arr 3 1 1 (List.map AV.p (List.map (PV.int .i64) o8)))]⟩) h7 ?_ ?_
 clear h h4 h5 h7
 intro s x h
 obtain ⟨o9, t10⟩ := s
 simp only [odmine_Keys_l4] at h
 dsimp only
 refine zs (zr ?_)
 refine zU (zl (zn (zs ?_)))
 rcases zI h with ⟨h11, h⟩ | ⟨h11, h⟩
 refine zi (zk (zn (zs (zb (zs (zr ?_))))))
 refine zU (zl (zn (zs (zr ?_))))
 refine zU (zl (zn (zs (zs (zr ?_)))))
 refine zU (zl (zn (zb ?_)))
 obtain ⟨a12, h13, h⟩ := zB h
 refine zO (fun (s : Bool × Int) => ⟨[(1, .loc 1 1 0 0), (5, .own 47 1 0 o9.length), (6, .p (.int .i64 t10)), (7, .p (.bool s.1)), (18, .p (.int .i64 (t1.Attrs.length : Int))), (19, .p (.int .i64 t10)), (24, .p (.int .i64 (t1.Attrs.length : Int))), (25, .p (.int .i64 s.2))], [(1, .arr 25 3 1 [.p (encTable t1)]), (47, .arr 3 1 1 (List.map AV.p (List.map (PV.int .i64) o9)))]⟩) (fun (o14 : Bool) => tE (cX Try.f9 X w D) (.exit 2) ⟨[(1, .loc 1 1 0 0), (5, .own 47 1 0 o9.length), (6, .p (.int .i64 t10)), (7, .p (.bool o14)), (18, .p (.int .i64 (t1.Attrs.length : Int))), (19, .p (.int .i64 t10))], [(1, .arr 25 3 1 [.p (encTable t1)]), (47, .arr 3 1 1 (List.map AV.p (List.map (PV.int .i64) o9)))]⟩) h13 ?_ ?_
 clear h h11 h13
 intro s x h
 obtain ⟨a15, t16⟩ := s
 simp only [odmine_Keys_l3] at h
 dsimp only
 refine zs (zr ?_)
 refine zU (zl (zn (zs ?_)))
 rcases zI h with ⟨h17, h⟩ | ⟨h17, h⟩
 refine zi (zk (zn (zs (zb (zs (zr ?_))))))
 refine zU (zl (zn (zs (zr ?_))))
 refine zU ?_
 obtain ⟨r18, h19, h⟩ := zB h
 refine zc (ordering_Holds_con t1 (OD.mk [t10] [t16]) _ h19) ?_
 refine zU (zl (zn (zr ?_)))
 refine zU ?_
 rcases zI h with ⟨h20, h⟩ | ⟨h20, h⟩
 replace h := h.symm
 refine zw 39 true ?_
 refine zg ?_
 refine zU (zl (yn (zn (zr ?_))))
 refine zU (zl ?_)
 cases h
 exact ⟨rfl, zE⟩
 refine zw 39 false ?_
 refine zh ?_
 refine zU (zl (yn (zn (zr ?_))))
 refine zU (zl ?_)
 cases h
 exact ⟨rfl, zE⟩
 refine zj (zx (ze ?_))
 cases h
 exact ⟨rfl, zE⟩
 try simp only at h
 refine zA (yh (zn (zs (zr ?_))))
 refine zU (zl (zn ?_))
 rcases zI h with ⟨h21, h⟩ | ⟨h21, h⟩
 refine zi (zr ?_)
 obtain ⟨h22, h⟩ := ite_some h
 refine zU (zl (yn (zn (zr ?_))))
 refine zU (zl ?_)
 cases h
 exact ⟨rfl, zE⟩
 refine zj (zk (yn (zn (zr ?_))))
 refine zU (zl ?_)
 cases h
 exact ⟨rfl, zE⟩
 refine zj (zx (ze ?_))
 cases h
 exact ⟨rfl, zE⟩
 try simp only at h
 refine zA (yh (zn (zs (zr ?_))))
 refine zU (zl (zn (zq ?_)))
 cases h
 exact zT Try.results9
end Go.Proofs.Ythgnkhchpjcboaa
set_option linter.unusedVariables false
set_option linter.unusedSimpArgs false
namespace Go.Proofs.Ythgnkhchpjcboaa
open Go Go.Ab
set_option maxRecDepth 20000 in
set_option maxHeartbeats 4000000 in
theorem bits_OnesCount32_con {D : Prop} (x : Int) (r : Int) (h : bits_OnesCount32 x = some r) : Con D Try.prog 71 [(.int .u32 x)] (.int .i64 r) := by
 obtain ⟨hx, h⟩ := ite_some h
 obtain ⟨n, rfl⟩ := Int.eq_ofNat_of_zero_le hx.1
 have hn : n < 4294967296 := by omega
 replace h := Option.some.inj h
 subst h
 rw [Int.toNat_natCast]
 unfold ones32
 have e1 : Int.fdiv (n : Int) (2 ^ (min 24 32)) = ((n / 16777216 : Nat) : Int) := fdiv24 n 24 (by omega)
 have e2 : Int.fdiv (n : Int) (2 ^ (min 16 32)) = ((n / 65536 : Nat) : Int) := fdiv24 n 16 (by omega)
 have e3 : Int.fdiv (n : Int) (2 ^ (min 8 32)) = ((n / 256 : Nat) : Int) := fdiv24 n 8 (by omega)
 have a2 := and255 (n := n / 65536) (by omega)
 have a3 := and255 (n := n / 256) (by omega)
 have a4 := and255 hn
 refine zP Try.call71 Try.func71 rfl Try.ntmps71 fun X w => ?_
 refine zs (zr ?_)
 refine zU (zl (zn (zs ?_)))
 refine zd ?_
 have q1 := pop8_le (n / 16777216)
 have q2 := pop8_le (n / 65536 % 256)
 have q3 := pop8_le (n / 256 % 256)
 have q4 := pop8_le (n % 256)
 generalize g1 : pop8 (n / 16777216) = p1 at *
 generalize g2 : pop8 (n / 65536 % 256) = p2 at *
 generalize g3 : pop8 (n / 256 % 256) = p3 at *
 generalize g4 : pop8 (n % 256) = p4 at *
 have w1 : IntKind.u8.wrap ((p1 : Int) + (p2 : Int)) = ((p1 + p2 : Nat) : Int) := by rw [← Int.natCast_add]; exact wrap_u8s (by omega)
 have w2 : IntKind.u8.wrap (((p1 + p2 : Nat) : Int) + (p3 : Int)) = ((p1 + p2 + p3 : Nat) : Int) := by rw [← Int.natCast_add]; exact wrap_u8s (by omega)
 have w3 : IntKind.u8.wrap (((p1 + p2 + p3 : Nat) : Int) + (p4 : Int)) = ((p1 + p2 + p3 + p4 : Nat) : Int) := by rw [← Int.natCast_add]; exact wrap_u8s (by omega)
 have w4 : IntKind.i64.wrap ((p1 + p2 + p3 + p4 : Nat) : Int) = ((p1 + p2 + p3 + p4 : Nat) : Int) := wrap_i64 (by omega) (by omega)
 refine yV 2 ?_
 refine DGo.gt (guard_none rfl) rfl (index_ones (s := _) (m := n / 16777216) rfl (by simp only [go_sem, seval, e1]; exact rfl) (by kernel_rfl) (by omega) (by decide)) rfl ?_
 rw [g1]
 refine yV 3 ?_
 refine DGo.gt (guard_none rfl) rfl (index_ones (s := _) (m := n / 65536 % 256) rfl (by simp only [go_sem, seval, e2]; exact ⟨rfl, a2⟩) (by kernel_rfl) (by omega) (by decide)) rfl ?_
 rw [g2]
 refine yV 4 ?_
 refine DGo.gt (guard_none rfl) rfl (index_ones (s := _) (m := n / 256 % 256) rfl (by simp only [go_sem, seval, e3]; exact ⟨rfl, a3⟩) (by kernel_rfl) (by omega) (by decide)) rfl ?_
 rw [g3]
 refine yV 3 ?_
 refine DGo.gt (guard_none rfl) rfl (index_ones (s := _) (m := n % 256) rfl (by simp only [go_sem, seval]; exact ⟨rfl, a4⟩) (by kernel_rfl) (by omega) (by decide)) rfl ?_
 rw [g4]
 refine yV 3 ?_
 refine yd (zn (zq ?_))
 exact zT Try.results71
end Go.Proofs.Ythgnkhchpjcboaa
set_option linter.unusedVariables false
set_option linter.unusedSimpArgs false
namespace Go.Proofs.Ythgnkhchpjcboaa
open Go Go.Ab
set_option maxHeartbeats 4000000 in
theorem attrset_Size_con {D : Prop} (s1 : Int) (r2 : Int) (h : attrset_Size s1 = some r2) : Con D Try.prog 56 [(.int .u32 s1)] (.int .i64 r2) := by
 refine zP Try.call56 Try.func56 rfl Try.ntmps56 fun X w => ?_
 simp only [attrset_Size] at h
 refine zs (zr ?_)
 refine zU (zl (zn (zs (zr ?_))))
 refine zU ?_
 obtain ⟨r3, h4, h⟩ := zB h
 refine zc (bits_OnesCount32_con s1 _ h4) ?_
 refine zU (zl (zn (zq ?_)))
 cases h
 exact zT Try.results56
end Go.Proofs.Ythgnkhchpjcboaa
namespace Go.Proofs
open Go Go.Ab Go.Shelf
def Ythgnkhchpjcboaa.sort73_ren : Go.Shelf.Ren := ⟨fun | 6 => 73 | 15 => 89 | 14 => 88 | 28 => 105 | 29 => 106 | 20 => 97 | 21 => 98 | 22 => 99 | 23 => 100 | 24 => 101 | 25 => 102 | 26 => 103 | 27 => 104 | 46 => 111 | 47 => 112 | 48 => 113 | 49 => 114 | 50 => 115 | 57 => 118 | n => n, fun | 22 => 76 | 24 => 37 | 25 => 105 | 3 => 3 | 39 => 114 | 0 => 0 | 53 => 36 | 55 => 130 | 4 => 4 | 46 => 123 | 45 => 122 | 50 => 127 | 5 => 5 | 9 => 9 | 66 => 131 | 70 => 135 | 76 => 138 | 77 => 139 | n => n, fun | n => n⟩
theorem Ythgnkhchpjcboaa.sort73 : Go.Proofs.SlLaysF.n6 Try.prog Ythgnkhchpjcboaa.sort73_ren := {
  mixed := by kernel_rfl
  f6 := ⟨Try.f73.name, by decide, Try.func73.trans (congrArg some (by kernel_rfl))⟩
  f14 := ⟨Try.f88.name, by decide, Try.func88.trans (congrArg some (by kernel_rfl))⟩
  f15 := Try.func89.trans (congrArg some (by kernel_rfl))
  f20 := ⟨Try.f97.name, by decide, Try.func97.trans (congrArg some (by kernel_rfl))⟩
  f21 := ⟨Try.f98.name, by decide, Try.func98.trans (congrArg some (by kernel_rfl))⟩
  f22 := ⟨Try.f99.name, by decide, Try.func99.trans (congrArg some (by kernel_rfl))⟩
  f23 := ⟨Try.f100.name, by decide, Try.func100.trans (congrArg some (by kernel_rfl))⟩
  f24 := ⟨Try.f101.name, by decide, Try.func101.trans (congrArg some (by kernel_rfl))⟩
  f25 := ⟨Try.f102.name, by decide, Try.func102.trans (congrArg some (by kernel_rfl))⟩
  f26 := ⟨Try.f103.name, by decide, Try.func103.trans (congrArg some (by kernel_rfl))⟩
  f27 := ⟨Try.f104.name, by decide, Try.func104.trans (congrArg some (by kernel_rfl))⟩
  f28 := Try.func105.trans (congrArg some (by kernel_rfl))
  f29 := Try.func106.trans (congrArg some (by kernel_rfl))
  f46 := ⟨Try.f111.name, by decide, Try.func111.trans (congrArg some (by kernel_rfl))⟩
  f47 := Try.func112.trans (congrArg some (by kernel_rfl))
  f48 := Try.func113.trans (congrArg some (by kernel_rfl))
  f49 := ⟨Try.f114.name, by decide, Try.func114.trans (congrArg some (by kernel_rfl))⟩
  f50 := ⟨Try.f115.name, by decide, Try.func115.trans (congrArg some (by kernel_rfl))⟩
  f57 := ⟨Try.f118.name, by decide, Try.func118.trans (congrArg some (by kernel_rfl))⟩
  t0 := Try.underlying0
  a0 := Try.isAgg0
  z0 := Try.sizeOf0
  v0 := Try.zeroValue0
  t3 := Try.underlying3
  a3 := Try.isAgg3
  z3 := Try.sizeOf3
  v3 := Try.zeroValue3
  t4 := Try.underlying4
  a4 := Try.isAgg4
  z4 := Try.sizeOf4
  v4 := Try.zeroValue4
  t5 := Try.underlying5
  a5 := Try.isAgg5
  z5 := Try.sizeOf5
  v5 := Try.zeroValue5
  t9 := Try.underlying9
  a9 := Try.isAgg9
  z9 := Try.sizeOf9
  v9 := Try.zeroValue9
  t22 := Try.underlying76
  a22 := Try.isAgg76
  z22 := Try.sizeOf76
  v22 := Try.zeroValue76
  a24 := Try.isAgg37
  z24 := Try.sizeOf37
  t25 := Try.underlying105
  a25 := Try.isAgg105
  z25 := Try.sizeOf105
  v25 := Try.zeroValue105
  t39 := Try.underlying114
  a39 := Try.isAgg114
  z39 := Try.sizeOf114
  v39 := Try.zeroValue114
  t45 := Try.underlying122
  a45 := Try.isAgg122
  z45 := Try.sizeOf122
  v45 := Try.zeroValue122
  t46 := Try.underlying123
  a46 := Try.isAgg123
  z46 := Try.sizeOf123
  v46 := Try.zeroValue123
  t50 := Try.underlying127
  a50 := Try.isAgg127
  z50 := Try.sizeOf127
  v50 := Try.zeroValue127
  t53 := Try.underlying36
  a53 := Try.isAgg36
  z53 := Try.sizeOf36
  v53 := Try.zeroValue36
  t55 := Try.underlying130
  a55 := Try.isAgg130
  z55 := Try.sizeOf130
  v55 := Try.zeroValue130
  t66 := Try.underlying131
  a66 := Try.isAgg131
  z66 := Try.sizeOf131
  v66 := Try.zeroValue131
  t70 := Try.underlying135
  a70 := Try.isAgg135
  z70 := Try.sizeOf135
  v70 := Try.zeroValue135
  t76 := Try.underlying138
  a76 := Try.isAgg138
  z76 := Try.sizeOf138
  v76 := Try.zeroValue138
  t77 := Try.underlying139
  a77 := Try.isAgg139
  z77 := Try.sizeOf139
  v77 := Try.zeroValue139 }
theorem Ythgnkhchpjcboaa.srt73 : Srt1 Try.prog 73 := ⟨Try.call73, fun enc h1 cf hO g cb blk off cap d w eg hc hH hb hs => Any.slices_SortFunc_eq Ythgnkhchpjcboaa.sort73 enc h1 cf hO g cb blk off cap d w eg hc hH hb hs, fun p cap fv w => AnyF.slices_SortFunc_none { Ythgnkhchpjcboaa.sort73 with } p cap fv w⟩
end Go.Proofs
set_option linter.unusedVariables false
set_option linter.unusedSimpArgs false
namespace Go.Proofs.Ythgnkhchpjcboaa
open Go Go.Ab
set_option maxHeartbeats 4000000 in
theorem cmp_isNaN_Set_con {D : Prop} (x1 : Int) (r2 : Bool) (h : cmp_isNaN_Set x1 = some r2) : Con D Try.prog 108 [(.int .u32 x1)] (.bool r2) := by
 refine zP Try.call108 Try.func108 rfl Try.ntmps108 fun X w => ?_
 simp only [cmp_isNaN_Set] at h
 refine zs (zr ?_)
 refine zU (zl (zn (zs (zr ?_))))
 refine zU (zl (zn (zq ?_)))
 cases h
 exact zT Try.results108
end Go.Proofs.Ythgnkhchpjcboaa
set_option linter.unusedVariables false
set_option linter.unusedSimpArgs false
namespace Go.Proofs.Ythgnkhchpjcboaa
open Go Go.Ab
set_option maxHeartbeats 4000000 in
theorem cmp_Compare_Set_con {D : Prop} (x1 : Int) (y2 : Int) (r3 : Int) (h : cmp_Compare_Set x1 y2 = some r3) : Con D Try.prog 92 [(.int .u32 x1), (.int .u32 y2)] (.int .i64 r3) := by
 refine zP Try.call92 Try.func92 rfl Try.ntmps92 fun X w => ?_
 simp only [cmp_Compare_Set] at h
 refine zs (zr ?_)
 refine zU (zl (zn (zs (zr ?_))))
 refine zU ?_
 obtain ⟨r4, h5, h⟩ := zB h
 refine zc (cmp_isNaN_Set_con x1 _ h5) ?_
 refine zU (zl (zn (zs (zr ?_))))
 refine zU ?_
 obtain ⟨r6, h7, h⟩ := zB h
 refine zc (cmp_isNaN_Set_con y2 _ h7) ?_
 refine zU (zl (zn (zs (zs (zr ?_)))))
 refine zU (zl (zn ?_))
 rcases zI h with ⟨h8, h⟩ | ⟨h8, h⟩
 refine zi (zs (zs (zr ?_)))
 refine zU (zl (zn ?_))
 rcases zI h with ⟨h9, h⟩ | ⟨h9, h⟩
 refine zi (zs (zr ?_))
 refine zU (zl (zn (zq (zt (zt ?_)))))
 cases h
 exact zT Try.results92
 refine zj (zk (zn (zs (zr ?_))))
 refine zU (zl (zn (zq (zt ?_))))
 cases h
 exact zT Try.results92
 refine zj (zk (zn (zs (zs (zr ?_)))))
 refine zU (zl (zn ?_))
 rcases zI h with ⟨h10, h⟩ | ⟨h10, h⟩
 refine zi (zs (zr ?_))
 refine zU (zl (zn (zq (zt ?_))))
 cases h
 exact zT Try.results92
 refine zj (zk (zn (zs (zs (zr ?_)))))
 refine zU (zl (zn ?_))
 rcases zI h with ⟨h11, h⟩ | ⟨h11, h⟩
 refine zi (zs (zr ?_))
 refine zU (zl (zn (zq (zt ?_))))
 cases h
 exact zT Try.results92
 refine zj (zk (zn (zs (zs (zr ?_)))))
 refine zU (zl (zn ?_))
 rcases zI h with ⟨h12, h⟩ | ⟨h12, h⟩
 refine zi (zs (zr ?_))
 refine zU (zl (zn (zq (zt ?_))))
 cases h
 exact zT Try.results92
 refine zj (zk (zn (zs (zr ?_))))
 refine zU (zl (zn (zq ?_)))
 cases h
 exact zT Try.results92
end Go.Proofs.Ythgnkhchpjcboaa
set_option linter.unusedVariables false
set_option linter.unusedSimpArgs false
namespace Go.Proofs.Ythgnkhchpjcboaa
open Go Go.Ab
set_option maxHeartbeats 4000000 in
theorem attrset_compare_con {D : Prop} (a1 : Int) (b2 : Int) (r3 : Int) (h : attrset_compare a1 b2 = some r3) : Con D Try.prog 74 [(.int .u32 a1), (.int .u32 b2)] (.int .i64 r3) := by
 refine zP Try.call74 Try.func74 rfl Try.ntmps74 fun X w => ?_
 simp only [attrset_compare] at h
 refine zs (zr ?_)
 refine zU (zl (zn (zs (zr ?_))))
 refine zU ?_
 obtain ⟨r4, h5, h⟩ := zB h
 refine zc (attrset_Size_con a1 _ h5) ?_
 refine zU ?_
 obtain ⟨r6, h7, h⟩ := zB h
 refine zc (attrset_Size_con b2 _ h7) ?_
 obtain ⟨r8, h9, h⟩ := zB h
 refine zc (cmp_Compare_int_con r4 r6 _ h9) ?_
 refine zU ?_
 obtain ⟨r10, h11, h⟩ := zB h
 refine zc (cmp_Compare_Set_con a1 b2 _ h11) ?_
 refine zU ?_
 obtain ⟨r12, h13, h⟩ := zB h
 refine zc (cmp_Or_int_con [r8, r10] _ h13) ?_
 refine zU (zl (zn (zq ?_)))
 cases h
 exact zT Try.results74
end Go.Proofs.Ythgnkhchpjcboaa
set_option linter.unusedVariables false
set_option linter.unusedSimpArgs false
namespace Go.Proofs.Ythgnkhchpjcboaa
open Go Go.Ab
set_option maxHeartbeats 4000000 in
theorem attrset_Order_con {D : Prop} (l1 : List Int) (r2 : List Int) (h : attrset_Order l1 = some r2) : Con D Try.prog 57 [(.slc (List.map (PV.int .u32) l1))] (.slc (List.map (PV.int .u32) r2)) := by
 refine zP Try.call57 Try.func57 rfl Try.ntmps57 fun X w => ?_
 simp only [attrset_Order] at h
 refine zs (zr ?_)
 refine zU (zl (zn (zs (zr ?_))))
 refine zU ?_
 obtain ⟨h3, h⟩ := ite_some h
 refine zM ⟨[(4, .p (.slc (List.map (PV.int .u32) l1)))], []⟩ ?_
 refine AL_inline (avs := [.p (.slc (List.map (PV.int .u32) l1))]) 10 rfl (guard_none rfl) rfl Try.func72 rfl Try.call72 Try.ntmps72 (by simp) (by simp only [go_sem, seval, h3]; all_goals rfl) ?_
 intro i4 w5
 refine awp_post (T := fun e s' => (e = .normal ∨ e = .ret) ∧ Le ⟨Try.prog, 8, 10, X, [], i4, w5, D⟩ s' ⟨[(2, .own 15 1 0 l1.length)], [(15, .arr 37 1 1 (List.map AV.p (List.map (PV.int .u32) l1)))]⟩) ?_ ?_
 show AWp _ _ _ ⟨[(0, .p (.slc (List.map (PV.int .u32) l1)))], []⟩
 refine zs (zr ?_)
 refine zU (zl (zn (zs (zs (zr ?_)))))
 refine zW 1 ?_
 refine AL_nileq (by simp only [go_sem, seval, h3]; exact rfl) (by simp only [go_sem, seval, h3]) Try.underlying76 rfl ?_
 intro b hb
 refine zl (zn ?_)
 cases b
 refine zj (zk (zn (zs (zr ?_))))
 refine zU (zl (zn (zq ?_)))
 refine ⟨.inr rfl, ?_⟩
 exact zV
 refine zi ?_
 have h6 : l1 = [] := by
   rcases hz : l1 with _ | ⟨x, z⟩
   · rfl
   · rw [hz] at hb; exact absurd (hb (by simp)) (by simp)
 refine zs (zr ?_)
 refine zU (zl (zn (zq (zt ?_))))
 refine ⟨.inr rfl, ?_⟩
 exact zV
 intro e s' hT
 obtain ⟨he, hle⟩ := hT
 refine Wk.to hle ?_
 refine inlQ_any he (by simp only [Try.results72]; simp only [go_sem, seval, h3]; exact rfl) ?_
 clear hle he
 refine zU (zl (zn (zs (zr ?_))))
 refine zU ?_
 refine zM ⟨[(3, .own 15 1 0 l1.length), (6, .own 15 1 0 l1.length)], [(15, .arr 37 1 1 (List.map AV.p (List.map (PV.int .u32) l1)))]⟩ ?_
 obtain ⟨l7, h8, h⟩ := zB h
 refine zSF srt73 (PV.int .u32) (fun (y9 : Int) (y10 : Int) => attrset_compare y9 y10) h8 (fun y9 y10 r h => attrset_compare_con y9 y10 r h) ?_
 have h11 := srtF_len h8
 refine zM ⟨[(3, .own 15 1 0 l7.length), (7, .p (.tup []))], [(15, .arr 37 1 1 (List.map AV.p (List.map (PV.int .u32) l7)))]⟩ ?_
 clear h11
 refine zl (zn (zs (zr ?_)))
 refine zU ?_
 refine zM ⟨[(8, .own 15 1 0 l7.length)], [(15, .arr 37 1 1 (List.map AV.p (List.map (PV.int .u32) l7)))]⟩ ?_
 refine AL_inline (avs := [.own 15 1 0 l7.length]) 18 rfl (guard_none rfl) rfl Try.func75 rfl Try.call75 Try.ntmps75 (by simp) (by simp only [go_sem, seval, h3]; all_goals rfl) ?_
 intro i12 w13
 show AWp _ _ _ ⟨[(0, .own 15 1 0 l7.length)], [(15, .arr 37 1 1 (List.map AV.p (List.map (PV.int .u32) l7)))]⟩
 refine zs (zr ?_)
 refine zU (zl (zn (zs (zs (zr ?_)))))
 refine zU (zl (zn ?_))
 rcases zI h with ⟨h14, h⟩ | ⟨h14, h⟩
 have h14T := eq_true h14
 refine zi (zs (zr ?_))
 refine zU (zl (zn (zq (zt ?_))))
 refine inlQ_ret (by simp only [Try.results75]; simp only [go_sem, seval, h3, h14T]; exact rfl) ?_
 refine zU (zl (zn (zq ?_)))
 cases h
 exact zT Try.results57
 have h14T := eq_false h14
 refine zj (zk (zn (zs (zs (zr ?_)))))
 refine zU (zl (zn (zb ?_)))
 obtain ⟨o15, h16, h⟩ := zB h
 refine zO (fun (s : Int) => ⟨[(0, .own 15 1 0 l7.length), (3, .p (.int .i64 s))], [(15, .arr 37 1 1 (List.map AV.p (List.map (PV.int .u32) l7)))]⟩) (fun (o : (Unit) ⊕ (List Int)) => match o with | .inl o17 => tE ⟨Try.prog, 61, 18, X, [(15, .arr 37 1 1 (List.map AV.p (List.map (PV.int .u32) l7)))], i12, w13, D⟩ (.exit 0) ⟨[(0, .own 15 1 0 l7.length)], [(15, .arr 37 1 1 (List.map AV.p (List.map (PV.int .u32) l7)))]⟩ | .inr o18 => tE ⟨Try.prog, 61, 18, X, [(15, .arr 37 1 1 (List.map AV.p (List.map (PV.int .u32) l7)))], i12, w13, D⟩ .ret ⟨[(2, .p (.slc (List.map (PV.int .u32) o18)))], [(15, .dead 1)]⟩) h16 ?_ ?_
 clear h h3 h8 h14 h14T h16
 intro k19 x h
 simp only [attrset_Order_l4] at h
 refine zs (zs (zr ?_))
 refine zU (zl (zn ?_))
 rcases zI h with ⟨h20, h⟩ | ⟨h20, h⟩
 refine zi (zk (zn (zs (zb (zs (zd ?_))))))
 obtain ⟨x21, h22, h22a, h22b, h⟩ := zX h
 obtain ⟨x23, h24, h24a, h24b, h⟩ := zX h
 refine yU ?_
 refine yd (zn ?_)
 rcases zI h with ⟨h25, h⟩ | ⟨h25, h⟩
 refine zi (zs (zr ?_))
 obtain ⟨h26, h⟩ := ite_some h
 obtain ⟨h27, h⟩ := ite_some h
 refine zU (zl (zn (zs (zs (zr ?_)))))
 refine zU (zl (zn (zb ?_)))
 obtain ⟨o28, h29, h⟩ := zB h
 refine zO (fun (s : List Int × Int × Int) => ⟨[(0, .own 15 1 0 s.1.length), (3, .p (.int .i64 s.2.1)), (4, .own 15 1 k19.toNat (l7.length - k19.toNat)), (5, .p (.int .i64 s.2.2))], [(15, .arr 37 1 1 (List.map AV.p (List.map (PV.int .u32) s.1)))]⟩) (fun (o30 : List Int × Int) => tE ⟨Try.prog, 61, 18, X, [(15, .arr 37 1 1 (List.map AV.p (List.map (PV.int .u32) l7)))], i12, w13, D⟩ (.exit 2) ⟨[(0, .own 15 1 0 o30.1.length), (3, .p (.int .i64 o30.2))], [(15, .arr 37 1 1 (List.map AV.p (List.map (PV.int .u32) o30.1)))]⟩) h29 ?_ ?_
 clear h h20 h22 h22a h22b h24 h24a h24b h25 h26 h27 h29
 intro s x h
 obtain ⟨s31, k32, k33⟩ := s
 simp only [attrset_Order_l3] at h
 dsimp only
 refine zs (zs (zr ?_))
 refine zU (zl (zn ?_))
 rcases zI h with ⟨h34, h⟩ | ⟨h34, h⟩
 refine zi (zk (zn (zs (zb (zs (zd ?_))))))
 obtain ⟨x35, h36, h36a, h36b, h⟩ := zX h
 obtain ⟨h37, h37n⟩ := part_get h36
 have h37N := eq_true (part_lt h37n h36a)
 obtain ⟨x38, h39, h39a, h39b, h⟩ := zX h
 obtain ⟨h40, h40n⟩ := part_get h39
 have h40N := eq_true (part_lt h40n h39a)
 refine yU ?_
 refine yd (zn ?_)
 rcases zI h with ⟨h41, h⟩ | ⟨h41, h⟩
 refine zi (zs (zr ?_))
 obtain ⟨h42, h42n⟩ := part_get h36
 have h42N := eq_true (part_lt h42n h36a)
 obtain ⟨x43, h44, h44a, h44b, h⟩ := zX h
 refine zU (zl (zn (zr ?_)))
 refine zU (zl (yn (zn (zr ?_))))
 refine zU (zl ?_)
 cases h
 exact ⟨rfl, zE⟩
 refine zj (zk (yn (zn (zr ?_))))
 refine zU (zl ?_)
 cases h
 exact ⟨rfl, zE⟩
 refine zj (zx (ze ?_))
 cases h
 exact ⟨rfl, zE⟩
 obtain ⟨s45, k46⟩ := o28
 try simp only at h
 refine zA (yh (zn (zs (zr ?_))))
 obtain ⟨h47, h⟩ := ite_some h
 obtain ⟨h48, h⟩ := ite_some h
 refine zW 3 ?_
 refine zCl (PV.int .u32) s45 0 15 k46.toNat (s45.length - k46.toNat) (by simp only [List.length_set, List.length_append, List.length_replicate] at *; omega) ?_
 refine zl (zn (zs (zr ?_)))
 obtain ⟨h49, h⟩ := ite_some h
 obtain ⟨h50, h⟩ := ite_some h
 refine zU (zl (zn (zq (yr (zt ?_)))))
 cases h
 exact ⟨rfl, zE⟩
 refine zj (zk (yn (zn (zr ?_))))
 refine zU (zl ?_)
 cases h
 exact ⟨rfl, zE⟩
 refine zj (zx (ze ?_))
 cases h
 exact ⟨rfl, zE⟩
 rcases o15 with ⟨⟩ | t51
 try simp only at h
 refine zA (yh (zn (zs (zr ?_))))
 refine zU (zl (zn (zq ?_)))
 refine inlQ_ret (by simp only [Try.results75]; simp only [go_sem, seval, h3, h14T]; exact rfl) ?_
 refine zU (zl (zn (zq ?_)))
 cases h
 exact zT Try.results57
 try simp only at h
 refine zA (yr (zt ?_))
 refine inlQ_ret (by simp only [Try.results75]; simp only [go_sem, seval, h3, h14T]; exact rfl) ?_
 refine zU (zl (zn (zq ?_)))
 cases h
 exact zT Try.results57
end Go.Proofs.Ythgnkhchpjcboaa
set_option linter.unusedVariables false
set_option linter.unusedSimpArgs false
namespace Go.Proofs.Ythgnkhchpjcboaa
open Go Go.Ab
set_option maxHeartbeats 4000000 in
theorem attrset_Subsets_con {D : Prop} (s1 : Int) (r2 : List Int) (h : attrset_Subsets s1 = some r2) : Con D Try.prog 41 [(.int .u32 s1)] (.slc (List.map (PV.int .u32) r2)) := by
 refine zP Try.call41 Try.func41 rfl Try.ntmps41 fun X w => ?_
 simp only [attrset_Subsets] at h
 refine zs (zr ?_)
 refine zU (zl (zn (zs (zs (zr ?_)))))
 refine zU ?_
 obtain ⟨r3, h4, h⟩ := zB h
 refine zc (attrset_Size_con s1 _ h4) ?_
 refine zU (zl (zn ?_))
 rcases zI h with ⟨h5, h⟩ | ⟨h5, h⟩
 refine zi (zs (zr ?_))
 refine zU (zl (zn (zq (zt ?_))))
 cases h
 exact zT Try.results41
 refine zj (zk (zn (zs (zr ?_))))
 refine zU (zl (zn (zs (zs (zr ?_)))))
 refine zU (zl (zn (zb ?_)))
 obtain ⟨o6, h7, h⟩ := zB h
 refine zO (fun (s : List Int × Int) => ⟨[(0, .p (.int .u32 s1)), (3, .own 9 1 0 s.1.length), (4, .p (.int .u32 s.2))], [(9, .arr 37 1 1 (List.map AV.p (List.map (PV.int .u32) s.1)))]⟩) (fun (o8 : List Int) => tE (cX Try.f41 X w D) (.exit 0) ⟨[(3, .own 9 1 0 o8.length)], [(9, .arr 37 1 1 (List.map AV.p (List.map (PV.int .u32) o8)))]⟩) h7 ?_ ?_
 clear h h4 h5 h7
 intro s x h
 obtain ⟨o9, x10⟩ := s
 simp only [attrset_Subsets_l1] at h
 dsimp only
 refine zs (zs (zr ?_))
 refine zU (zl (zn ?_))
 rcases zI h with ⟨h11, h⟩ | ⟨h11, h⟩
 refine zi (zk (zn (zb (zs (zr ?_)))))
 refine zU (zl (zn (zr ?_)))
 obtain ⟨h12, h⟩ := ite_some h
 refine zU (zl (yn ?_))
 cases h
 exact ⟨rfl, zE⟩
 refine zj (zx (ze ?_))
 cases h
 exact ⟨rfl, zE⟩
 try simp only at h
 refine zA (yh (zn (zs (zr ?_))))
 refine zU ?_
 refine zM ⟨[(21, .p (.slc (List.map (PV.int .u32) o6)))], []⟩ ?_
 obtain ⟨r13, h14, h⟩ := zB h
 refine zc (attrset_Order_con o6 _ h14) ?_
 refine zU (zl (zn (zq ?_)))
 cases h
 exact zT Try.results41
end Go.Proofs.Ythgnkhchpjcboaa
set_option linter.unusedVariables false
set_option linter.unusedSimpArgs false
namespace Go.Proofs.Ythgnkhchpjcboaa
open Go Go.Ab
set_option maxRecDepth 20000 in
set_option maxHeartbeats 4000000 in
theorem ordering_Satisfies_1_con {D : Prop} (n1 : Int) (c2 : Canonical) (r3 : Bool) (h : ordering_Satisfies_1 n1 c2 = some r3) : Con D Try.prog 93 [(.int .i64 n1), .imm [.int .u32 c2.Context, .int .i64 c2.A, .int .i64 c2.B]] (.bool r3) := by
 refine zP Try.call93 Try.func93 rfl Try.ntmps93 fun X w => ?_
 simp only [ordering_Satisfies_1] at h
 refine zs (zr ?_)
 refine zU (zl (zn (zs (zr ?_))))
 refine zU ?_
 rcases zI h with ⟨h4, h⟩ | ⟨h4, h⟩
 refine zw 7 true ?_
 refine zg ?_
 refine zg ?_
 refine zg ?_
 refine zg ?_
 refine zU ?_
 rcases zI h with ⟨h5, h⟩ | ⟨h5, h⟩
 refine zw 13 true ?_
 refine zg ?_
 refine zg ?_
 refine zg ?_
 refine zU ?_
 rcases zI h with ⟨h6, h⟩ | ⟨h6, h⟩
 refine zw 18 true ?_
 refine zg ?_
 refine zg ?_
 refine zg ?_
 refine zg ?_
 refine zU ?_
 rcases zI h with ⟨h7, h⟩ | ⟨h7, h⟩
 refine zw 24 true ?_
 refine zg ?_
 refine zg ?_
 refine zg ?_
 obtain ⟨h8, h⟩ := ite_none h
 replace h := h.symm
 refine zg ?_
 refine zg ?_
 refine zU (zl (zn (zq ?_)))
 cases h
 exact zT Try.results93
 refine zw 24 false ?_
 refine zh ?_
 refine zU (zl (zn (zq ?_)))
 cases h
 exact zT Try.results93
 refine zw 18 false ?_
 refine zh ?_
 refine zU ?_
 refine zh ?_
 refine zU (zl (zn (zq ?_)))
 cases h
 exact zT Try.results93
 refine zw 13 false ?_
 refine zh ?_
 refine zU ?_
 refine zh ?_
 refine zU ?_
 refine zh ?_
 refine zU (zl (zn (zq ?_)))
 cases h
 exact zT Try.results93
 refine zw 7 false ?_
 refine zh ?_
 refine zU ?_
 refine zh ?_
 refine zU ?_
 refine zh ?_
 refine zU ?_
 refine zh ?_
 refine zU (zl (zn (zq ?_)))
 cases h
 exact zT Try.results93
end Go.Proofs.Ythgnkhchpjcboaa
set_option linter.unusedVariables false
set_option linter.unusedSimpArgs false
namespace Go.Proofs.Ythgnkhchpjcboaa
open Go Go.Ab
set_option maxRecDepth 20000 in
set_option maxHeartbeats 4000000 in
theorem ordering_Satisfies_con {D : Prop} (t1 : Table) (c2 : Canonical) (r3 : Bool × Int) (h : ordering_Satisfies t1 c2 = some r3) : Con D Try.prog 76 [(encTable t1), (encCanonical c2)] (.tup [(.bool r3.1), (.int .i64 r3.2)]) := by
 refine zP Try.call76 Try.func76 rfl Try.ntmps76 fun X w => ?_
 simp only [ordering_Satisfies] at h
 refine zs (zr ?_)
 refine zU (zl (zn (zs (zr ?_))))
 refine zU (zl (zn (zs (zs (zr ?_)))))
 refine zU ?_
 obtain ⟨r4, h5, h⟩ := zB h
 refine zc (ordering_check_con t1 (fun (y6 : Int) => ordering_Satisfies_1 y6 c2) 93 [.imm [.int .u32 c2.Context, .int .i64 c2.A, .int .i64 c2.B]] (fun y6 r h => ordering_Satisfies_1_con y6 c2 r h) _ h5) ?_
 refine zU (zl (zn (zs (zr ?_))))
 refine zU (zl (zn ?_))
 rcases zI h with ⟨h7, h⟩ | ⟨h7, h⟩
 refine zi (zs (zr ?_))
 refine zU (zl (zn (zq (zt ?_))))
 cases h
 exact zT Try.results76
 refine zj (zk (zn (zs (zr ?_))))
 refine zU (zl (zn (zs (zs (zr ?_)))))
 refine zU (zl (zn (zb ?_)))
 obtain ⟨c8, h9, h⟩ := zB h
 refine zO (fun (s : List Int × Int) => ⟨[(2, .loc 2 1 0 0), (3, .loc 3 1 0 0), (8, .own 37 1 0 s.1.length), (24, .p (.int .i64 (t1.Attrs.length : Int))), (25, .p (.int .i64 s.2))], [(2, .arr 25 3 1 [.p (encTable t1)]), (3, .arr 52 3 1 [.p (encCanonical c2)]), (37, .arr 3 1 1 (List.map AV.p (List.map (PV.int .i64) s.1)))]⟩) (fun (o10 : List Int) => tE (cX Try.f76 X w D) (.exit 0) ⟨[(2, .loc 2 1 0 0), (3, .loc 3 1 0 0), (8, .own 37 1 0 o10.length)], [(2, .arr 25 3 1 [.p (encTable t1)]), (3, .arr 52 3 1 [.p (encCanonical c2)]), (37, .arr 3 1 1 (List.map AV.p (List.map (PV.int .i64) o10)))]⟩) h9 ?_ ?_
 clear h h5 h7 h9
 intro s x h
 obtain ⟨c11, t12⟩ := s
 simp only [ordering_Satisfies_l1] at h
 dsimp only
 refine zs (zr ?_)
 refine zU (zl (zn (zs ?_)))
 rcases zI h with ⟨h13, h⟩ | ⟨h13, h⟩
 refine zi (zk (zn (zs (zb (zs (zr ?_))))))
 refine zU (zl (zn (zs (zr ?_))))
 obtain ⟨h14, h⟩ := ite_none h
 refine zU (zl (zn ?_))
 rcases zI h with ⟨h15, h⟩ | ⟨h15, h⟩
 refine zi (zr ?_)
 obtain ⟨h16, h⟩ := ite_some h
 refine zU (zl (yn (zn (zr ?_))))
 refine zU (zl ?_)
 cases h
 exact ⟨rfl, zE⟩
 refine zj (zk (yn (zn (zr ?_))))
 refine zU (zl ?_)
 cases h
 exact ⟨rfl, zE⟩
 refine zj (zx (ze ?_))
 cases h
 exact ⟨rfl, zE⟩
 try simp only at h
 refine zA (yh (zn (zs (zs (zr ?_)))))
 refine zU (zl (zn (zb ?_)))
 obtain ⟨o17, h18, h⟩ := zB h
 refine zO (fun (s : Int) => ⟨[(2, .loc 2 1 0 0), (3, .loc 3 1 0 0), (8, .own 37 1 0 c8.length), (40, .p (.slc (List.map encRow t1.Rows))), (41, .p (.int .i64 (t1.Rows.length : Int))), (42, .p (.int .i64 s))], [(2, .arr 25 3 1 [.p (encTable t1)]), (3, .arr 52 3 1 [.p (encCanonical c2)]), (37, .arr 3 1 1 (List.map AV.p (List.map (PV.int .i64) c8)))]⟩) (fun (o : (Unit) ⊕ (Bool × Int)) => match o with | .inl o19 => tE (cX Try.f76 X w D) (.exit 2) ⟨[], []⟩ | .inr o20 => tR Try.prog Try.f76 (.tup [(.bool o20.1), (.int .i64 o20.2)])) h18 ?_ ?_
 clear h h5 h7 h9 h18
 intro t21 x h
 simp only [ordering_Satisfies_l5] at h
 refine zs (zr ?_)
 refine zU (zl (zn (zs ?_)))
 rcases zI h with ⟨h22, h⟩ | ⟨h22, h⟩
 refine zi (zk (zn (zs (zb (zs (zr ?_))))))
 obtain ⟨x23, h24, h24a, h24b, h⟩ := zX h
 refine zU (zl (zn (zs (zr ?_))))
 obtain ⟨h25, h⟩ := ite_some h
 obtain ⟨h26, h⟩ := ite_some h
 refine zU (zl (zn (zb ?_)))
 obtain ⟨o27, h28, h⟩ := zB h
 refine zO (fun (s : Int) => ⟨[(2, .loc 2 1 0 0), (3, .loc 3 1 0 0), (8, .own 37 1 0 c8.length), (11, .loc 11 1 0 0), (40, .p (.slc (List.map encRow t1.Rows))), (41, .p (.int .i64 (t1.Rows.length : Int))), (42, .p (.int .i64 t21)), (51, .p (.slc (List.map encRow ((t1.Rows.drop (IntKind.i64.wrap (t21 + 1)).toNat).take (t1.Rows.length - (IntKind.i64.wrap (t21 + 1)).toNat))))), (52, .p (.int .i64 (((t1.Rows.drop (IntKind.i64.wrap (t21 + 1)).toNat).take (t1.Rows.length - (IntKind.i64.wrap (t21 + 1)).toNat)).length : Int))), (53, .p (.int .i64 s))], [(2, .arr 25 3 1 [.p (encTable t1)]), (3, .arr 52 3 1 [.p (encCanonical c2)]), (11, .arr 43 2 1 [.p (encRow x23)]), (37, .arr 3 1 1 (List.map AV.p (List.map (PV.int .i64) c8)))]⟩) (fun (o : (Unit) ⊕ (Bool × Int)) => match o with | .inl o29 => tE (cX Try.f76 X w D) (.exit 4) ⟨[(2, .loc 2 1 0 0), (3, .loc 3 1 0 0), (8, .own 37 1 0 c8.length), (40, .p (.slc (List.map encRow t1.Rows))), (41, .p (.int .i64 (t1.Rows.length : Int))), (42, .p (.int .i64 t21))], [(2, .arr 25 3 1 [.p (encTable t1)]), (3, .arr 52 3 1 [.p (encCanonical c2)]), (37, .arr 3 1 1 (List.map AV.p (List.map (PV.int .i64) c8)))]⟩ | .inr o30 => tR Try.prog Try.f76 (.tup [(.bool o30.1), (.int .i64 o30.2)])) h28 ?_ ?_
 clear h h22 h24 h24a h24b h25 h26 h28
 intro t31 x h
 simp only [ordering_Satisfies_l4] at h
 refine zs (zr ?_)
 refine zU (zl (zn (zs ?_)))
 rcases zI h with ⟨h32, h⟩ | ⟨h32, h⟩
 refine zi (zk (zn (zs (zb (zs (zr ?_))))))
 obtain ⟨x33, h34, h34a, h34b, h⟩ := zX h
 refine zU (zl (zn (zs (zs (zr ?_)))))
 refine zU ?_
 obtain ⟨r35, h36, h⟩ := zB h
 refine zc (ordering_compare_con x23 x33 c8 _ h36) ?_
 refine zU (zl (zn ?_))
 rcases zI h with ⟨h37, h⟩ | ⟨h37, h⟩
 refine zi (zx (ze (yh (zn (zr ?_)))))
 refine zU (zl ?_)
 cases h
 exact ⟨rfl, zE⟩
 refine zj (zk (zn (zs (zd ?_))))
 obtain ⟨x38, h39, h39a, h39b, h⟩ := zX h
 obtain ⟨x40, h41, h41a, h41b, h⟩ := zX h
 refine yU ?_
 obtain ⟨r42, h43, h⟩ := zB h
 refine yc (value_Compare_con x38 x40 _ h43) ?_
 refine yU ?_
 refine yd (zn (zs (zd ?_)))
 refine yU ?_
 rcases zI h with ⟨h44, h⟩ | ⟨h44, h⟩
 refine yw 78 true ?_
 refine yg ?_
 refine yg ?_
 refine yU ?_
 rcases zI h with ⟨h45, h⟩ | ⟨h45, h⟩
 refine yw 82 true ?_
 refine yk ?_
 refine yU ?_
 refine yd (zn ?_)
 refine zi (zs (zr ?_))
 refine zU (zl (zn (zq (yr (zt ?_)))))
 cases h
 exact ⟨rfl, zT Try.results76⟩
 refine yw 82 false ?_
 refine yg ?_
 refine yg ?_
 refine yg ?_
 refine yg ?_
 rcases zI h with ⟨h46, h⟩ | ⟨h46, h⟩
 refine yw 86 true ?_
 refine yg ?_
 refine yg ?_
 refine yg ?_
 refine yg ?_
 refine yg ?_
 obtain ⟨x47, h48, h48a, h48b, h⟩ := zX h
 refine yg ?_
 refine yg ?_
 refine yg ?_
 refine yg ?_
 refine yg ?_
 refine yg ?_
 obtain ⟨x49, h50, h50a, h50b, h⟩ := zX h
 refine yg ?_
 refine yg ?_
 obtain ⟨r51, h52, h⟩ := zB h
 refine yc (value_Compare_con x47 x49 _ h52) ?_
 refine yg ?_
 refine yg ?_
 refine yg ?_
 refine yU ?_
 refine yd (zn ?_)
 rcases zI h with ⟨h53, h⟩ | ⟨h53, h⟩
 refine zi (zs (zr ?_))
 refine zU (zl (zn (zq (yr (zt ?_)))))
 cases h
 exact ⟨rfl, zT Try.results76⟩
 refine zj (zk (yn (zn (zr ?_))))
 refine zU (zl ?_)
 cases h
 exact ⟨rfl, zE⟩
 replace h := h.symm
 refine yw 86 false ?_
 refine yk ?_
 refine yg ?_
 refine yU ?_
 refine yd (zn ?_)
 refine zj (zk (yn (zn (zr ?_))))
 refine zU (zl ?_)
 cases h
 exact ⟨rfl, zE⟩
 refine yw 78 false ?_
 refine yk ?_
 refine yU ?_
 refine yg ?_
 refine yg ?_
 refine yg ?_
 refine yg ?_
 rcases zI h with ⟨h54, h⟩ | ⟨h54, h⟩
 refine yw 86 true ?_
 refine yg ?_
 refine yg ?_
 refine yg ?_
 refine yg ?_
 refine yg ?_
 obtain ⟨x55, h56, h56a, h56b, h⟩ := zX h
 refine yg ?_
 refine yg ?_
 refine yg ?_
 refine yg ?_
 refine yg ?_
 refine yg ?_
 obtain ⟨x57, h58, h58a, h58b, h⟩ := zX h
 refine yg ?_
 refine yg ?_
 obtain ⟨r59, h60, h⟩ := zB h
 refine yc (value_Compare_con x55 x57 _ h60) ?_
 refine yg ?_
 refine yg ?_
 refine yg ?_
 refine yU ?_
 refine yd (zn ?_)
 rcases zI h with ⟨h61, h⟩ | ⟨h61, h⟩
 refine zi (zs (zr ?_))
 refine zU (zl (zn (zq (yr (zt ?_)))))
 cases h
 exact ⟨rfl, zT Try.results76⟩
 refine zj (zk (yn (zn (zr ?_))))
 refine zU (zl ?_)
 cases h
 exact ⟨rfl, zE⟩
 replace h := h.symm
 refine yw 86 false ?_
 refine yk ?_
 refine yg ?_
 refine yU ?_
 refine yd (zn ?_)
 refine zj (zk (yn (zn (zr ?_))))
 refine zU (zl ?_)
 cases h
 exact ⟨rfl, zE⟩
 refine zj (zx (ze ?_))
 cases h
 exact ⟨rfl, zE⟩
 rcases o27 with ⟨⟩ | r62
 try simp only at h
 refine zA (yh (yn (zn (zr ?_))))
 refine zU (zl ?_)
 cases h
 exact ⟨rfl, zE⟩
 try simp only at h
 refine zZ fun s hq => ?_
 refine yr (yr (zt ?_))
 cases h
 refine ⟨rfl, ?_⟩
 exact hq
 refine zj (zx (ze ?_))
 cases h
 exact ⟨rfl, zE⟩
 rcases o17 with ⟨⟩ | r63
 try simp only at h
 refine zA (yh (zn (zs (zr ?_))))
 refine zU (zl (zn (zq ?_)))
 cases h
 exact zT Try.results76
 try simp only at h
 refine zZ fun s hq => ?_
 refine yr (zt ?_)
 cases h
 exact hq
end Go.Proofs.Ythgnkhchpjcboaa
set_option linter.unusedVariables false
set_option linter.unusedSimpArgs false
namespace Go.Proofs.Ythgnkhchpjcboaa
open Go Go.Ab
set_option maxHeartbeats 4000000 in
theorem odmine_All_con {D : Prop} (t1 : Table) (r2 : List Canonical × Int) (h : odmine_All t1 = some r2) : Con D Try.prog 22 [(encTable t1)] (.tup [(.slc (List.map encCanonical r2.1)), (.int .i64 r2.2)]) := by
 refine zP Try.call22 Try.func22 rfl Try.ntmps22 fun X w => ?_
 simp only [odmine_All] at h
 refine zs (zr ?_)
 refine zU (zl (zn (zs (zs (zr ?_)))))
 refine zU ?_
 obtain ⟨r3, h4, h⟩ := zB h
 refine zc (odmine_check_con t1 _ h4) ?_
 refine zU (zl (zn (zs (zr ?_))))
 refine zU (zl (zn ?_))
 rcases zI h with ⟨h5, h⟩ | ⟨h5, h⟩
 refine zi (zs (zr ?_))
 refine zU (zl (zn (zq (zt ?_))))
 cases h
 exact zT Try.results22
 refine zj (zk (zn (zs (zr ?_))))
 refine zU (zl (zn (zs (zr ?_))))
 refine zU (zl (zn (zs (zs (zr ?_)))))
 obtain ⟨h6, h⟩ := ite_none h
 refine zU ?_
 obtain ⟨r7, h8, h⟩ := zB h
 refine zc (attrset_Subsets_con (IntKind.u32.wrap ((IntKind.u32.wrap (1 * 2 ^ (min ((t1.Attrs.length : Int)).toNat 32))) - 1)) _ h8) ?_
 refine zU (zl (zn (zb ?_)))
 obtain ⟨o9, h10, h⟩ := zB h
 refine zO (fun (s : (List (Canonical × Bool)) × List Canonical × Int) => ⟨[(5, .loc 5 1 0 0), (6, .own 32 1 0 s.2.1.length), (22, .p (.slc (List.map (PV.int .u32) r7))), (23, .p (.int .i64 (r7.length : Int))), (24, .p (.int .i64 s.2.2))], [(5, .arr 75 4 1 [.agg [.p (.str t1.Name), .p (.slc (List.map PV.str t1.Attrs)), .p (.slc (List.map encRow t1.Rows)), .mapo 15 1]]), (15, .map 1 (List.map AV.p (encK encCanonical s.1)) (List.map AV.p (encW PV.bool s.1))), (32, .arr 52 3 1 (List.map AV.p (List.map encCanonical s.2.1)))]⟩) (fun (o11 : List Canonical) => tE (cX Try.f22 X w D) (.exit 0) ⟨[(6, .own 32 1 0 o11.length)], [(32, .arr 52 3 1 (List.map AV.p (List.map encCanonical o11)))]⟩) h10 ?_ ?_
 clear h h4 h5 h6 h8 h10
 intro s x h
 obtain ⟨m12, o13, t14⟩ := s
 simp only [odmine_All_l202] at h
 dsimp only
 refine zs (zr ?_)
 refine zU (zl (zn (zs ?_)))
 rcases zI h with ⟨h15, h⟩ | ⟨h15, h⟩
 have h15T := eq_true h15
 refine zi (zk (zn (zs (zb (zs (zr ?_))))))
 obtain ⟨x16, h17, h17a, h17b, h⟩ := zX h
 refine zU (zl (zn (zs (zr ?_))))
 refine zU ?_
 refine zM ⟨[(5, .loc 5 1 0 0), (8, .p (.int .u32 x16)), (22, .p (.slc (List.map (PV.int .u32) r7))), (23, .p (.int .i64 (r7.length : Int))), (24, .p (.int .i64 t14)), (28, .own 32 1 0 o13.length), (29, .agg [.p (.str t1.Name), .p (.slc (List.map PV.str t1.Attrs)), .p (.slc (List.map encRow t1.Rows)), .mapo 15 1]), (30, .p (.int .u32 x16))], [(5, .arr 75 4 1 [.agg [.p (.str t1.Name), .p (.slc (List.map PV.str t1.Attrs)), .p (.slc (List.map encRow t1.Rows)), .mapo 15 1]]), (15, .map 1 (List.map AV.p (encK encCanonical m12)) (List.map AV.p (encW PV.bool m12))), (32, .arr 52 3 1 (List.map AV.p (List.map encCanonical o13)))]⟩ ?_
 refine AL_inline (avs := [.agg [.p (.str t1.Name), .p (.slc (List.map PV.str t1.Attrs)), .p (.slc (List.map encRow t1.Rows)), .mapo 15 1], .p (.int .u32 x16)]) 40 rfl (guard_none rfl) rfl Try.func42 rfl Try.call42 Try.ntmps42 (by simp) (by simp only [go_sem, seval, h15T]; all_goals rfl) ?_
 intro i18 w19
 show AWp _ _ _ ⟨[(0, .agg [.p (.str t1.Name), .p (.slc (List.map PV.str t1.Attrs)), .p (.slc (List.map encRow t1.Rows)), .mapo 15 1]), (1, .p (.int .u32 x16))], [(5, .arr 75 4 1 [.agg [.p (.str t1.Name), .p (.slc (List.map PV.str t1.Attrs)), .p (.slc (List.map encRow t1.Rows)), .mapo 15 1]]), (15, .map 1 (List.map AV.p (encK encCanonical m12)) (List.map AV.p (encW PV.bool m12))), (32, .arr 52 3 1 (List.map AV.p (List.map encCanonical o13)))]⟩
 refine zs (zr ?_)
 refine zU (zl (zn (zs (zr ?_))))
 refine zU (zl (zn (zs (zs (zr ?_)))))
 refine zU (zl (zn (zb ?_)))
 obtain ⟨o20, h21, h⟩ := zB h
 refine zO (fun (s : (List (Canonical × Bool)) × List Canonical × Int) => ⟨[(1, .p (.int .u32 x16)), (2, .loc 42 1 0 0), (5, .own 71 1 0 s.2.1.length), (11, .p (.int .i64 (t1.Attrs.length : Int))), (12, .p (.int .i64 s.2.2))], [(5, .arr 75 4 1 [.agg [.p (.str t1.Name), .p (.slc (List.map PV.str t1.Attrs)), .p (.slc (List.map encRow t1.Rows)), .mapo 15 1]]), (15, .map 1 (List.map AV.p (encK encCanonical s.1)) (List.map AV.p (encW PV.bool s.1))), (32, .arr 52 3 1 (List.map AV.p (List.map encCanonical o13))), (42, .arr 75 4 1 [.agg [.p (.str t1.Name), .p (.slc (List.map PV.str t1.Attrs)), .p (.slc (List.map encRow t1.Rows)), .mapo 15 1]]), (71, .arr 52 3 1 (List.map AV.p (List.map encCanonical s.2.1)))]⟩) (fun (o22 : List Canonical × (List (Canonical × Bool))) => tE ⟨Try.prog, 34, 40, X, [(5, .arr 75 4 1 [.agg [.p (.str t1.Name), .p (.slc (List.map PV.str t1.Attrs)), .p (.slc (List.map encRow t1.Rows)), .mapo 15 1]]), (15, .map 1 (List.map AV.p (encK encCanonical m12)) (List.map AV.p (encW PV.bool m12))), (32, .arr 52 3 1 (List.map AV.p (List.map encCanonical o13)))], i18, w19, D⟩ (.exit 0) ⟨[(5, .own 71 1 0 o22.1.length)], [(5, .arr 75 4 1 [.agg [.p (.str t1.Name), .p (.slc (List.map PV.str t1.Attrs)), .p (.slc (List.map encRow t1.Rows)), .mapo 15 1]]), (15, .map 1 (List.map AV.p (encK encCanonical o22.2)) (List.map AV.p (encW PV.bool o22.2))), (32, .arr 52 3 1 (List.map AV.p (List.map encCanonical o13))), (71, .arr 52 3 1 (List.map AV.p (List.map encCanonical o22.1)))]⟩) h21 ?_ ?_
 clear h h15 h15T h17 h17a h17b h21
 intro s x h
 obtain ⟨m23, o24, t25⟩ := s
 simp only [odmine_All_l160] at h
 dsimp only
 refine zs (zr ?_)
 refine zU (zl (zn (zs ?_)))
 rcases zI h with ⟨h26, h⟩ | ⟨h26, h⟩
 have h26T := eq_true h26
 refine zi (zk (zn (zs (zb (zs (zr ?_))))))
 refine zU (zl (zn (zs (zr ?_))))
 refine zU (zl (zn ?_))
 obtain ⟨o27, h28, h⟩ := zB h
 refine zJ (fun (o29 : (List (Canonical × Bool)) × Bool) => tE ⟨Try.prog, 34, 40, X, [(5, .arr 75 4 1 [.agg [.p (.str t1.Name), .p (.slc (List.map PV.str t1.Attrs)), .p (.slc (List.map encRow t1.Rows)), .mapo 15 1]]), (15, .map 1 (List.map AV.p (encK encCanonical m12)) (List.map AV.p (encW PV.bool m12))), (32, .arr 52 3 1 (List.map AV.p (List.map encCanonical o13)))], i18, w19, D⟩ .normal ⟨[(1, .p (.int .u32 x16)), (2, .loc 42 1 0 0), (5, .own 71 1 0 o24.length), (7, .loc 47 1 0 0), (11, .p (.int .i64 (t1.Attrs.length : Int))), (12, .p (.int .i64 t25)), (27, .p (.bool o29.2))], [(5, .arr 75 4 1 [.agg [.p (.str t1.Name), .p (.slc (List.map PV.str t1.Attrs)), .p (.slc (List.map encRow t1.Rows)), .mapo 15 1]]), (15, .map 1 (List.map AV.p (encK encCanonical o29.1)) (List.map AV.p (encW PV.bool o29.1))), (32, .arr 52 3 1 (List.map AV.p (List.map encCanonical o13))), (42, .arr 75 4 1 [.agg [.p (.str t1.Name), .p (.slc (List.map PV.str t1.Attrs)), .p (.slc (List.map encRow t1.Rows)), .mapo 15 1]]), (47, .arr 52 3 1 [.p (.agg [.int .u32 x16, .int .i64 t25, .int .i64 (-1)])]), (71, .arr 52 3 1 (List.map AV.p (List.map encCanonical o24)))]⟩) o27 ?_ ?_
 replace h := h28
 clear h28
 refine zr ?_
 obtain ⟨h30, h⟩ := ite_none h
 refine zU ?_
 rcases zI h with ⟨h31, h⟩ | ⟨h31, h⟩
 refine zw 23 true ?_
 refine zg ?_
 refine zg ?_
 refine zM ⟨[(1, .p (.int .u32 x16)), (2, .loc 42 1 0 0), (5, .own 71 1 0 o24.length), (7, .loc 47 1 0 0), (11, .p (.int .i64 (t1.Attrs.length : Int))), (12, .p (.int .i64 t25)), (23, .p (.bool true)), (24, .agg [.p (.str t1.Name), .p (.slc (List.map PV.str t1.Attrs)), .p (.slc (List.map encRow t1.Rows)), .mapo 15 1]), (25, .p (.agg [.int .u32 x16, .int .i64 t25, .int .i64 (-1)]))], [(5, .arr 75 4 1 [.agg [.p (.str t1.Name), .p (.slc (List.map PV.str t1.Attrs)), .p (.slc (List.map encRow t1.Rows)), .mapo 15 1]]), (15, .map 1 (List.map AV.p (encK encCanonical m23)) (List.map AV.p (encW PV.bool m23))), (32, .arr 52 3 1 (List.map AV.p (List.map encCanonical o13))), (42, .arr 75 4 1 [.agg [.p (.str t1.Name), .p (.slc (List.map PV.str t1.Attrs)), .p (.slc (List.map encRow t1.Rows)), .mapo 15 1]]), (47, .arr 52 3 1 [.p (.agg [.int .u32 x16, .int .i64 t25, .int .i64 (-1)])]), (71, .arr 52 3 1 (List.map AV.p (List.map encCanonical o24)))]⟩ ?_
 refine AL_inline (avs := [.agg [.p (.str t1.Name), .p (.slc (List.map PV.str t1.Attrs)), .p (.slc (List.map encRow t1.Rows)), .mapo 15 1], .p (.agg [.int .u32 x16, .int .i64 t25, .int .i64 (-1)])]) 74 rfl (guard_true' rfl rfl (by exact rfl) (by exact rfl)) rfl Try.func58 rfl Try.call58 Try.ntmps58 (by simp) (by simp only [go_sem, seval, h26T, h31]; all_goals rfl) ?_
 intro i32 w33
 show AWp _ _ _ ⟨[(0, .agg [.p (.str t1.Name), .p (.slc (List.map PV.str t1.Attrs)), .p (.slc (List.map encRow t1.Rows)), .mapo 15 1]), (1, .p (.agg [.int .u32 x16, .int .i64 t25, .int .i64 (-1)]))], [(5, .arr 75 4 1 [.agg [.p (.str t1.Name), .p (.slc (List.map PV.str t1.Attrs)), .p (.slc (List.map encRow t1.Rows)), .mapo 15 1]]), (15, .map 1 (List.map AV.p (encK encCanonical m23)) (List.map AV.p (encW PV.bool m23))), (32, .arr 52 3 1 (List.map AV.p (List.map encCanonical o13))), (42, .arr 75 4 1 [.agg [.p (.str t1.Name), .p (.slc (List.map PV.str t1.Attrs)), .p (.slc (List.map encRow t1.Rows)), .mapo 15 1]]), (47, .arr 52 3 1 [.p (.agg [.int .u32 x16, .int .i64 t25, .int .i64 (-1)])]), (71, .arr 52 3 1 (List.map AV.p (List.map encCanonical o24)))]⟩
 refine zs (zr ?_)
 refine zU (zl (zn (zs (zs (zr ?_)))))
 refine zU ?_
 refine zM ⟨[(2, .loc 76 1 0 0), (3, .loc 77 1 0 0), (6, .agg [.p (.str t1.Name), .p (.slc (List.map PV.str t1.Attrs)), .p (.slc (List.map encRow t1.Rows)), .mapo 15 1]), (7, .p (.agg [.int .u32 x16, .int .i64 t25, .int .i64 (-1)]))], [(5, .arr 75 4 1 [.agg [.p (.str t1.Name), .p (.slc (List.map PV.str t1.Attrs)), .p (.slc (List.map encRow t1.Rows)), .mapo 15 1]]), (15, .map 1 (List.map AV.p (encK encCanonical m23)) (List.map AV.p (encW PV.bool m23))), (32, .arr 52 3 1 (List.map AV.p (List.map encCanonical o13))), (42, .arr 75 4 1 [.agg [.p (.str t1.Name), .p (.slc (List.map PV.str t1.Attrs)), .p (.slc (List.map encRow t1.Rows)), .mapo 15 1]]), (47, .arr 52 3 1 [.p (.agg [.int .u32 x16, .int .i64 t25, .int .i64 (-1)])]), (71, .arr 52 3 1 (List.map AV.p (List.map encCanonical o24))), (76, .arr 75 4 1 [.agg [.p (.str t1.Name), .p (.slc (List.map PV.str t1.Attrs)), .p (.slc (List.map encRow t1.Rows)), .mapo 15 1]]), (77, .arr 52 3 1 [.p (.agg [.int .u32 x16, .int .i64 t25, .int .i64 (-1)])])]⟩ ?_
 refine AL_inline (avs := [.agg [.p (.str t1.Name), .p (.slc (List.map PV.str t1.Attrs)), .p (.slc (List.map encRow t1.Rows)), .mapo 15 1], .p (.agg [.int .u32 x16, .int .i64 t25, .int .i64 (-1)])]) 106 rfl (guard_none rfl) rfl Try.func59 rfl Try.call59 Try.ntmps59 (by simp) (by simp only [go_sem, seval, h26T, h31]; all_goals rfl) ?_
 intro i34 w35
 show AWp _ _ _ ⟨[(0, .agg [.p (.str t1.Name), .p (.slc (List.map PV.str t1.Attrs)), .p (.slc (List.map encRow t1.Rows)), .mapo 15 1]), (1, .p (.agg [.int .u32 x16, .int .i64 t25, .int .i64 (-1)]))], [(5, .arr 75 4 1 [.agg [.p (.str t1.Name), .p (.slc (List.map PV.str t1.Attrs)), .p (.slc (List.map encRow t1.Rows)), .mapo 15 1]]), (15, .map 1 (List.map AV.p (encK encCanonical m23)) (List.map AV.p (encW PV.bool m23))), (32, .arr 52 3 1 (List.map AV.p (List.map encCanonical o13))), (42, .arr 75 4 1 [.agg [.p (.str t1.Name), .p (.slc (List.map PV.str t1.Attrs)), .p (.slc (List.map encRow t1.Rows)), .mapo 15 1]]), (47, .arr 52 3 1 [.p (.agg [.int .u32 x16, .int .i64 t25, .int .i64 (-1)])]), (71, .arr 52 3 1 (List.map AV.p (List.map encCanonical o24))), (76, .arr 75 4 1 [.agg [.p (.str t1.Name), .p (.slc (List.map PV.str t1.Attrs)), .p (.slc (List.map encRow t1.Rows)), .mapo 15 1]]), (77, .arr 52 3 1 [.p (.agg [.int .u32 x16, .int .i64 t25, .int .i64 (-1)])])]⟩
 refine zs (zr ?_)
 refine zU (zl (zn (zs (zr ?_))))
 refine zU (zl (zn (zs (zs (zr ?_)))))
 refine zU (zl (zn ?_))
 rcases zI h with ⟨h36, h⟩ | ⟨h36, h⟩
 refine zj (zk (zn (zs (zr ?_))))
 refine zU (zl (zn (zq ?_)))
 refine inlQ_ret (by simp only [Try.results59]; simp only [go_sem, seval, h26T, h31, h36]; exact rfl) ?_
 refine zU (zl (zn ?_))
 rcases zI h with ⟨h37, h⟩ | ⟨h37, h⟩
 refine zj (zk (zn (zs (zs (zr ?_)))))
 refine zU (zl (zn (zb ?_)))
 obtain ⟨o38, h39, h⟩ := zB h
 refine zO (fun (s : (List (Canonical × Bool)) × Int) => ⟨[(2, .loc 76 1 0 0), (3, .loc 77 1 0 0), (5, .p (.int .u32 s.2))], [(5, .arr 75 4 1 [.agg [.p (.str t1.Name), .p (.slc (List.map PV.str t1.Attrs)), .p (.slc (List.map encRow t1.Rows)), .mapo 15 1]]), (15, .map 1 (List.map AV.p (encK encCanonical s.1)) (List.map AV.p (encW PV.bool s.1))), (32, .arr 52 3 1 (List.map AV.p (List.map encCanonical o13))), (42, .arr 75 4 1 [.agg [.p (.str t1.Name), .p (.slc (List.map PV.str t1.Attrs)), .p (.slc (List.map encRow t1.Rows)), .mapo 15 1]]), (47, .arr 52 3 1 [.p (.agg [.int .u32 x16, .int .i64 t25, .int .i64 (-1)])]), (71, .arr 52 3 1 (List.map AV.p (List.map encCanonical o24))), (76, .arr 75 4 1 [.agg [.p (.str t1.Name), .p (.slc (List.map PV.str t1.Attrs)), .p (.slc (List.map encRow t1.Rows)), .mapo 15 1]]), (77, .arr 52 3 1 [.p (.agg [.int .u32 x16, .int .i64 t25, .int .i64 (-1)])])]⟩) (fun (o : ((List (Canonical × Bool))) ⊕ ((List (Canonical × Bool)))) => match o with | .inl o40 => tE ⟨Try.prog, 32, 74, X, [(5, .arr 75 4 1 [.agg [.p (.str t1.Name), .p (.slc (List.map PV.str t1.Attrs)), .p (.slc (List.map encRow t1.Rows)), .mapo 15 1]]), (15, .map 1 (List.map AV.p (encK encCanonical m23)) (List.map AV.p (encW PV.bool m23))), (32, .arr 52 3 1 (List.map AV.p (List.map encCanonical o13))), (42, .arr 75 4 1 [.agg [.p (.str t1.Name), .p (.slc (List.map PV.str t1.Attrs)), .p (.slc (List.map encRow t1.Rows)), .mapo 15 1]]), (47, .arr 52 3 1 [.p (.agg [.int .u32 x16, .int .i64 t25, .int .i64 (-1)])]), (71, .arr 52 3 1 (List.map AV.p (List.map encCanonical o24)))], i32, w33, D⟩ (.exit 0) ⟨[], [(5, .arr 75 4 1 [.agg [.p (.str t1.Name), .p (.slc (List.map PV.str t1.Attrs)), .p (.slc (List.map encRow t1.Rows)), .mapo 15 1]]), (15, .map 1 (List.map AV.p (encK encCanonical o40)) (List.map AV.p (encW PV.bool o40))), (32, .arr 52 3 1 (List.map AV.p (List.map encCanonical o13))), (42, .arr 75 4 1 [.agg [.p (.str t1.Name), .p (.slc (List.map PV.str t1.Attrs)), .p (.slc (List.map encRow t1.Rows)), .mapo 15 1]]), (47, .arr 52 3 1 [.p (.agg [.int .u32 x16, .int .i64 t25, .int .i64 (-1)])]), (71, .arr 52 3 1 (List.map AV.p (List.map encCanonical o24)))]⟩ | .inr o41 => tE ⟨Try.prog, 32, 74, X, [(5, .arr 75 4 1 [.agg [.p (.str t1.Name), .p (.slc (List.map PV.str t1.Attrs)), .p (.slc (List.map encRow t1.Rows)), .mapo 15 1]]), (15, .map 1 (List.map AV.p (encK encCanonical m23)) (List.map AV.p (encW PV.bool m23))), (32, .arr 52 3 1 (List.map AV.p (List.map encCanonical o13))), (42, .arr 75 4 1 [.agg [.p (.str t1.Name), .p (.slc (List.map PV.str t1.Attrs)), .p (.slc (List.map encRow t1.Rows)), .mapo 15 1]]), (47, .arr 52 3 1 [.p (.agg [.int .u32 x16, .int .i64 t25, .int .i64 (-1)])]), (71, .arr 52 3 1 (List.map AV.p (List.map encCanonical o24)))], i32, w33, D⟩ .ret ⟨[(4, .p (.bool false))], [(5, .arr 75 4 1 [.agg [.p (.str t1.Name), .p (.slc (List.map PV.str t1.Attrs)), .p (.slc (List.map encRow t1.Rows)), .mapo 15 1]]), (15, .map 1 (List.map AV.p (encK encCanonical o41)) (List.map AV.p (encW PV.bool o41))), (32, .arr 52 3 1 (List.map AV.p (List.map encCanonical o13))), (42, .arr 75 4 1 [.agg [.p (.str t1.Name), .p (.slc (List.map PV.str t1.Attrs)), .p (.slc (List.map encRow t1.Rows)), .mapo 15 1]]), (47, .arr 52 3 1 [.p (.agg [.int .u32 x16, .int .i64 t25, .int .i64 (-1)])]), (71, .arr 52 3 1 (List.map AV.p (List.map encCanonical o24)))]⟩) h39 ?_ ?_
 clear h h26 h26T h30 h31 h36 h37 h39
 intro s x h
 obtain ⟨m42, r43⟩ := s
 simp only [odmine_All_l158] at h
 dsimp only
 refine zs (zs (zr ?_))
 refine zU (zl (zn ?_))
 rcases zI h with ⟨h44, h⟩ | ⟨h44, h⟩
 refine zi (zk (zn ?_))
 obtain ⟨o45, h46, h⟩ := zB h
 refine zJ (fun (o : ((List (Canonical × Bool))) ⊕ ((List (Canonical × Bool)))) => match o with | .inl o47 => tE ⟨Try.prog, 32, 74, X, [(5, .arr 75 4 1 [.agg [.p (.str t1.Name), .p (.slc (List.map PV.str t1.Attrs)), .p (.slc (List.map encRow t1.Rows)), .mapo 15 1]]), (15, .map 1 (List.map AV.p (encK encCanonical m23)) (List.map AV.p (encW PV.bool m23))), (32, .arr 52 3 1 (List.map AV.p (List.map encCanonical o13))), (42, .arr 75 4 1 [.agg [.p (.str t1.Name), .p (.slc (List.map PV.str t1.Attrs)), .p (.slc (List.map encRow t1.Rows)), .mapo 15 1]]), (47, .arr 52 3 1 [.p (.agg [.int .u32 x16, .int .i64 t25, .int .i64 (-1)])]), (71, .arr 52 3 1 (List.map AV.p (List.map encCanonical o24)))], i32, w33, D⟩ .normal ⟨[(2, .loc 76 1 0 0), (3, .loc 77 1 0 0), (5, .p (.int .u32 r43))], [(5, .arr 75 4 1 [.agg [.p (.str t1.Name), .p (.slc (List.map PV.str t1.Attrs)), .p (.slc (List.map encRow t1.Rows)), .mapo 15 1]]), (15, .map 1 (List.map AV.p (encK encCanonical o47)) (List.map AV.p (encW PV.bool o47))), (32, .arr 52 3 1 (List.map AV.p (List.map encCanonical o13))), (42, .arr 75 4 1 [.agg [.p (.str t1.Name), .p (.slc (List.map PV.str t1.Attrs)), .p (.slc (List.map encRow t1.Rows)), .mapo 15 1]]), (47, .arr 52 3 1 [.p (.agg [.int .u32 x16, .int .i64 t25, .int .i64 (-1)])]), (71, .arr 52 3 1 (List.map AV.p (List.map encCanonical o24))), (76, .arr 75 4 1 [.agg [.p (.str t1.Name), .p (.slc (List.map PV.str t1.Attrs)), .p (.slc (List.map encRow t1.Rows)), .mapo 15 1]]), (77, .arr 52 3 1 [.p (.agg [.int .u32 x16, .int .i64 t25, .int .i64 (-1)])])]⟩ | .inr o48 => tE ⟨Try.prog, 32, 74, X, [(5, .arr 75 4 1 [.agg [.p (.str t1.Name), .p (.slc (List.map PV.str t1.Attrs)), .p (.slc (List.map encRow t1.Rows)), .mapo 15 1]]), (15, .map 1 (List.map AV.p (encK encCanonical m23)) (List.map AV.p (encW PV.bool m23))), (32, .arr 52 3 1 (List.map AV.p (List.map encCanonical o13))), (42, .arr 75 4 1 [.agg [.p (.str t1.Name), .p (.slc (List.map PV.str t1.Attrs)), .p (.slc (List.map encRow t1.Rows)), .mapo 15 1]]), (47, .arr 52 3 1 [.p (.agg [.int .u32 x16, .int .i64 t25, .int .i64 (-1)])]), (71, .arr 52 3 1 (List.map AV.p (List.map encCanonical o24)))], i32, w33, D⟩ .ret ⟨[(4, .p (.bool false))], [(5, .arr 75 4 1 [.agg [.p (.str t1.Name), .p (.slc (List.map PV.str t1.Attrs)), .p (.slc (List.map encRow t1.Rows)), .mapo 15 1]]), (15, .map 1 (List.map AV.p (encK encCanonical o48)) (List.map AV.p (encW PV.bool o48))), (32, .arr 52 3 1 (List.map AV.p (List.map encCanonical o13))), (42, .arr 75 4 1 [.agg [.p (.str t1.Name), .p (.slc (List.map PV.str t1.Attrs)), .p (.slc (List.map encRow t1.Rows)), .mapo 15 1]]), (47, .arr 52 3 1 [.p (.agg [.int .u32 x16, .int .i64 t25, .int .i64 (-1)])]), (71, .arr 52 3 1 (List.map AV.p (List.map encCanonical o24)))]⟩) o45 ?_ ?_
 replace h := h46
 clear h46
 refine zb (zs (zr ?_))
 refine zU ?_
 refine zM ⟨[(2, .loc 76 1 0 0), (3, .loc 77 1 0 0), (5, .p (.int .u32 r43)), (18, .agg [.p (.str t1.Name), .p (.slc (List.map PV.str t1.Attrs)), .p (.slc (List.map encRow t1.Rows)), .mapo 15 1]), (30, .p (.agg [.int .u32 (IntKind.u32.wrap ((BitVec.ofInt 32 x16 &&& ~~~ (BitVec.ofInt 32 (IntKind.u32.wrap ((BitVec.ofInt 32 r43 &&& (BitVec.ofInt 32 (IntKind.u32.wrap (0 - r43)))).toNat : Int)))).toNat : Int)), .int .i64 t25, .int .i64 (-1)]))], [(5, .arr 75 4 1 [.agg [.p (.str t1.Name), .p (.slc (List.map PV.str t1.Attrs)), .p (.slc (List.map encRow t1.Rows)), .mapo 15 1]]), (15, .map 1 (List.map AV.p (encK encCanonical m42)) (List.map AV.p (encW PV.bool m42))), (32, .arr 52 3 1 (List.map AV.p (List.map encCanonical o13))), (42, .arr 75 4 1 [.agg [.p (.str t1.Name), .p (.slc (List.map PV.str t1.Attrs)), .p (.slc (List.map encRow t1.Rows)), .mapo 15 1]]), (47, .arr 52 3 1 [.p (.agg [.int .u32 x16, .int .i64 t25, .int .i64 (-1)])]), (71, .arr 52 3 1 (List.map AV.p (List.map encCanonical o24))), (76, .arr 75 4 1 [.agg [.p (.str t1.Name), .p (.slc (List.map PV.str t1.Attrs)), .p (.slc (List.map encRow t1.Rows)), .mapo 15 1]]), (77, .arr 52 3 1 [.p (.agg [.int .u32 x16, .int .i64 t25, .int .i64 (-1)])])]⟩ ?_
 refine AL_inline (avs := [.agg [.p (.str t1.Name), .p (.slc (List.map PV.str t1.Attrs)), .p (.slc (List.map encRow t1.Rows)), .mapo 15 1], .p (.agg [.int .u32 (IntKind.u32.wrap ((BitVec.ofInt 32 x16 &&& ~~~ (BitVec.ofInt 32 (IntKind.u32.wrap ((BitVec.ofInt 32 r43 &&& (BitVec.ofInt 32 (IntKind.u32.wrap (0 - r43)))).toNat : Int)))).toNat : Int)), .int .i64 t25, .int .i64 (-1)])]) 134 rfl (guard_none rfl) rfl Try.func59 rfl Try.call59 Try.ntmps59 (by simp) (by simp only [go_sem, seval, h44]; all_goals rfl) ?_
 intro i49 w50
 show AWp _ _ _ ⟨[(0, .agg [.p (.str t1.Name), .p (.slc (List.map PV.str t1.Attrs)), .p (.slc (List.map encRow t1.Rows)), .mapo 15 1]), (1, .p (.agg [.int .u32 (IntKind.u32.wrap ((BitVec.ofInt 32 x16 &&& ~~~ (BitVec.ofInt 32 (IntKind.u32.wrap ((BitVec.ofInt 32 r43 &&& (BitVec.ofInt 32 (IntKind.u32.wrap (0 - r43)))).toNat : Int)))).toNat : Int)), .int .i64 t25, .int .i64 (-1)]))], [(5, .arr 75 4 1 [.agg [.p (.str t1.Name), .p (.slc (List.map PV.str t1.Attrs)), .p (.slc (List.map encRow t1.Rows)), .mapo 15 1]]), (15, .map 1 (List.map AV.p (encK encCanonical m42)) (List.map AV.p (encW PV.bool m42))), (32, .arr 52 3 1 (List.map AV.p (List.map encCanonical o13))), (42, .arr 75 4 1 [.agg [.p (.str t1.Name), .p (.slc (List.map PV.str t1.Attrs)), .p (.slc (List.map encRow t1.Rows)), .mapo 15 1]]), (47, .arr 52 3 1 [.p (.agg [.int .u32 x16, .int .i64 t25, .int .i64 (-1)])]), (71, .arr 52 3 1 (List.map AV.p (List.map encCanonical o24))), (76, .arr 75 4 1 [.agg [.p (.str t1.Name), .p (.slc (List.map PV.str t1.Attrs)), .p (.slc (List.map encRow t1.Rows)), .mapo 15 1]]), (77, .arr 52 3 1 [.p (.agg [.int .u32 x16, .int .i64 t25, .int .i64 (-1)])])]⟩
 refine zs (zr ?_)
 refine zU (zl (zn (zs (zr ?_))))
 refine zU (zl (zn (zs (zs (zr ?_)))))
 refine zU (zl (zn ?_))
 rcases zI h with ⟨h51, h⟩ | ⟨h51, h⟩
 refine zj (zk (zn (zs (zr ?_))))
 refine zU (zl (zn (zq ?_)))
 refine inlQ_ret (by simp only [Try.results59]; simp only [go_sem, seval, h44, h51]; exact rfl) ?_
 refine zl (zn ?_)
 rcases zI h with ⟨h52, h⟩ | ⟨h52, h⟩
 refine zi (zs (zr ?_))
 refine zU (zl (zn (zq (yr ?_))))
 cases h
 exact ⟨rfl, zE⟩
 refine zj (zk (yn ?_))
 cases h
 exact ⟨rfl, zE⟩
 have h51F := Bool.eq_false_iff.2 h51
 refine zi (zs (zr ?_))
 refine zU ?_
 obtain ⟨r53, h54, h⟩ := zB h
 refine zc (ordering_Satisfies_con t1 (Canonical.mk (IntKind.u32.wrap ((BitVec.ofInt 32 x16 &&& ~~~ (BitVec.ofInt 32 (IntKind.u32.wrap ((BitVec.ofInt 32 r43 &&& (BitVec.ofInt 32 (IntKind.u32.wrap (0 - r43)))).toNat : Int)))).toNat : Int)) t25 (-1)) _ h54) ?_
 refine zU (zl (zn (zr ?_)))
 refine zU (zl (zn (zs (zr ?_))))
 refine zU (zl (zn (zq ?_)))
 refine inlQ_ret (by simp only [Try.results59]; simp only [go_sem, seval, h44, h51F]; exact rfl) ?_
 refine zl (zn ?_)
 rcases zI h with ⟨h55, h⟩ | ⟨h55, h⟩
 refine zi (zs (zr ?_))
 refine zU (zl (zn (zq (yr ?_))))
 cases h
 exact ⟨rfl, zE⟩
 refine zj (zk (yn ?_))
 cases h
 exact ⟨rfl, zE⟩
 rcases o45 with m56 | r57
 try simp only at h
 refine zA (zn (zr ?_))
 refine zU (zl ?_)
 cases h
 exact ⟨rfl, zE⟩
 try simp only at h
 refine zA (zt ?_)
 cases h
 exact ⟨rfl, zE⟩
 refine zj (zx (ze ?_))
 cases h
 exact ⟨rfl, zE⟩
 rcases o38 with r58 | r59
 try simp only at h
 refine zA (yh (zn (zs (zr ?_))))
 refine zU (zl (zn (zq ?_)))
 refine inlQ_ret (by simp only [Try.results58]; simp only [go_sem, seval, h26T, h31, h36, h37]; exact rfl) ?_
 refine zU (zl ?_)
 cases h
 exact ⟨rfl, zE⟩
 try simp only at h
 refine zA (yr (zt ?_))
 refine inlQ_ret (by simp only [Try.results58]; simp only [go_sem, seval, h26T, h31, h36, h37]; exact rfl) ?_
 refine zU (zl ?_)
 cases h
 exact ⟨rfl, zE⟩
 have h37F := Bool.eq_false_iff.2 h37
 refine zi (zs (zr ?_))
 refine zU (zl (zn (zq (zt ?_))))
 refine inlQ_ret (by simp only [Try.results58]; simp only [go_sem, seval, h26T, h31, h36, h37F]; exact rfl) ?_
 refine zU (zl ?_)
 cases h
 exact ⟨rfl, zE⟩
 have h36F := Bool.eq_false_iff.2 h36
 refine zi (zs (zr ?_))
 refine zU ?_
 obtain ⟨r60, h61, h⟩ := zB h
 refine zc (ordering_Satisfies_con t1 (Canonical.mk x16 t25 (-1)) _ h61) ?_
 refine zU (zl (zn (zr ?_)))
 refine zU (zl (zn (zs (zr ?_))))
 refine zU (zl (zn (zq ?_)))
 refine inlQ_ret (by simp only [Try.results59]; simp only [go_sem, seval, h26T, h31, h36F]; exact rfl) ?_
 refine zU (zl (zn ?_))
 rcases zI h with ⟨h62, h⟩ | ⟨h62, h⟩
 refine zj (zk (zn (zs (zs (zr ?_)))))
 refine zU (zl (zn (zb ?_)))
 obtain ⟨o63, h64, h⟩ := zB h
 refine zO (fun (s : (List (Canonical × Bool)) × Int) => ⟨[(2, .loc 76 1 0 0), (3, .loc 77 1 0 0), (5, .p (.int .u32 s.2))], [(5, .arr 75 4 1 [.agg [.p (.str t1.Name), .p (.slc (List.map PV.str t1.Attrs)), .p (.slc (List.map encRow t1.Rows)), .mapo 15 1]]), (15, .map 1 (List.map AV.p (encK encCanonical s.1)) (List.map AV.p (encW PV.bool s.1))), (32, .arr 52 3 1 (List.map AV.p (List.map encCanonical o13))), (42, .arr 75 4 1 [.agg [.p (.str t1.Name), .p (.slc (List.map PV.str t1.Attrs)), .p (.slc (List.map encRow t1.Rows)), .mapo 15 1]]), (47, .arr 52 3 1 [.p (.agg [.int .u32 x16, .int .i64 t25, .int .i64 (-1)])]), (71, .arr 52 3 1 (List.map AV.p (List.map encCanonical o24))), (76, .arr 75 4 1 [.agg [.p (.str t1.Name), .p (.slc (List.map PV.str t1.Attrs)), .p (.slc (List.map encRow t1.Rows)), .mapo 15 1]]), (77, .arr 52 3 1 [.p (.agg [.int .u32 x16, .int .i64 t25, .int .i64 (-1)])])]⟩) (fun (o : ((List (Canonical × Bool))) ⊕ ((List (Canonical × Bool)))) => match o with | .inl o65 => tE ⟨Try.prog, 32, 74, X, [(5, .arr 75 4 1 [.agg [.p (.str t1.Name), .p (.slc (List.map PV.str t1.Attrs)), .p (.slc (List.map encRow t1.Rows)), .mapo 15 1]]), (15, .map 1 (List.map AV.p (encK encCanonical m23)) (List.map AV.p (encW PV.bool m23))), (32, .arr 52 3 1 (List.map AV.p (List.map encCanonical o13))), (42, .arr 75 4 1 [.agg [.p (.str t1.Name), .p (.slc (List.map PV.str t1.Attrs)), .p (.slc (List.map encRow t1.Rows)), .mapo 15 1]]), (47, .arr 52 3 1 [.p (.agg [.int .u32 x16, .int .i64 t25, .int .i64 (-1)])]), (71, .arr 52 3 1 (List.map AV.p (List.map encCanonical o24)))], i32, w33, D⟩ (.exit 0) ⟨[], [(5, .arr 75 4 1 [.agg [.p (.str t1.Name), .p (.slc (List.map PV.str t1.Attrs)), .p (.slc (List.map encRow t1.Rows)), .mapo 15 1]]), (15, .map 1 (List.map AV.p (encK encCanonical o65)) (List.map AV.p (encW PV.bool o65))), (32, .arr 52 3 1 (List.map AV.p (List.map encCanonical o13))), (42, .arr 75 4 1 [.agg [.p (.str t1.Name), .p (.slc (List.map PV.str t1.Attrs)), .p (.slc (List.map encRow t1.Rows)), .mapo 15 1]]), (47, .arr 52 3 1 [.p (.agg [.int .u32 x16, .int .i64 t25, .int .i64 (-1)])]), (71, .arr 52 3 1 (List.map AV.p (List.map encCanonical o24)))]⟩ | .inr o66 => tE ⟨Try.prog, 32, 74, X, [(5, .arr 75 4 1 [.agg [.p (.str t1.Name), .p (.slc (List.map PV.str t1.Attrs)), .p (.slc (List.map encRow t1.Rows)), .mapo 15 1]]), (15, .map 1 (List.map AV.p (encK encCanonical m23)) (List.map AV.p (encW PV.bool m23))), (32, .arr 52 3 1 (List.map AV.p (List.map encCanonical o13))), (42, .arr 75 4 1 [.agg [.p (.str t1.Name), .p (.slc (List.map PV.str t1.Attrs)), .p (.slc (List.map encRow t1.Rows)), .mapo 15 1]]), (47, .arr 52 3 1 [.p (.agg [.int .u32 x16, .int .i64 t25, .int .i64 (-1)])]), (71, .arr 52 3 1 (List.map AV.p (List.map encCanonical o24)))], i32, w33, D⟩ .ret ⟨[(4, .p (.bool false))], [(5, .arr 75 4 1 [.agg [.p (.str t1.Name), .p (.slc (List.map PV.str t1.Attrs)), .p (.slc (List.map encRow t1.Rows)), .mapo 15 1]]), (15, .map 1 (List.map AV.p (encK encCanonical o66)) (List.map AV.p (encW PV.bool o66))), (32, .arr 52 3 1 (List.map AV.p (List.map encCanonical o13))), (42, .arr 75 4 1 [.agg [.p (.str t1.Name), .p (.slc (List.map PV.str t1.Attrs)), .p (.slc (List.map encRow t1.Rows)), .mapo 15 1]]), (47, .arr 52 3 1 [.p (.agg [.int .u32 x16, .int .i64 t25, .int .i64 (-1)])]), (71, .arr 52 3 1 (List.map AV.p (List.map encCanonical o24)))]⟩) h64 ?_ ?_
 clear h h26 h26T h30 h31 h36 h36F h61 h62 h64
 intro s x h
 obtain ⟨m67, r68⟩ := s
 simp only [odmine_All_l159] at h
 dsimp only
 refine zs (zs (zr ?_))
 refine zU (zl (zn ?_))
 rcases zI h with ⟨h69, h⟩ | ⟨h69, h⟩
 refine zi (zk (zn ?_))
 obtain ⟨o70, h71, h⟩ := zB h
 refine zJ (fun (o : ((List (Canonical × Bool))) ⊕ ((List (Canonical × Bool)))) => match o with | .inl o72 => tE ⟨Try.prog, 32, 74, X, [(5, .arr 75 4 1 [.agg [.p (.str t1.Name), .p (.slc (List.map PV.str t1.Attrs)), .p (.slc (List.map encRow t1.Rows)), .mapo 15 1]]), (15, .map 1 (List.map AV.p (encK encCanonical m23)) (List.map AV.p (encW PV.bool m23))), (32, .arr 52 3 1 (List.map AV.p (List.map encCanonical o13))), (42, .arr 75 4 1 [.agg [.p (.str t1.Name), .p (.slc (List.map PV.str t1.Attrs)), .p (.slc (List.map encRow t1.Rows)), .mapo 15 1]]), (47, .arr 52 3 1 [.p (.agg [.int .u32 x16, .int .i64 t25, .int .i64 (-1)])]), (71, .arr 52 3 1 (List.map AV.p (List.map encCanonical o24)))], i32, w33, D⟩ .normal ⟨[(2, .loc 76 1 0 0), (3, .loc 77 1 0 0), (5, .p (.int .u32 r68))], [(5, .arr 75 4 1 [.agg [.p (.str t1.Name), .p (.slc (List.map PV.str t1.Attrs)), .p (.slc (List.map encRow t1.Rows)), .mapo 15 1]]), (15, .map 1 (List.map AV.p (encK encCanonical o72)) (List.map AV.p (encW PV.bool o72))), (32, .arr 52 3 1 (List.map AV.p (List.map encCanonical o13))), (42, .arr 75 4 1 [.agg [.p (.str t1.Name), .p (.slc (List.map PV.str t1.Attrs)), .p (.slc (List.map encRow t1.Rows)), .mapo 15 1]]), (47, .arr 52 3 1 [.p (.agg [.int .u32 x16, .int .i64 t25, .int .i64 (-1)])]), (71, .arr 52 3 1 (List.map AV.p (List.map encCanonical o24))), (76, .arr 75 4 1 [.agg [.p (.str t1.Name), .p (.slc (List.map PV.str t1.Attrs)), .p (.slc (List.map encRow t1.Rows)), .mapo 15 1]]), (77, .arr 52 3 1 [.p (.agg [.int .u32 x16, .int .i64 t25, .int .i64 (-1)])])]⟩ | .inr o73 => tE ⟨Try.prog, 32, 74, X, [(5, .arr 75 4 1 [.agg [.p (.str t1.Name), .p (.slc (List.map PV.str t1.Attrs)), .p (.slc (List.map encRow t1.Rows)), .mapo 15 1]]), (15, .map 1 (List.map AV.p (encK encCanonical m23)) (List.map AV.p (encW PV.bool m23))), (32, .arr 52 3 1 (List.map AV.p (List.map encCanonical o13))), (42, .arr 75 4 1 [.agg [.p (.str t1.Name), .p (.slc (List.map PV.str t1.Attrs)), .p (.slc (List.map encRow t1.Rows)), .mapo 15 1]]), (47, .arr 52 3 1 [.p (.agg [.int .u32 x16, .int .i64 t25, .int .i64 (-1)])]), (71, .arr 52 3 1 (List.map AV.p (List.map encCanonical o24)))], i32, w33, D⟩ .ret ⟨[(4, .p (.bool false))], [(5, .arr 75 4 1 [.agg [.p (.str t1.Name), .p (.slc (List.map PV.str t1.Attrs)), .p (.slc (List.map encRow t1.Rows)), .mapo 15 1]]), (15, .map 1 (List.map AV.p (encK encCanonical o73)) (List.map AV.p (encW PV.bool o73))), (32, .arr 52 3 1 (List.map AV.p (List.map encCanonical o13))), (42, .arr 75 4 1 [.agg [.p (.str t1.Name), .p (.slc (List.map PV.str t1.Attrs)), .p (.slc (List.map encRow t1.Rows)), .mapo 15 1]]), (47, .arr 52 3 1 [.p (.agg [.int .u32 x16, .int .i64 t25, .int .i64 (-1)])]), (71, .arr 52 3 1 (List.map AV.p (List.map encCanonical o24)))]⟩) o70 ?_ ?_
 replace h := h71
 clear h71
 refine zb (zs (zr ?_))
 refine zU ?_
 refine zM ⟨[(2, .loc 76 1 0 0), (3, .loc 77 1 0 0), (5, .p (.int .u32 r68)), (18, .agg [.p (.str t1.Name), .p (.slc (List.map PV.str t1.Attrs)), .p (.slc (List.map encRow t1.Rows)), .mapo 15 1]), (30, .p (.agg [.int .u32 (IntKind.u32.wrap ((BitVec.ofInt 32 x16 &&& ~~~ (BitVec.ofInt 32 (IntKind.u32.wrap ((BitVec.ofInt 32 r68 &&& (BitVec.ofInt 32 (IntKind.u32.wrap (0 - r68)))).toNat : Int)))).toNat : Int)), .int .i64 t25, .int .i64 (-1)]))], [(5, .arr 75 4 1 [.agg [.p (.str t1.Name), .p (.slc (List.map PV.str t1.Attrs)), .p (.slc (List.map encRow t1.Rows)), .mapo 15 1]]), (15, .map 1 (List.map AV.p (encK encCanonical m67)) (List.map AV.p (encW PV.bool m67))), (32, .arr 52 3 1 (List.map AV.p (List.map encCanonical o13))), (42, .arr 75 4 1 [.agg [.p (.str t1.Name), .p (.slc (List.map PV.str t1.Attrs)), .p (.slc (List.map encRow t1.Rows)), .mapo 15 1]]), (47, .arr 52 3 1 [.p (.agg [.int .u32 x16, .int .i64 t25, .int .i64 (-1)])]), (71, .arr 52 3 1 (List.map AV.p (List.map encCanonical o24))), (76, .arr 75 4 1 [.agg [.p (.str t1.Name), .p (.slc (List.map PV.str t1.Attrs)), .p (.slc (List.map encRow t1.Rows)), .mapo 15 1]]), (77, .arr 52 3 1 [.p (.agg [.int .u32 x16, .int .i64 t25, .int .i64 (-1)])])]⟩ ?_
 refine AL_inline (avs := [.agg [.p (.str t1.Name), .p (.slc (List.map PV.str t1.Attrs)), .p (.slc (List.map encRow t1.Rows)), .mapo 15 1], .p (.agg [.int .u32 (IntKind.u32.wrap ((BitVec.ofInt 32 x16 &&& ~~~ (BitVec.ofInt 32 (IntKind.u32.wrap ((BitVec.ofInt 32 r68 &&& (BitVec.ofInt 32 (IntKind.u32.wrap (0 - r68)))).toNat : Int)))).toNat : Int)), .int .i64 t25, .int .i64 (-1)])]) 162 rfl (guard_none rfl) rfl Try.func59 rfl Try.call59 Try.ntmps59 (by simp) (by simp only [go_sem, seval, h69]; all_goals rfl) ?_
 intro i74 w75
 show AWp _ _ _ ⟨[(0, .agg [.p (.str t1.Name), .p (.slc (List.map PV.str t1.Attrs)), .p (.slc (List.map encRow t1.Rows)), .mapo 15 1]), (1, .p (.agg [.int .u32 (IntKind.u32.wrap ((BitVec.ofInt 32 x16 &&& ~~~ (BitVec.ofInt 32 (IntKind.u32.wrap ((BitVec.ofInt 32 r68 &&& (BitVec.ofInt 32 (IntKind.u32.wrap (0 - r68)))).toNat : Int)))).toNat : Int)), .int .i64 t25, .int .i64 (-1)]))], [(5, .arr 75 4 1 [.agg [.p (.str t1.Name), .p (.slc (List.map PV.str t1.Attrs)), .p (.slc (List.map encRow t1.Rows)), .mapo 15 1]]), (15, .map 1 (List.map AV.p (encK encCanonical m67)) (List.map AV.p (encW PV.bool m67))), (32, .arr 52 3 1 (List.map AV.p (List.map encCanonical o13))), (42, .arr 75 4 1 [.agg [.p (.str t1.Name), .p (.slc (List.map PV.str t1.Attrs)), .p (.slc (List.map encRow t1.Rows)), .mapo 15 1]]), (47, .arr 52 3 1 [.p (.agg [.int .u32 x16, .int .i64 t25, .int .i64 (-1)])]), (71, .arr 52 3 1 (List.map AV.p (List.map encCanonical o24))), (76, .arr 75 4 1 [.agg [.p (.str t1.Name), .p (.slc (List.map PV.str t1.Attrs)), .p (.slc (List.map encRow t1.Rows)), .mapo 15 1]]), (77, .arr 52 3 1 [.p (.agg [.int .u32 x16, .int .i64 t25, .int .i64 (-1)])])]⟩
 refine zs (zr ?_)
 refine zU (zl (zn (zs (zr ?_))))
 refine zU (zl (zn (zs (zs (zr ?_)))))
 refine zU (zl (zn ?_))
 rcases zI h with ⟨h76, h⟩ | ⟨h76, h⟩
 refine zj (zk (zn (zs (zr ?_))))
 refine zU (zl (zn (zq ?_)))
 refine inlQ_ret (by simp only [Try.results59]; simp only [go_sem, seval, h69, h76]; exact rfl) ?_
 refine zl (zn ?_)
 rcases zI h with ⟨h77, h⟩ | ⟨h77, h⟩
 refine zi (zs (zr ?_))
 refine zU (zl (zn (zq (yr ?_))))
 cases h
 exact ⟨rfl, zE⟩
 refine zj (zk (yn ?_))
 cases h
 exact ⟨rfl, zE⟩
 have h76F := Bool.eq_false_iff.2 h76
 refine zi (zs (zr ?_))
 refine zU ?_
 obtain ⟨r78, h79, h⟩ := zB h
 refine zc (ordering_Satisfies_con t1 (Canonical.mk (IntKind.u32.wrap ((BitVec.ofInt 32 x16 &&& ~~~ (BitVec.ofInt 32 (IntKind.u32.wrap ((BitVec.ofInt 32 r68 &&& (BitVec.ofInt 32 (IntKind.u32.wrap (0 - r68)))).toNat : Int)))).toNat : Int)) t25 (-1)) _ h79) ?_
 refine zU (zl (zn (zr ?_)))
 refine zU (zl (zn (zs (zr ?_))))
 refine zU (zl (zn (zq ?_)))
 refine inlQ_ret (by simp only [Try.results59]; simp only [go_sem, seval, h69, h76F]; exact rfl) ?_
 refine zl (zn ?_)
 rcases zI h with ⟨h80, h⟩ | ⟨h80, h⟩
 refine zi (zs (zr ?_))
 refine zU (zl (zn (zq (yr ?_))))
 cases h
 exact ⟨rfl, zE⟩
 refine zj (zk (yn ?_))
 cases h
 exact ⟨rfl, zE⟩
 rcases o70 with m81 | r82
 try simp only at h
 refine zA (zn (zr ?_))
 refine zU (zl ?_)
 cases h
 exact ⟨rfl, zE⟩
 try simp only at h
 refine zA (zt ?_)
 cases h
 exact ⟨rfl, zE⟩
 refine zj (zx (ze ?_))
 cases h
 exact ⟨rfl, zE⟩
 rcases o63 with r83 | r84
 try simp only at h
 refine zA (yh (zn (zs (zr ?_))))
 refine zU (zl (zn (zq ?_)))
 refine inlQ_ret (by simp only [Try.results58]; simp only [go_sem, seval, h26T, h31, h36F, h62]; exact rfl) ?_
 refine zU (zl ?_)
 cases h
 exact ⟨rfl, zE⟩
 try simp only at h
 refine zA (yr (zt ?_))
 refine inlQ_ret (by simp only [Try.results58]; simp only [go_sem, seval, h26T, h31, h36F, h62]; exact rfl) ?_
 refine zU (zl ?_)
 cases h
 exact ⟨rfl, zE⟩
 have h62F := Bool.eq_false_iff.2 h62
 refine zi (zs (zr ?_))
 refine zU (zl (zn (zq (zt ?_))))
 refine inlQ_ret (by simp only [Try.results58]; simp only [go_sem, seval, h26T, h31, h36F, h62F]; exact rfl) ?_
 refine zU (zl ?_)
 cases h
 exact ⟨rfl, zE⟩
 refine zw 23 false ?_
 refine zh ?_
 refine zU (zl ?_)
 cases h
 exact ⟨rfl, zE⟩
 obtain ⟨m85, t86⟩ := o27
 try simp only at h
 refine zA (zn ?_)
 rcases zI h with ⟨h87, h⟩ | ⟨h87, h⟩
 refine zi (zr ?_)
 obtain ⟨h88, h⟩ := ite_some h
 refine zU (zl (yn (zn (zr ?_))))
 refine zU (zl ?_)
 cases h
 exact ⟨rfl, zE⟩
 refine zj (zk (yn (zn (zr ?_))))
 refine zU (zl ?_)
 cases h
 exact ⟨rfl, zE⟩
 have h26T := eq_false h26
 refine zj (zx (ze ?_))
 cases h
 exact ⟨rfl, zE⟩
 obtain ⟨o89, o90⟩ := o20
 try simp only at h
 refine zA (yh (zn (zs (zr ?_))))
 refine zU (zl (zn (zq ?_)))
 refine inlQ_ret (by simp only [Try.results42]; simp only [go_sem, seval, h15T]; exact rfl) ?_
 obtain ⟨h91, h⟩ := ite_some h
 refine zU (zl (zn (zr ?_)))
 refine zU ?_
 refine zM ⟨[(5, .loc 5 1 0 0), (22, .p (.slc (List.map (PV.int .u32) r7))), (23, .p (.int .i64 (r7.length : Int))), (24, .p (.int .i64 t14)), (33, .own 32 1 0 (o13.length + o89.length)), (34, .agg [.p (.str t1.Name), .p (.slc (List.map PV.str t1.Attrs)), .p (.slc (List.map encRow t1.Rows)), .mapo 15 1]), (35, .p (.int .u32 x16))], [(5, .arr 75 4 1 [.agg [.p (.str t1.Name), .p (.slc (List.map PV.str t1.Attrs)), .p (.slc (List.map encRow t1.Rows)), .mapo 15 1]]), (15, .map 1 (List.map AV.p (encK encCanonical o90)) (List.map AV.p (encW PV.bool o90))), (32, .arr 52 3 1 (List.map AV.p (List.map encCanonical (o13 ++ o89))))]⟩ ?_
 refine AL_inline (avs := [.agg [.p (.str t1.Name), .p (.slc (List.map PV.str t1.Attrs)), .p (.slc (List.map encRow t1.Rows)), .mapo 15 1], .p (.int .u32 x16)]) 190 rfl (guard_none rfl) rfl Try.func43 rfl Try.call43 Try.ntmps43 (by simp) (by simp only [go_sem, seval, h15T]; all_goals rfl) ?_
 intro i92 w93
 show AWp _ _ _ ⟨[(0, .agg [.p (.str t1.Name), .p (.slc (List.map PV.str t1.Attrs)), .p (.slc (List.map encRow t1.Rows)), .mapo 15 1]), (1, .p (.int .u32 x16))], [(5, .arr 75 4 1 [.agg [.p (.str t1.Name), .p (.slc (List.map PV.str t1.Attrs)), .p (.slc (List.map encRow t1.Rows)), .mapo 15 1]]), (15, .map 1 (List.map AV.p (encK encCanonical o90)) (List.map AV.p (encW PV.bool o90))), (32, .arr 52 3 1 (List.map AV.p (List.map encCanonical (o13 ++ o89))))]⟩
 refine zs (zr ?_)
 refine zU (zl (zn (zs (zr ?_))))
 refine zU (zl (zn (zs (zs (zr ?_)))))
 refine zU (zl (zn (zb ?_)))
 obtain ⟨o94, h95, h⟩ := zB h
 refine zO (fun (s : (List (Canonical × Bool)) × List Int × Int) => ⟨[(1, .p (.int .u32 x16)), (2, .loc 192 1 0 0), (5, .own 226 1 0 s.2.1.length), (16, .p (.int .i64 (t1.Attrs.length : Int))), (17, .p (.int .i64 s.2.2))], [(5, .arr 75 4 1 [.agg [.p (.str t1.Name), .p (.slc (List.map PV.str t1.Attrs)), .p (.slc (List.map encRow t1.Rows)), .mapo 15 1]]), (15, .map 1 (List.map AV.p (encK encCanonical s.1)) (List.map AV.p (encW PV.bool s.1))), (32, .arr 52 3 1 (List.map AV.p (List.map encCanonical (o13 ++ o89)))), (192, .arr 75 4 1 [.agg [.p (.str t1.Name), .p (.slc (List.map PV.str t1.Attrs)), .p (.slc (List.map encRow t1.Rows)), .mapo 15 1]]), (226, .arr 3 1 1 (List.map AV.p (List.map (PV.int .i64) s.2.1)))]⟩) (fun (o96 : (List (Canonical × Bool)) × List Int) => tE ⟨Try.prog, 68, 190, X, [(5, .arr 75 4 1 [.agg [.p (.str t1.Name), .p (.slc (List.map PV.str t1.Attrs)), .p (.slc (List.map encRow t1.Rows)), .mapo 15 1]]), (15, .map 1 (List.map AV.p (encK encCanonical o90)) (List.map AV.p (encW PV.bool o90))), (32, .arr 52 3 1 (List.map AV.p (List.map encCanonical (o13 ++ o89))))], i92, w93, D⟩ (.exit 0) ⟨[(1, .p (.int .u32 x16)), (2, .loc 192 1 0 0), (5, .own 226 1 0 o96.2.length)], [(5, .arr 75 4 1 [.agg [.p (.str t1.Name), .p (.slc (List.map PV.str t1.Attrs)), .p (.slc (List.map encRow t1.Rows)), .mapo 15 1]]), (15, .map 1 (List.map AV.p (encK encCanonical o96.1)) (List.map AV.p (encW PV.bool o96.1))), (32, .arr 52 3 1 (List.map AV.p (List.map encCanonical (o13 ++ o89)))), (192, .arr 75 4 1 [.agg [.p (.str t1.Name), .p (.slc (List.map PV.str t1.Attrs)), .p (.slc (List.map encRow t1.Rows)), .mapo 15 1]]), (226, .arr 3 1 1 (List.map AV.p (List.map (PV.int .i64) o96.2)))]⟩) h95 ?_ ?_
 clear h h15 h15T h17 h17a h17b h21 h91 h95
 intro s x h
 obtain ⟨m97, f98, t99⟩ := s
 simp only [odmine_All_l161] at h
 dsimp only
 refine zs (zr ?_)
 refine zU (zl (zn (zs ?_)))
 rcases zI h with ⟨h100, h⟩ | ⟨h100, h⟩
 have h100T := eq_true h100
 refine zi (zk (zn (zs (zb (zs (zr ?_))))))
 refine zU (zl (zn ?_))
 obtain ⟨o101, h102, h⟩ := zB h
 refine zJ (fun (o103 : (List (Canonical × Bool)) × Bool) => tE ⟨Try.prog, 68, 190, X, [(5, .arr 75 4 1 [.agg [.p (.str t1.Name), .p (.slc (List.map PV.str t1.Attrs)), .p (.slc (List.map encRow t1.Rows)), .mapo 15 1]]), (15, .map 1 (List.map AV.p (encK encCanonical o90)) (List.map AV.p (encW PV.bool o90))), (32, .arr 52 3 1 (List.map AV.p (List.map encCanonical (o13 ++ o89))))], i92, w93, D⟩ .normal ⟨[(1, .p (.int .u32 x16)), (2, .loc 192 1 0 0), (5, .own 226 1 0 f98.length), (6, .p (.int .i64 t99)), (16, .p (.int .i64 (t1.Attrs.length : Int))), (17, .p (.int .i64 t99)), (32, .p (.bool o103.2))], [(5, .arr 75 4 1 [.agg [.p (.str t1.Name), .p (.slc (List.map PV.str t1.Attrs)), .p (.slc (List.map encRow t1.Rows)), .mapo 15 1]]), (15, .map 1 (List.map AV.p (encK encCanonical o103.1)) (List.map AV.p (encW PV.bool o103.1))), (32, .arr 52 3 1 (List.map AV.p (List.map encCanonical (o13 ++ o89)))), (192, .arr 75 4 1 [.agg [.p (.str t1.Name), .p (.slc (List.map PV.str t1.Attrs)), .p (.slc (List.map encRow t1.Rows)), .mapo 15 1]]), (226, .arr 3 1 1 (List.map AV.p (List.map (PV.int .i64) f98)))]⟩) o101 ?_ ?_
 replace h := h102
 clear h102
 refine zr ?_
 obtain ⟨h104, h⟩ := ite_none h
 refine zU ?_
 rcases zI h with ⟨h105, h⟩ | ⟨h105, h⟩
 refine zw 25 true ?_
 refine zg ?_
 refine zg ?_
 refine zg ?_
 refine zg ?_
 refine zM ⟨[(1, .p (.int .u32 x16)), (2, .loc 192 1 0 0), (5, .own 226 1 0 f98.length), (6, .p (.int .i64 t99)), (16, .p (.int .i64 (t1.Attrs.length : Int))), (17, .p (.int .i64 t99)), (25, .p (.bool true)), (26, .agg [.p (.str t1.Name), .p (.slc (List.map PV.str t1.Attrs)), .p (.slc (List.map encRow t1.Rows)), .mapo 15 1]), (27, .p (.int .u32 x16)), (28, .p (.int .i64 t99)), (29, .p (.agg [.int .u32 x16, .int .i64 t99, .int .i64 (-1)]))], [(5, .arr 75 4 1 [.agg [.p (.str t1.Name), .p (.slc (List.map PV.str t1.Attrs)), .p (.slc (List.map encRow t1.Rows)), .mapo 15 1]]), (15, .map 1 (List.map AV.p (encK encCanonical m97)) (List.map AV.p (encW PV.bool m97))), (32, .arr 52 3 1 (List.map AV.p (List.map encCanonical (o13 ++ o89)))), (192, .arr 75 4 1 [.agg [.p (.str t1.Name), .p (.slc (List.map PV.str t1.Attrs)), .p (.slc (List.map encRow t1.Rows)), .mapo 15 1]]), (226, .arr 3 1 1 (List.map AV.p (List.map (PV.int .i64) f98)))]⟩ ?_
 refine AL_inline (avs := [.agg [.p (.str t1.Name), .p (.slc (List.map PV.str t1.Attrs)), .p (.slc (List.map encRow t1.Rows)), .mapo 15 1], .p (.agg [.int .u32 x16, .int .i64 t99, .int .i64 (-1)])]) 258 rfl (guard_true' rfl rfl (by exact rfl) (by exact rfl)) rfl Try.func59 rfl Try.call59 Try.ntmps59 (by simp) (by simp only [go_sem, seval, h100T, h105]; all_goals rfl) ?_
 intro i106 w107
 show AWp _ _ _ ⟨[(0, .agg [.p (.str t1.Name), .p (.slc (List.map PV.str t1.Attrs)), .p (.slc (List.map encRow t1.Rows)), .mapo 15 1]), (1, .p (.agg [.int .u32 x16, .int .i64 t99, .int .i64 (-1)]))], [(5, .arr 75 4 1 [.agg [.p (.str t1.Name), .p (.slc (List.map PV.str t1.Attrs)), .p (.slc (List.map encRow t1.Rows)), .mapo 15 1]]), (15, .map 1 (List.map AV.p (encK encCanonical m97)) (List.map AV.p (encW PV.bool m97))), (32, .arr 52 3 1 (List.map AV.p (List.map encCanonical (o13 ++ o89)))), (192, .arr 75 4 1 [.agg [.p (.str t1.Name), .p (.slc (List.map PV.str t1.Attrs)), .p (.slc (List.map encRow t1.Rows)), .mapo 15 1]]), (226, .arr 3 1 1 (List.map AV.p (List.map (PV.int .i64) f98)))]⟩
 refine zs (zr ?_)
 refine zU (zl (zn (zs (zr ?_))))
 refine zU (zl (zn (zs (zs (zr ?_)))))
 refine zU (zl (zn ?_))
 rcases zI h with ⟨h108, h⟩ | ⟨h108, h⟩
 replace h := h.symm
 refine zj (zk (zn (zs (zr ?_))))
 refine zU (zl (zn (zq ?_)))
 refine inlQ_ret (by simp only [Try.results59]; simp only [go_sem, seval, h100T, h105, h108]; exact rfl) ?_
 refine zg ?_
 refine zU (zl ?_)
 cases h
 exact ⟨rfl, zE⟩
 have h108F := Bool.eq_false_iff.2 h108
 refine zi (zs (zr ?_))
 refine zU ?_
 obtain ⟨r109, h110, h⟩ := zB h
 replace h := h.symm
 refine zc (ordering_Satisfies_con t1 (Canonical.mk x16 t99 (-1)) _ h110) ?_
 refine zU (zl (zn (zr ?_)))
 refine zU (zl (zn (zs (zr ?_))))
 refine zU (zl (zn (zq ?_)))
 refine inlQ_ret (by simp only [Try.results59]; simp only [go_sem, seval, h100T, h105, h108F]; exact rfl) ?_
 refine zg ?_
 refine zU (zl ?_)
 cases h
 exact ⟨rfl, zE⟩
 refine zw 25 false ?_
 refine zh ?_
 refine zU (zl ?_)
 cases h
 exact ⟨rfl, zE⟩
 obtain ⟨m111, t112⟩ := o101
 try simp only at h
 refine zA (zn ?_)
 rcases zI h with ⟨h113, h⟩ | ⟨h113, h⟩
 refine zi (zr ?_)
 obtain ⟨h114, h⟩ := ite_some h
 refine zU (zl (yn (zn (zr ?_))))
 refine zU (zl ?_)
 cases h
 exact ⟨rfl, zE⟩
 refine zj (zk (yn (zn (zr ?_))))
 refine zU (zl ?_)
 cases h
 exact ⟨rfl, zE⟩
 have h100T := eq_false h100
 refine zj (zx (ze ?_))
 cases h
 exact ⟨rfl, zE⟩
 obtain ⟨m115, f116⟩ := o94
 try simp only at h
 refine zA (yh (zn (zs (zr ?_))))
 refine zU (zl (zn (zs (zs (zr ?_)))))
 refine zU (zl (zn (zb ?_)))
 obtain ⟨o117, h118, h⟩ := zB h
 refine zO (fun (s : (List (Canonical × Bool)) × List Canonical × Int) => ⟨[(1, .p (.int .u32 x16)), (2, .loc 192 1 0 0), (5, .own 226 1 0 f116.length), (7, .own 254 1 0 s.2.1.length), (38, .own 226 1 0 f116.length), (39, .p (.int .i64 ((f116.length : Nat) : Int))), (40, .p (.int .i64 s.2.2))], [(5, .arr 75 4 1 [.agg [.p (.str t1.Name), .p (.slc (List.map PV.str t1.Attrs)), .p (.slc (List.map encRow t1.Rows)), .mapo 15 1]]), (15, .map 1 (List.map AV.p (encK encCanonical s.1)) (List.map AV.p (encW PV.bool s.1))), (32, .arr 52 3 1 (List.map AV.p (List.map encCanonical (o13 ++ o89)))), (192, .arr 75 4 1 [.agg [.p (.str t1.Name), .p (.slc (List.map PV.str t1.Attrs)), .p (.slc (List.map encRow t1.Rows)), .mapo 15 1]]), (226, .arr 3 1 1 (List.map AV.p (List.map (PV.int .i64) f116))), (254, .arr 52 3 1 (List.map AV.p (List.map encCanonical s.2.1)))]⟩) (fun (o119 : List Canonical × (List (Canonical × Bool))) => tE ⟨Try.prog, 68, 190, X, [(5, .arr 75 4 1 [.agg [.p (.str t1.Name), .p (.slc (List.map PV.str t1.Attrs)), .p (.slc (List.map encRow t1.Rows)), .mapo 15 1]]), (15, .map 1 (List.map AV.p (encK encCanonical o90)) (List.map AV.p (encW PV.bool o90))), (32, .arr 52 3 1 (List.map AV.p (List.map encCanonical (o13 ++ o89))))], i92, w93, D⟩ (.exit 2) ⟨[(7, .own 254 1 0 o119.1.length)], [(5, .arr 75 4 1 [.agg [.p (.str t1.Name), .p (.slc (List.map PV.str t1.Attrs)), .p (.slc (List.map encRow t1.Rows)), .mapo 15 1]]), (15, .map 1 (List.map AV.p (encK encCanonical o119.2)) (List.map AV.p (encW PV.bool o119.2))), (32, .arr 52 3 1 (List.map AV.p (List.map encCanonical (o13 ++ o89)))), (254, .arr 52 3 1 (List.map AV.p (List.map encCanonical o119.1)))]⟩) h118 ?_ ?_
 clear h h15 h15T h17 h17a h17b h21 h91 h95 h118
 intro s x h
 obtain ⟨m120, o121, t122⟩ := s
 simp only [odmine_All_l201] at h
 dsimp only
 refine zs (zr ?_)
 refine zU (zl (zn (zs ?_)))
 rcases zI h with ⟨h123, h⟩ | ⟨h123, h⟩
 refine zi (zk (zn (zs (zb (zs (zr ?_))))))
 obtain ⟨x124, h125, h125a, h125b, h⟩ := zX h
 refine zU (zl (zn (zs (zr ?_))))
 obtain ⟨h126, h⟩ := ite_some h
 obtain ⟨h127, h⟩ := ite_some h
 refine zU (zl (zn (zb ?_)))
 obtain ⟨o128, h129, h⟩ := zB h
 refine zO (fun (s : (List (Canonical × Bool)) × List Canonical × Int) => ⟨[(1, .p (.int .u32 x16)), (2, .loc 192 1 0 0), (5, .own 226 1 0 f116.length), (7, .own 254 1 0 s.2.1.length), (9, .p (.int .i64 x124)), (38, .own 226 1 0 f116.length), (39, .p (.int .i64 ((f116.length : Nat) : Int))), (40, .p (.int .i64 t122)), (48, .own 226 1 (IntKind.i64.wrap (t122 + 1)).toNat (f116.length - (IntKind.i64.wrap (t122 + 1)).toNat)), (49, .p (.int .i64 (((f116.length - (IntKind.i64.wrap (t122 + 1)).toNat) : Nat) : Int))), (50, .p (.int .i64 s.2.2))], [(5, .arr 75 4 1 [.agg [.p (.str t1.Name), .p (.slc (List.map PV.str t1.Attrs)), .p (.slc (List.map encRow t1.Rows)), .mapo 15 1]]), (15, .map 1 (List.map AV.p (encK encCanonical s.1)) (List.map AV.p (encW PV.bool s.1))), (32, .arr 52 3 1 (List.map AV.p (List.map encCanonical (o13 ++ o89)))), (192, .arr 75 4 1 [.agg [.p (.str t1.Name), .p (.slc (List.map PV.str t1.Attrs)), .p (.slc (List.map encRow t1.Rows)), .mapo 15 1]]), (226, .arr 3 1 1 (List.map AV.p (List.map (PV.int .i64) f116))), (254, .arr 52 3 1 (List.map AV.p (List.map encCanonical s.2.1)))]⟩) (fun (o130 : (List (Canonical × Bool)) × List Canonical) => tE ⟨Try.prog, 68, 190, X, [(5, .arr 75 4 1 [.agg [.p (.str t1.Name), .p (.slc (List.map PV.str t1.Attrs)), .p (.slc (List.map encRow t1.Rows)), .mapo 15 1]]), (15, .map 1 (List.map AV.p (encK encCanonical o90)) (List.map AV.p (encW PV.bool o90))), (32, .arr 52 3 1 (List.map AV.p (List.map encCanonical (o13 ++ o89))))], i92, w93, D⟩ (.exit 4) ⟨[(1, .p (.int .u32 x16)), (2, .loc 192 1 0 0), (5, .own 226 1 0 f116.length), (7, .own 254 1 0 o130.2.length), (38, .own 226 1 0 f116.length), (39, .p (.int .i64 ((f116.length : Nat) : Int))), (40, .p (.int .i64 t122))], [(5, .arr 75 4 1 [.agg [.p (.str t1.Name), .p (.slc (List.map PV.str t1.Attrs)), .p (.slc (List.map encRow t1.Rows)), .mapo 15 1]]), (15, .map 1 (List.map AV.p (encK encCanonical o130.1)) (List.map AV.p (encW PV.bool o130.1))), (32, .arr 52 3 1 (List.map AV.p (List.map encCanonical (o13 ++ o89)))), (192, .arr 75 4 1 [.agg [.p (.str t1.Name), .p (.slc (List.map PV.str t1.Attrs)), .p (.slc (List.map encRow t1.Rows)), .mapo 15 1]]), (226, .arr 3 1 1 (List.map AV.p (List.map (PV.int .i64) f116))), (254, .arr 52 3 1 (List.map AV.p (List.map encCanonical o130.2)))]⟩) h129 ?_ ?_
 clear h h123 h125 h125a h125b h126 h127 h129
 intro s x h
 obtain ⟨m131, o132, t133⟩ := s
 simp only [odmine_All_l200] at h
 dsimp only
 refine zs (zr ?_)
 refine zU (zl (zn (zs ?_)))
 rcases zI h with ⟨h134, h⟩ | ⟨h134, h⟩
 have h134T := eq_true h134
 refine zi (zk (zn (zs (zb (zs (zr ?_))))))
 obtain ⟨x135, h136, h136a, h136b, h⟩ := zX h
 obtain ⟨h137, h137n⟩ := part_get h136
 have h137N := eq_true (part_lt h137n h136a)
 refine zU (zl (zn (zs (zr ?_))))
 refine zU (zl (zn ?_))
 obtain ⟨o138, h139, h⟩ := zB h
 refine zJ (fun (o140 : (List (Canonical × Bool)) × Bool) => tE ⟨Try.prog, 68, 190, X, [(5, .arr 75 4 1 [.agg [.p (.str t1.Name), .p (.slc (List.map PV.str t1.Attrs)), .p (.slc (List.map encRow t1.Rows)), .mapo 15 1]]), (15, .map 1 (List.map AV.p (encK encCanonical o90)) (List.map AV.p (encW PV.bool o90))), (32, .arr 52 3 1 (List.map AV.p (List.map encCanonical (o13 ++ o89))))], i92, w93, D⟩ .normal ⟨[(1, .p (.int .u32 x16)), (2, .loc 192 1 0 0), (5, .own 226 1 0 f116.length), (7, .own 254 1 0 o132.length), (9, .p (.int .i64 x124)), (12, .loc 202 1 0 0), (38, .own 226 1 0 f116.length), (39, .p (.int .i64 ((f116.length : Nat) : Int))), (40, .p (.int .i64 t122)), (48, .own 226 1 (IntKind.i64.wrap (t122 + 1)).toNat (f116.length - (IntKind.i64.wrap (t122 + 1)).toNat)), (49, .p (.int .i64 (((f116.length - (IntKind.i64.wrap (t122 + 1)).toNat) : Nat) : Int))), (50, .p (.int .i64 t133)), (60, .p (.bool o140.2))], [(5, .arr 75 4 1 [.agg [.p (.str t1.Name), .p (.slc (List.map PV.str t1.Attrs)), .p (.slc (List.map encRow t1.Rows)), .mapo 15 1]]), (15, .map 1 (List.map AV.p (encK encCanonical o140.1)) (List.map AV.p (encW PV.bool o140.1))), (32, .arr 52 3 1 (List.map AV.p (List.map encCanonical (o13 ++ o89)))), (192, .arr 75 4 1 [.agg [.p (.str t1.Name), .p (.slc (List.map PV.str t1.Attrs)), .p (.slc (List.map encRow t1.Rows)), .mapo 15 1]]), (202, .arr 52 3 1 [.p (.agg [.int .u32 x16, .int .i64 x124, .int .i64 x135])]), (226, .arr 3 1 1 (List.map AV.p (List.map (PV.int .i64) f116))), (254, .arr 52 3 1 (List.map AV.p (List.map encCanonical o132)))]⟩) o138 ?_ ?_
 replace h := h139
 clear h139
 refine zr ?_
 refine zU ?_
 refine zM ⟨[(1, .p (.int .u32 x16)), (2, .loc 192 1 0 0), (5, .own 226 1 0 f116.length), (7, .own 254 1 0 o132.length), (9, .p (.int .i64 x124)), (12, .loc 202 1 0 0), (38, .own 226 1 0 f116.length), (39, .p (.int .i64 ((f116.length : Nat) : Int))), (40, .p (.int .i64 t122)), (48, .own 226 1 (IntKind.i64.wrap (t122 + 1)).toNat (f116.length - (IntKind.i64.wrap (t122 + 1)).toNat)), (49, .p (.int .i64 (((f116.length - (IntKind.i64.wrap (t122 + 1)).toNat) : Nat) : Int))), (50, .p (.int .i64 t133)), (58, .agg [.p (.str t1.Name), .p (.slc (List.map PV.str t1.Attrs)), .p (.slc (List.map encRow t1.Rows)), .mapo 15 1]), (59, .p (.agg [.int .u32 x16, .int .i64 x124, .int .i64 x135]))], [(5, .arr 75 4 1 [.agg [.p (.str t1.Name), .p (.slc (List.map PV.str t1.Attrs)), .p (.slc (List.map encRow t1.Rows)), .mapo 15 1]]), (15, .map 1 (List.map AV.p (encK encCanonical m131)) (List.map AV.p (encW PV.bool m131))), (32, .arr 52 3 1 (List.map AV.p (List.map encCanonical (o13 ++ o89)))), (192, .arr 75 4 1 [.agg [.p (.str t1.Name), .p (.slc (List.map PV.str t1.Attrs)), .p (.slc (List.map encRow t1.Rows)), .mapo 15 1]]), (202, .arr 52 3 1 [.p (.agg [.int .u32 x16, .int .i64 x124, .int .i64 x135])]), (226, .arr 3 1 1 (List.map AV.p (List.map (PV.int .i64) f116))), (254, .arr 52 3 1 (List.map AV.p (List.map encCanonical o132)))]⟩ ?_
 refine AL_inline (avs := [.agg [.p (.str t1.Name), .p (.slc (List.map PV.str t1.Attrs)), .p (.slc (List.map encRow t1.Rows)), .mapo 15 1], .p (.agg [.int .u32 x16, .int .i64 x124, .int .i64 x135])]) 286 rfl (guard_none rfl) rfl Try.func58 rfl Try.call58 Try.ntmps58 (by simp) (by simp only [go_sem, seval, h134T]; all_goals rfl) ?_
 intro i141 w142
 show AWp _ _ _ ⟨[(0, .agg [.p (.str t1.Name), .p (.slc (List.map PV.str t1.Attrs)), .p (.slc (List.map encRow t1.Rows)), .mapo 15 1]), (1, .p (.agg [.int .u32 x16, .int .i64 x124, .int .i64 x135]))], [(5, .arr 75 4 1 [.agg [.p (.str t1.Name), .p (.slc (List.map PV.str t1.Attrs)), .p (.slc (List.map encRow t1.Rows)), .mapo 15 1]]), (15, .map 1 (List.map AV.p (encK encCanonical m131)) (List.map AV.p (encW PV.bool m131))), (32, .arr 52 3 1 (List.map AV.p (List.map encCanonical (o13 ++ o89)))), (192, .arr 75 4 1 [.agg [.p (.str t1.Name), .p (.slc (List.map PV.str t1.Attrs)), .p (.slc (List.map encRow t1.Rows)), .mapo 15 1]]), (202, .arr 52 3 1 [.p (.agg [.int .u32 x16, .int .i64 x124, .int .i64 x135])]), (226, .arr 3 1 1 (List.map AV.p (List.map (PV.int .i64) f116))), (254, .arr 52 3 1 (List.map AV.p (List.map encCanonical o132)))]⟩
 refine zs (zr ?_)
 refine zU (zl (zn (zs (zs (zr ?_)))))
 refine zU ?_
 refine zM ⟨[(2, .loc 288 1 0 0), (3, .loc 289 1 0 0), (6, .agg [.p (.str t1.Name), .p (.slc (List.map PV.str t1.Attrs)), .p (.slc (List.map encRow t1.Rows)), .mapo 15 1]), (7, .p (.agg [.int .u32 x16, .int .i64 x124, .int .i64 x135]))], [(5, .arr 75 4 1 [.agg [.p (.str t1.Name), .p (.slc (List.map PV.str t1.Attrs)), .p (.slc (List.map encRow t1.Rows)), .mapo 15 1]]), (15, .map 1 (List.map AV.p (encK encCanonical m131)) (List.map AV.p (encW PV.bool m131))), (32, .arr 52 3 1 (List.map AV.p (List.map encCanonical (o13 ++ o89)))), (192, .arr 75 4 1 [.agg [.p (.str t1.Name), .p (.slc (List.map PV.str t1.Attrs)), .p (.slc (List.map encRow t1.Rows)), .mapo 15 1]]), (202, .arr 52 3 1 [.p (.agg [.int .u32 x16, .int .i64 x124, .int .i64 x135])]), (226, .arr 3 1 1 (List.map AV.p (List.map (PV.int .i64) f116))), (254, .arr 52 3 1 (List.map AV.p (List.map encCanonical o132))), (288, .arr 75 4 1 [.agg [.p (.str t1.Name), .p (.slc (List.map PV.str t1.Attrs)), .p (.slc (List.map encRow t1.Rows)), .mapo 15 1]]), (289, .arr 52 3 1 [.p (.agg [.int .u32 x16, .int .i64 x124, .int .i64 x135])])]⟩ ?_
 refine AL_inline (avs := [.agg [.p (.str t1.Name), .p (.slc (List.map PV.str t1.Attrs)), .p (.slc (List.map encRow t1.Rows)), .mapo 15 1], .p (.agg [.int .u32 x16, .int .i64 x124, .int .i64 x135])]) 318 rfl (guard_none rfl) rfl Try.func59 rfl Try.call59 Try.ntmps59 (by simp) (by simp only [go_sem, seval, h134T]; all_goals rfl) ?_
 intro i143 w144
 show AWp _ _ _ ⟨[(0, .agg [.p (.str t1.Name), .p (.slc (List.map PV.str t1.Attrs)), .p (.slc (List.map encRow t1.Rows)), .mapo 15 1]), (1, .p (.agg [.int .u32 x16, .int .i64 x124, .int .i64 x135]))], [(5, .arr 75 4 1 [.agg [.p (.str t1.Name), .p (.slc (List.map PV.str t1.Attrs)), .p (.slc (List.map encRow t1.Rows)), .mapo 15 1]]), (15, .map 1 (List.map AV.p (encK encCanonical m131)) (List.map AV.p (encW PV.bool m131))), (32, .arr 52 3 1 (List.map AV.p (List.map encCanonical (o13 ++ o89)))), (192, .arr 75 4 1 [.agg [.p (.str t1.Name), .p (.slc (List.map PV.str t1.Attrs)), .p (.slc (List.map encRow t1.Rows)), .mapo 15 1]]), (202, .arr 52 3 1 [.p (.agg [.int .u32 x16, .int .i64 x124, .int .i64 x135])]), (226, .arr 3 1 1 (List.map AV.p (List.map (PV.int .i64) f116))), (254, .arr 52 3 1 (List.map AV.p (List.map encCanonical o132))), (288, .arr 75 4 1 [.agg [.p (.str t1.Name), .p (.slc (List.map PV.str t1.Attrs)), .p (.slc (List.map encRow t1.Rows)), .mapo 15 1]]), (289, .arr 52 3 1 [.p (.agg [.int .u32 x16, .int .i64 x124, .int .i64 x135])])]⟩
 refine zs (zr ?_)
 refine zU (zl (zn (zs (zr ?_))))
 refine zU (zl (zn (zs (zs (zr ?_)))))
 refine zU (zl (zn ?_))
 rcases zI h with ⟨h145, h⟩ | ⟨h145, h⟩
 refine zj (zk (zn (zs (zr ?_))))
 refine zU (zl (zn (zq ?_)))
 refine inlQ_ret (by simp only [Try.results59]; simp only [go_sem, seval, h134T, h145]; exact rfl) ?_
 refine zU (zl (zn ?_))
 rcases zI h with ⟨h146, h⟩ | ⟨h146, h⟩
 refine zj (zk (zn (zs (zs (zr ?_)))))
 refine zU (zl (zn (zb ?_)))
 obtain ⟨o147, h148, h⟩ := zB h
 refine zO (fun (s : (List (Canonical × Bool)) × Int) => ⟨[(2, .loc 288 1 0 0), (3, .loc 289 1 0 0), (5, .p (.int .u32 s.2))], [(5, .arr 75 4 1 [.agg [.p (.str t1.Name), .p (.slc (List.map PV.str t1.Attrs)), .p (.slc (List.map encRow t1.Rows)), .mapo 15 1]]), (15, .map 1 (List.map AV.p (encK encCanonical s.1)) (List.map AV.p (encW PV.bool s.1))), (32, .arr 52 3 1 (List.map AV.p (List.map encCanonical (o13 ++ o89)))), (192, .arr 75 4 1 [.agg [.p (.str t1.Name), .p (.slc (List.map PV.str t1.Attrs)), .p (.slc (List.map encRow t1.Rows)), .mapo 15 1]]), (202, .arr 52 3 1 [.p (.agg [.int .u32 x16, .int .i64 x124, .int .i64 x135])]), (226, .arr 3 1 1 (List.map AV.p (List.map (PV.int .i64) f116))), (254, .arr 52 3 1 (List.map AV.p (List.map encCanonical o132))), (288, .arr 75 4 1 [.agg [.p (.str t1.Name), .p (.slc (List.map PV.str t1.Attrs)), .p (.slc (List.map encRow t1.Rows)), .mapo 15 1]]), (289, .arr 52 3 1 [.p (.agg [.int .u32 x16, .int .i64 x124, .int .i64 x135])])]⟩) (fun (o : ((List (Canonical × Bool))) ⊕ ((List (Canonical × Bool)))) => match o with | .inl o149 => tE ⟨Try.prog, 32, 286, X, [(5, .arr 75 4 1 [.agg [.p (.str t1.Name), .p (.slc (List.map PV.str t1.Attrs)), .p (.slc (List.map encRow t1.Rows)), .mapo 15 1]]), (15, .map 1 (List.map AV.p (encK encCanonical m131)) (List.map AV.p (encW PV.bool m131))), (32, .arr 52 3 1 (List.map AV.p (List.map encCanonical (o13 ++ o89)))), (192, .arr 75 4 1 [.agg [.p (.str t1.Name), .p (.slc (List.map PV.str t1.Attrs)), .p (.slc (List.map encRow t1.Rows)), .mapo 15 1]]), (202, .arr 52 3 1 [.p (.agg [.int .u32 x16, .int .i64 x124, .int .i64 x135])]), (226, .arr 3 1 1 (List.map AV.p (List.map (PV.int .i64) f116))), (254, .arr 52 3 1 (List.map AV.p (List.map encCanonical o132)))], i141, w142, D⟩ (.exit 0) ⟨[], [(5, .arr 75 4 1 [.agg [.p (.str t1.Name), .p (.slc (List.map PV.str t1.Attrs)), .p (.slc (List.map encRow t1.Rows)), .mapo 15 1]]), (15, .map 1 (List.map AV.p (encK encCanonical o149)) (List.map AV.p (encW PV.bool o149))), (32, .arr 52 3 1 (List.map AV.p (List.map encCanonical (o13 ++ o89)))), (192, .arr 75 4 1 [.agg [.p (.str t1.Name), .p (.slc (List.map PV.str t1.Attrs)), .p (.slc (List.map encRow t1.Rows)), .mapo 15 1]]), (202, .arr 52 3 1 [.p (.agg [.int .u32 x16, .int .i64 x124, .int .i64 x135])]), (226, .arr 3 1 1 (List.map AV.p (List.map (PV.int .i64) f116))), (254, .arr 52 3 1 (List.map AV.p (List.map encCanonical o132)))]⟩ | .inr o150 => tE ⟨Try.prog, 32, 286, X, [(5, .arr 75 4 1 [.agg [.p (.str t1.Name), .p (.slc (List.map PV.str t1.Attrs)), .p (.slc (List.map encRow t1.Rows)), .mapo 15 1]]), (15, .map 1 (List.map AV.p (encK encCanonical m131)) (List.map AV.p (encW PV.bool m131))), (32, .arr 52 3 1 (List.map AV.p (List.map encCanonical (o13 ++ o89)))), (192, .arr 75 4 1 [.agg [.p (.str t1.Name), .p (.slc (List.map PV.str t1.Attrs)), .p (.slc (List.map encRow t1.Rows)), .mapo 15 1]]), (202, .arr 52 3 1 [.p (.agg [.int .u32 x16, .int .i64 x124, .int .i64 x135])]), (226, .arr 3 1 1 (List.map AV.p (List.map (PV.int .i64) f116))), (254, .arr 52 3 1 (List.map AV.p (List.map encCanonical o132)))], i141, w142, D⟩ .ret ⟨[(4, .p (.bool false))], [(5, .arr 75 4 1 [.agg [.p (.str t1.Name), .p (.slc (List.map PV.str t1.Attrs)), .p (.slc (List.map encRow t1.Rows)), .mapo 15 1]]), (15, .map 1 (List.map AV.p (encK encCanonical o150)) (List.map AV.p (encW PV.bool o150))), (32, .arr 52 3 1 (List.map AV.p (List.map encCanonical (o13 ++ o89)))), (192, .arr 75 4 1 [.agg [.p (.str t1.Name), .p (.slc (List.map PV.str t1.Attrs)), .p (.slc (List.map encRow t1.Rows)), .mapo 15 1]]), (202, .arr 52 3 1 [.p (.agg [.int .u32 x16, .int .i64 x124, .int .i64 x135])]), (226, .arr 3 1 1 (List.map AV.p (List.map (PV.int .i64) f116))), (254, .arr 52 3 1 (List.map AV.p (List.map encCanonical o132)))]⟩) h148 ?_ ?_
 clear h h134 h134T h136 h136a h136b h137 h137n h137N h145 h146 h148
 intro s x h
 obtain ⟨m151, r152⟩ := s
 simp only [odmine_All_l198] at h
 dsimp only
 refine zs (zs (zr ?_))
 refine zU (zl (zn ?_))
 rcases zI h with ⟨h153, h⟩ | ⟨h153, h⟩
 refine zi (zk (zn ?_))
 obtain ⟨o154, h155, h⟩ := zB h
 refine zJ (fun (o : ((List (Canonical × Bool))) ⊕ ((List (Canonical × Bool)))) => match o with | .inl o156 => tE ⟨Try.prog, 32, 286, X, [(5, .arr 75 4 1 [.agg [.p (.str t1.Name), .p (.slc (List.map PV.str t1.Attrs)), .p (.slc (List.map encRow t1.Rows)), .mapo 15 1]]), (15, .map 1 (List.map AV.p (encK encCanonical m131)) (List.map AV.p (encW PV.bool m131))), (32, .arr 52 3 1 (List.map AV.p (List.map encCanonical (o13 ++ o89)))), (192, .arr 75 4 1 [.agg [.p (.str t1.Name), .p (.slc (List.map PV.str t1.Attrs)), .p (.slc (List.map encRow t1.Rows)), .mapo 15 1]]), (202, .arr 52 3 1 [.p (.agg [.int .u32 x16, .int .i64 x124, .int .i64 x135])]), (226, .arr 3 1 1 (List.map AV.p (List.map (PV.int .i64) f116))), (254, .arr 52 3 1 (List.map AV.p (List.map encCanonical o132)))], i141, w142, D⟩ .normal ⟨[(2, .loc 288 1 0 0), (3, .loc 289 1 0 0), (5, .p (.int .u32 r152))], [(5, .arr 75 4 1 [.agg [.p (.str t1.Name), .p (.slc (List.map PV.str t1.Attrs)), .p (.slc (List.map encRow t1.Rows)), .mapo 15 1]]), (15, .map 1 (List.map AV.p (encK encCanonical o156)) (List.map AV.p (encW PV.bool o156))), (32, .arr 52 3 1 (List.map AV.p (List.map encCanonical (o13 ++ o89)))), (192, .arr 75 4 1 [.agg [.p (.str t1.Name), .p (.slc (List.map PV.str t1.Attrs)), .p (.slc (List.map encRow t1.Rows)), .mapo 15 1]]), (202, .arr 52 3 1 [.p (.agg [.int .u32 x16, .int .i64 x124, .int .i64 x135])]), (226, .arr 3 1 1 (List.map AV.p (List.map (PV.int .i64) f116))), (254, .arr 52 3 1 (List.map AV.p (List.map encCanonical o132))), (288, .arr 75 4 1 [.agg [.p (.str t1.Name), .p (.slc (List.map PV.str t1.Attrs)), .p (.slc (List.map encRow t1.Rows)), .mapo 15 1]]), (289, .arr 52 3 1 [.p (.agg [.int .u32 x16, .int .i64 x124, .int .i64 x135])])]⟩ | .inr o157 => tE ⟨Try.prog, 32, 286, X, [(5, .arr 75 4 1 [.agg [.p (.str t1.Name), .p (.slc (List.map PV.str t1.Attrs)), .p (.slc (List.map encRow t1.Rows)), .mapo 15 1]]), (15, .map 1 (List.map AV.p (encK encCanonical m131)) (List.map AV.p (encW PV.bool m131))), (32, .arr 52 3 1 (List.map AV.p (List.map encCanonical (o13 ++ o89)))), (192, .arr 75 4 1 [.agg [.p (.str t1.Name), .p (.slc (List.map PV.str t1.Attrs)), .p (.slc (List.map encRow t1.Rows)), .mapo 15 1]]), (202, .arr 52 3 1 [.p (.agg [.int .u32 x16, .int .i64 x124, .int .i64 x135])]), (226, .arr 3 1 1 (List.map AV.p (List.map (PV.int .i64) f116))), (254, .arr 52 3 1 (List.map AV.p (List.map encCanonical o132)))], i141, w142, D⟩ .ret ⟨[(4, .p (.bool false))], [(5, .arr 75 4 1 [.agg [.p (.str t1.Name), .p (.slc (List.map PV.str t1.Attrs)), .p (.slc (List.map encRow t1.Rows)), .mapo 15 1]]), (15, .map 1 (List.map AV.p (encK encCanonical o157)) (List.map AV.p (encW PV.bool o157))), (32, .arr 52 3 1 (List.map AV.p (List.map encCanonical (o13 ++ o89)))), (192, .arr 75 4 1 [.agg [.p (.str t1.Name), .p (.slc (List.map PV.str t1.Attrs)), .p (.slc (List.map encRow t1.Rows)), .mapo 15 1]]), (202, .arr 52 3 1 [.p (.agg [.int .u32 x16, .int .i64 x124, .int .i64 x135])]), (226, .arr 3 1 1 (List.map AV.p (List.map (PV.int .i64) f116))), (254, .arr 52 3 1 (List.map AV.p (List.map encCanonical o132)))]⟩) o154 ?_ ?_
 replace h := h155
 clear h155
 refine zb (zs (zr ?_))
 refine zU ?_
 refine zM ⟨[(2, .loc 288 1 0 0), (3, .loc 289 1 0 0), (5, .p (.int .u32 r152)), (18, .agg [.p (.str t1.Name), .p (.slc (List.map PV.str t1.Attrs)), .p (.slc (List.map encRow t1.Rows)), .mapo 15 1]), (30, .p (.agg [.int .u32 (IntKind.u32.wrap ((BitVec.ofInt 32 x16 &&& ~~~ (BitVec.ofInt 32 (IntKind.u32.wrap ((BitVec.ofInt 32 r152 &&& (BitVec.ofInt 32 (IntKind.u32.wrap (0 - r152)))).toNat : Int)))).toNat : Int)), .int .i64 x124, .int .i64 x135]))], [(5, .arr 75 4 1 [.agg [.p (.str t1.Name), .p (.slc (List.map PV.str t1.Attrs)), .p (.slc (List.map encRow t1.Rows)), .mapo 15 1]]), (15, .map 1 (List.map AV.p (encK encCanonical m151)) (List.map AV.p (encW PV.bool m151))), (32, .arr 52 3 1 (List.map AV.p (List.map encCanonical (o13 ++ o89)))), (192, .arr 75 4 1 [.agg [.p (.str t1.Name), .p (.slc (List.map PV.str t1.Attrs)), .p (.slc (List.map encRow t1.Rows)), .mapo 15 1]]), (202, .arr 52 3 1 [.p (.agg [.int .u32 x16, .int .i64 x124, .int .i64 x135])]), (226, .arr 3 1 1 (List.map AV.p (List.map (PV.int .i64) f116))), (254, .arr 52 3 1 (List.map AV.p (List.map encCanonical o132))), (288, .arr 75 4 1 [.agg [.p (.str t1.Name), .p (.slc (List.map PV.str t1.Attrs)), .p (.slc (List.map encRow t1.Rows)), .mapo 15 1]]), (289, .arr 52 3 1 [.p (.agg [.int .u32 x16, .int .i64 x124, .int .i64 x135])])]⟩ ?_
 refine AL_inline (avs := [.agg [.p (.str t1.Name), .p (.slc (List.map PV.str t1.Attrs)), .p (.slc (List.map encRow t1.Rows)), .mapo 15 1], .p (.agg [.int .u32 (IntKind.u32.wrap ((BitVec.ofInt 32 x16 &&& ~~~ (BitVec.ofInt 32 (IntKind.u32.wrap ((BitVec.ofInt 32 r152 &&& (BitVec.ofInt 32 (IntKind.u32.wrap (0 - r152)))).toNat : Int)))).toNat : Int)), .int .i64 x124, .int .i64 x135])]) 346 rfl (guard_none rfl) rfl Try.func59 rfl Try.call59 Try.ntmps59 (by simp) (by simp only [go_sem, seval, h153]; all_goals rfl) ?_
 intro i158 w159
 show AWp _ _ _ ⟨[(0, .agg [.p (.str t1.Name), .p (.slc (List.map PV.str t1.Attrs)), .p (.slc (List.map encRow t1.Rows)), .mapo 15 1]), (1, .p (.agg [.int .u32 (IntKind.u32.wrap ((BitVec.ofInt 32 x16 &&& ~~~ (BitVec.ofInt 32 (IntKind.u32.wrap ((BitVec.ofInt 32 r152 &&& (BitVec.ofInt 32 (IntKind.u32.wrap (0 - r152)))).toNat : Int)))).toNat : Int)), .int .i64 x124, .int .i64 x135]))], [(5, .arr 75 4 1 [.agg [.p (.str t1.Name), .p (.slc (List.map PV.str t1.Attrs)), .p (.slc (List.map encRow t1.Rows)), .mapo 15 1]]), (15, .map 1 (List.map AV.p (encK encCanonical m151)) (List.map AV.p (encW PV.bool m151))), (32, .arr 52 3 1 (List.map AV.p (List.map encCanonical (o13 ++ o89)))), (192, .arr 75 4 1 [.agg [.p (.str t1.Name), .p (.slc (List.map PV.str t1.Attrs)), .p (.slc (List.map encRow t1.Rows)), .mapo 15 1]]), (202, .arr 52 3 1 [.p (.agg [.int .u32 x16, .int .i64 x124, .int .i64 x135])]), (226, .arr 3 1 1 (List.map AV.p (List.map (PV.int .i64) f116))), (254, .arr 52 3 1 (List.map AV.p (List.map encCanonical o132))), (288, .arr 75 4 1 [.agg [.p (.str t1.Name), .p (.slc (List.map PV.str t1.Attrs)), .p (.slc (List.map encRow t1.Rows)), .mapo 15 1]]), (289, .arr 52 3 1 [.p (.agg [.int .u32 x16, .int .i64 x124, .int .i64 x135])])]⟩
 refine zs (zr ?_)
 refine zU (zl (zn (zs (zr ?_))))
 refine zU (zl (zn (zs (zs (zr ?_)))))
 refine zU (zl (zn ?_))
 rcases zI h with ⟨h160, h⟩ | ⟨h160, h⟩
 refine zj (zk (zn (zs (zr ?_))))
 refine zU (zl (zn (zq ?_)))
 refine inlQ_ret (by simp only [Try.results59]; simp only [go_sem, seval, h153, h160]; exact rfl) ?_
 refine zl (zn ?_)
 rcases zI h with ⟨h161, h⟩ | ⟨h161, h⟩
 refine zi (zs (zr ?_))
 refine zU (zl (zn (zq (yr ?_))))
 cases h
 exact ⟨rfl, zE⟩
 refine zj (zk (yn ?_))
 cases h
 exact ⟨rfl, zE⟩
 have h160F := Bool.eq_false_iff.2 h160
 refine zi (zs (zr ?_))
 refine zU ?_
 obtain ⟨r162, h163, h⟩ := zB h
 refine zc (ordering_Satisfies_con t1 (Canonical.mk (IntKind.u32.wrap ((BitVec.ofInt 32 x16 &&& ~~~ (BitVec.ofInt 32 (IntKind.u32.wrap ((BitVec.ofInt 32 r152 &&& (BitVec.ofInt 32 (IntKind.u32.wrap (0 - r152)))).toNat : Int)))).toNat : Int)) x124 x135) _ h163) ?_
 refine zU (zl (zn (zr ?_)))
 refine zU (zl (zn (zs (zr ?_))))
 refine zU (zl (zn (zq ?_)))
 refine inlQ_ret (by simp only [Try.results59]; simp only [go_sem, seval, h153, h160F]; exact rfl) ?_
 refine zl (zn ?_)
 rcases zI h with ⟨h164, h⟩ | ⟨h164, h⟩
 refine zi (zs (zr ?_))
 refine zU (zl (zn (zq (yr ?_))))
 cases h
 exact ⟨rfl, zE⟩
 refine zj (zk (yn ?_))
 cases h
 exact ⟨rfl, zE⟩
 rcases o154 with m165 | r166
 try simp only at h
 refine zA (zn (zr ?_))
 refine zU (zl ?_)
 cases h
 exact ⟨rfl, zE⟩
 try simp only at h
 refine zA (zt ?_)
 cases h
 exact ⟨rfl, zE⟩
 refine zj (zx (ze ?_))
 cases h
 exact ⟨rfl, zE⟩
 rcases o147 with r167 | r168
 try simp only at h
 refine zA (yh (zn (zs (zr ?_))))
 refine zU (zl (zn (zq ?_)))
 refine inlQ_ret (by simp only [Try.results58]; simp only [go_sem, seval, h134T, h145, h146]; exact rfl) ?_
 refine zl ?_
 cases h
 exact ⟨rfl, zE⟩
 try simp only at h
 refine zA (yr (zt ?_))
 refine inlQ_ret (by simp only [Try.results58]; simp only [go_sem, seval, h134T, h145, h146]; exact rfl) ?_
 refine zl ?_
 cases h
 exact ⟨rfl, zE⟩
 have h146F := Bool.eq_false_iff.2 h146
 refine zi (zs (zr ?_))
 refine zU (zl (zn (zq (zt ?_))))
 refine inlQ_ret (by simp only [Try.results58]; simp only [go_sem, seval, h134T, h145, h146F]; exact rfl) ?_
 refine zl ?_
 cases h
 exact ⟨rfl, zE⟩
 have h145F := Bool.eq_false_iff.2 h145
 refine zi (zs (zr ?_))
 refine zU ?_
 obtain ⟨r169, h170, h⟩ := zB h
 refine zc (ordering_Satisfies_con t1 (Canonical.mk x16 x124 x135) _ h170) ?_
 refine zU (zl (zn (zr ?_)))
 refine zU (zl (zn (zs (zr ?_))))
 refine zU (zl (zn (zq ?_)))
 refine inlQ_ret (by simp only [Try.results59]; simp only [go_sem, seval, h134T, h145F]; exact rfl) ?_
 refine zU (zl (zn ?_))
 rcases zI h with ⟨h171, h⟩ | ⟨h171, h⟩
 refine zj (zk (zn (zs (zs (zr ?_)))))
 refine zU (zl (zn (zb ?_)))
 obtain ⟨o172, h173, h⟩ := zB h
 refine zO (fun (s : (List (Canonical × Bool)) × Int) => ⟨[(2, .loc 288 1 0 0), (3, .loc 289 1 0 0), (5, .p (.int .u32 s.2))], [(5, .arr 75 4 1 [.agg [.p (.str t1.Name), .p (.slc (List.map PV.str t1.Attrs)), .p (.slc (List.map encRow t1.Rows)), .mapo 15 1]]), (15, .map 1 (List.map AV.p (encK encCanonical s.1)) (List.map AV.p (encW PV.bool s.1))), (32, .arr 52 3 1 (List.map AV.p (List.map encCanonical (o13 ++ o89)))), (192, .arr 75 4 1 [.agg [.p (.str t1.Name), .p (.slc (List.map PV.str t1.Attrs)), .p (.slc (List.map encRow t1.Rows)), .mapo 15 1]]), (202, .arr 52 3 1 [.p (.agg [.int .u32 x16, .int .i64 x124, .int .i64 x135])]), (226, .arr 3 1 1 (List.map AV.p (List.map (PV.int .i64) f116))), (254, .arr 52 3 1 (List.map AV.p (List.map encCanonical o132))), (288, .arr 75 4 1 [.agg [.p (.str t1.Name), .p (.slc (List.map PV.str t1.Attrs)), .p (.slc (List.map encRow t1.Rows)), .mapo 15 1]]), (289, .arr 52 3 1 [.p (.agg [.int .u32 x16, .int .i64 x124, .int .i64 x135])])]⟩) (fun (o : ((List (Canonical × Bool))) ⊕ ((List (Canonical × Bool)))) => match o with | .inl o174 => tE ⟨Try.prog, 32, 286, X, [(5, .arr 75 4 1 [.agg [.p (.str t1.Name), .p (.slc (List.map PV.str t1.Attrs)), .p (.slc (List.map encRow t1.Rows)), .mapo 15 1]]), (15, .map 1 (List.map AV.p (encK encCanonical m131)) (List.map AV.p (encW PV.bool m131))), (32, .arr 52 3 1 (List.map AV.p (List.map encCanonical (o13 ++ o89)))), (192, .arr 75 4 1 [.agg [.p (.str t1.Name), .p (.slc (List.map PV.str t1.Attrs)), .p (.slc (List.map encRow t1.Rows)), .mapo 15 1]]), (202, .arr 52 3 1 [.p (.agg [.int .u32 x16, .int .i64 x124, .int .i64 x135])]), (226, .arr 3 1 1 (List.map AV.p (List.map (PV.int .i64) f116))), (254, .arr 52 3 1 (List.map AV.p (List.map encCanonical o132)))], i141, w142, D⟩ (.exit 0) ⟨[], [(5, .arr 75 4 1 [.agg [.p (.str t1.Name), .p (.slc (List.map PV.str t1.Attrs)), .p (.slc (List.map encRow t1.Rows)), .mapo 15 1]]), (15, .map 1 (List.map AV.p (encK encCanonical o174)) (List.map AV.p (encW PV.bool o174))), (32, .arr 52 3 1 (List.map AV.p (List.map encCanonical (o13 ++ o89)))), (192, .arr 75 4 1 [.agg [.p (.str t1.Name), .p (.slc (List.map PV.str t1.Attrs)), .p (.slc (List.map encRow t1.Rows)), .mapo 15 1]]), (202, .arr 52 3 1 [.p (.agg [.int .u32 x16, .int .i64 x124, .int .i64 x135])]), (226, .arr 3 1 1 (List.map AV.p (List.map (PV.int .i64) f116))), (254, .arr 52 3 1 (List.map AV.p (List.map encCanonical o132)))]⟩ | .inr o175 => tE ⟨Try.prog, 32, 286, X, [(5, .arr 75 4 1 [.agg [.p (.str t1.Name), .p (.slc (List.map PV.str t1.Attrs)), .p (.slc (List.map encRow t1.Rows)), .mapo 15 1]]), (15, .map 1 (List.map AV.p (encK encCanonical m131)) (List.map AV.p (encW PV.bool m131))), (32, .arr 52 3 1 (List.map AV.p (List.map encCanonical (o13 ++ o89)))), (192, .arr 75 4 1 [.agg [.p (.str t1.Name), .p (.slc (List.map PV.str t1.Attrs)), .p (.slc (List.map encRow t1.Rows)), .mapo 15 1]]), (202, .arr 52 3 1 [.p (.agg [.int .u32 x16, .int .i64 x124, .int .i64 x135])]), (226, .arr 3 1 1 (List.map AV.p (List.map (PV.int .i64) f116))), (254, .arr 52 3 1 (List.map AV.p (List.map encCanonical o132)))], i141, w142, D⟩ .ret ⟨[(4, .p (.bool false))], [(5, .arr 75 4 1 [.agg [.p (.str t1.Name), .p (.slc (List.map PV.str t1.Attrs)), .p (.slc (List.map encRow t1.Rows)), .mapo 15 1]]), (15, .map 1 (List.map AV.p (encK encCanonical o175)) (List.map AV.p (encW PV.bool o175))), (32, .arr 52 3 1 (List.map AV.p (List.map encCanonical (o13 ++ o89)))), (192, .arr 75 4 1 [.agg [.p (.str t1.Name), .p (.slc (List.map PV.str t1.Attrs)), .p (.slc (List.map encRow t1.Rows)), .mapo 15 1]]), (202, .arr 52 3 1 [.p (.agg [.int .u32 x16, .int .i64 x124, .int .i64 x135])]), (226, .arr 3 1 1 (List.map AV.p (List.map (PV.int .i64) f116))), (254, .arr 52 3 1 (List.map AV.p (List.map encCanonical o132)))]⟩) h173 ?_ ?_
 clear h h134 h134T h136 h136a h136b h137 h137n h137N h145 h145F h170 h171 h173
 intro s x h
 obtain ⟨m176, r177⟩ := s
 simp only [odmine_All_l199] at h
 dsimp only
 refine zs (zs (zr ?_))
 refine zU (zl (zn ?_))
 rcases zI h with ⟨h178, h⟩ | ⟨h178, h⟩
 refine zi (zk (zn ?_))
 obtain ⟨o179, h180, h⟩ := zB h
 refine zJ (fun (o : ((List (Canonical × Bool))) ⊕ ((List (Canonical × Bool)))) => match o with | .inl o181 => tE ⟨Try.prog, 32, 286, X, [(5, .arr 75 4 1 [.agg [.p (.str t1.Name), .p (.slc (List.map PV.str t1.Attrs)), .p (.slc (List.map encRow t1.Rows)), .mapo 15 1]]), (15, .map 1 (List.map AV.p (encK encCanonical m131)) (List.map AV.p (encW PV.bool m131))), (32, .arr 52 3 1 (List.map AV.p (List.map encCanonical (o13 ++ o89)))), (192, .arr 75 4 1 [.agg [.p (.str t1.Name), .p (.slc (List.map PV.str t1.Attrs)), .p (.slc (List.map encRow t1.Rows)), .mapo 15 1]]), (202, .arr 52 3 1 [.p (.agg [.int .u32 x16, .int .i64 x124, .int .i64 x135])]), (226, .arr 3 1 1 (List.map AV.p (List.map (PV.int .i64) f116))), (254, .arr 52 3 1 (List.map AV.p (List.map encCanonical o132)))], i141, w142, D⟩ .normal ⟨[(2, .loc 288 1 0 0), (3, .loc 289 1 0 0), (5, .p (.int .u32 r177))], [(5, .arr 75 4 1 [.agg [.p (.str t1.Name), .p (.slc (List.map PV.str t1.Attrs)), .p (.slc (List.map encRow t1.Rows)), .mapo 15 1]]), (15, .map 1 (List.map AV.p (encK encCanonical o181)) (List.map AV.p (encW PV.bool o181))), (32, .arr 52 3 1 (List.map AV.p (List.map encCanonical (o13 ++ o89)))), (192, .arr 75 4 1 [.agg [.p (.str t1.Name), .p (.slc (List.map PV.str t1.Attrs)), .p (.slc (List.map encRow t1.Rows)), .mapo 15 1]]), (202, .arr 52 3 1 [.p (.agg [.int .u32 x16, .int .i64 x124, .int .i64 x135])]), (226, .arr 3 1 1 (List.map AV.p (List.map (PV.int .i64) f116))), (254, .arr 52 3 1 (List.map AV.p (List.map encCanonical o132))), (288, .arr 75 4 1 [.agg [.p (.str t1.Name), .p (.slc (List.map PV.str t1.Attrs)), .p (.slc (List.map encRow t1.Rows)), .mapo 15 1]]), (289, .arr 52 3 1 [.p (.agg [.int .u32 x16, .int .i64 x124, .int .i64 x135])])]⟩ | .inr o182 => tE ⟨Try.prog, 32, 286, X, [(5, .arr 75 4 1 [.agg [.p (.str t1.Name), .p (.slc (List.map PV.str t1.Attrs)), .p (.slc (List.map encRow t1.Rows)), .mapo 15 1]]), (15, .map 1 (List.map AV.p (encK encCanonical m131)) (List.map AV.p (encW PV.bool m131))), (32, .arr 52 3 1 (List.map AV.p (List.map encCanonical (o13 ++ o89)))), (192, .arr 75 4 1 [.agg [.p (.str t1.Name), .p (.slc (List.map PV.str t1.Attrs)), .p (.slc (List.map encRow t1.Rows)), .mapo 15 1]]), (202, .arr 52 3 1 [.p (.agg [.int .u32 x16, .int .i64 x124, .int .i64 x135])]), (226, .arr 3 1 1 (List.map AV.p (List.map (PV.int .i64) f116))), (254, .arr 52 3 1 (List.map AV.p (List.map encCanonical o132)))], i141, w142, D⟩ .ret ⟨[(4, .p (.bool false))], [(5, .arr 75 4 1 [.agg [.p (.str t1.Name), .p (.slc (List.map PV.str t1.Attrs)), .p (.slc (List.map encRow t1.Rows)), .mapo 15 1]]), (15, .map 1 (List.map AV.p (encK encCanonical o182)) (List.map AV.p (encW PV.bool o182))), (32, .arr 52 3 1 (List.map AV.p (List.map encCanonical (o13 ++ o89)))), (192, .arr 75 4 1 [.agg [.p (.str t1.Name), .p (.slc (List.map PV.str t1.Attrs)), .p (.slc (List.map encRow t1.Rows)), .mapo 15 1]]), (202, .arr 52 3 1 [.p (.agg [.int .u32 x16, .int .i64 x124, .int .i64 x135])]), (226, .arr 3 1 1 (List.map AV.p (List.map (PV.int .i64) f116))), (254, .arr 52 3 1 (List.map AV.p (List.map encCanonical o132)))]⟩) o179 ?_ ?_
 replace h := h180
 clear h180
 refine zb (zs (zr ?_))
 refine zU ?_
 refine zM ⟨[(2, .loc 288 1 0 0), (3, .loc 289 1 0 0), (5, .p (.int .u32 r177)), (18, .agg [.p (.str t1.Name), .p (.slc (List.map PV.str t1.Attrs)), .p (.slc (List.map encRow t1.Rows)), .mapo 15 1]), (30, .p (.agg [.int .u32 (IntKind.u32.wrap ((BitVec.ofInt 32 x16 &&& ~~~ (BitVec.ofInt 32 (IntKind.u32.wrap ((BitVec.ofInt 32 r177 &&& (BitVec.ofInt 32 (IntKind.u32.wrap (0 - r177)))).toNat : Int)))).toNat : Int)), .int .i64 x124, .int .i64 x135]))], [(5, .arr 75 4 1 [.agg [.p (.str t1.Name), .p (.slc (List.map PV.str t1.Attrs)), .p (.slc (List.map encRow t1.Rows)), .mapo 15 1]]), (15, .map 1 (List.map AV.p (encK encCanonical m176)) (List.map AV.p (encW PV.bool m176))), (32, .arr 52 3 1 (List.map AV.p (List.map encCanonical (o13 ++ o89)))), (192, .arr 75 4 1 [.agg [.p (.str t1.Name), .p (.slc (List.map PV.str t1.Attrs)), .p (.slc (List.map encRow t1.Rows)), .mapo 15 1]]), (202, .arr 52 3 1 [.p (.agg [.int .u32 x16, .int .i64 x124, .int .i64 x135])]), (226, .arr 3 1 1 (List.map AV.p (List.map (PV.int .i64) f116))), (254, .arr 52 3 1 (List.map AV.p (List.map encCanonical o132))), (288, .arr 75 4 1 [.agg [.p (.str t1.Name), .p (.slc (List.map PV.str t1.Attrs)), .p (.slc (List.map encRow t1.Rows)), .mapo 15 1]]), (289, .arr 52 3 1 [.p (.agg [.int .u32 x16, .int .i64 x124, .int .i64 x135])])]⟩ ?_
 refine AL_inline (avs := [.agg [.p (.str t1.Name), .p (.slc (List.map PV.str t1.Attrs)), .p (.slc (List.map encRow t1.Rows)), .mapo 15 1], .p (.agg [.int .u32 (IntKind.u32.wrap ((BitVec.ofInt 32 x16 &&& ~~~ (BitVec.ofInt 32 (IntKind.u32.wrap ((BitVec.ofInt 32 r177 &&& (BitVec.ofInt 32 (IntKind.u32.wrap (0 - r177)))).toNat : Int)))).toNat : Int)), .int .i64 x124, .int .i64 x135])]) 374 rfl (guard_none rfl) rfl Try.func59 rfl Try.call59 Try.ntmps59 (by simp) (by simp only [go_sem, seval, h178]; all_goals rfl) ?_
 intro i183 w184
 show AWp _ _ _ ⟨[(0, .agg [.p (.str t1.Name), .p (.slc (List.map PV.str t1.Attrs)), .p (.slc (List.map encRow t1.Rows)), .mapo 15 1]), (1, .p (.agg [.int .u32 (IntKind.u32.wrap ((BitVec.ofInt 32 x16 &&& ~~~ (BitVec.ofInt 32 (IntKind.u32.wrap ((BitVec.ofInt 32 r177 &&& (BitVec.ofInt 32 (IntKind.u32.wrap (0 - r177)))).toNat : Int)))).toNat : Int)), .int .i64 x124, .int .i64 x135]))], [(5, .arr 75 4 1 [.agg [.p (.str t1.Name), .p (.slc (List.map PV.str t1.Attrs)), .p (.slc (List.map encRow t1.Rows)), .mapo 15 1]]), (15, .map 1 (List.map AV.p (encK encCanonical m176)) (List.map AV.p (encW PV.bool m176))), (32, .arr 52 3 1 (List.map AV.p (List.map encCanonical (o13 ++ o89)))), (192, .arr 75 4 1 [.agg [.p (.str t1.Name), .p (.slc (List.map PV.str t1.Attrs)), .p (.slc (List.map encRow t1.Rows)), .mapo 15 1]]), (202, .arr 52 3 1 [.p (.agg [.int .u32 x16, .int .i64 x124, .int .i64 x135])]), (226, .arr 3 1 1 (List.map AV.p (List.map (PV.int .i64) f116))), (254, .arr 52 3 1 (List.map AV.p (List.map encCanonical o132))), (288, .arr 75 4 1 [.agg [.p (.str t1.Name), .p (.slc (List.map PV.str t1.Attrs)), .p (.slc (List.map encRow t1.Rows)), .mapo 15 1]]), (289, .arr 52 3 1 [.p (.agg [.int .u32 x16, .int .i64 x124, .int .i64 x135])])]⟩
 refine zs (zr ?_)
 refine zU (zl (zn (zs (zr ?_))))
 refine zU (zl (zn (zs (zs (zr ?_)))))
 refine zU (zl (zn ?_))
 rcases zI h with ⟨h185, h⟩ | ⟨h185, h⟩
 refine zj (zk (zn (zs (zr ?_))))
 refine zU (zl (zn (zq ?_)))
 refine inlQ_ret (by simp only [Try.results59]; simp only [go_sem, seval, h178, h185]; exact rfl) ?_
 refine zl (zn ?_)
 rcases zI h with ⟨h186, h⟩ | ⟨h186, h⟩
 refine zi (zs (zr ?_))
 refine zU (zl (zn (zq (yr ?_))))
 cases h
 exact ⟨rfl, zE⟩
 refine zj (zk (yn ?_))
 cases h
 exact ⟨rfl, zE⟩
 have h185F := Bool.eq_false_iff.2 h185
 refine zi (zs (zr ?_))
 refine zU ?_
 obtain ⟨r187, h188, h⟩ := zB h
 refine zc (ordering_Satisfies_con t1 (Canonical.mk (IntKind.u32.wrap ((BitVec.ofInt 32 x16 &&& ~~~ (BitVec.ofInt 32 (IntKind.u32.wrap ((BitVec.ofInt 32 r177 &&& (BitVec.ofInt 32 (IntKind.u32.wrap (0 - r177)))).toNat : Int)))).toNat : Int)) x124 x135) _ h188) ?_
 refine zU (zl (zn (zr ?_)))
 refine zU (zl (zn (zs (zr ?_))))
 refine zU (zl (zn (zq ?_)))
 refine inlQ_ret (by simp only [Try.results59]; simp only [go_sem, seval, h178, h185F]; exact rfl) ?_
 refine zl (zn ?_)
 rcases zI h with ⟨h189, h⟩ | ⟨h189, h⟩
 refine zi (zs (zr ?_))
 refine zU (zl (zn (zq (yr ?_))))
 cases h
 exact ⟨rfl, zE⟩
 refine zj (zk (yn ?_))
 cases h
 exact ⟨rfl, zE⟩
 rcases o179 with m190 | r191
 try simp only at h
 refine zA (zn (zr ?_))
 refine zU (zl ?_)
 cases h
 exact ⟨rfl, zE⟩
 try simp only at h
 refine zA (zt ?_)
 cases h
 exact ⟨rfl, zE⟩
 refine zj (zx (ze ?_))
 cases h
 exact ⟨rfl, zE⟩
 rcases o172 with r192 | r193
 try simp only at h
 refine zA (yh (zn (zs (zr ?_))))
 refine zU (zl (zn (zq ?_)))
 refine inlQ_ret (by simp only [Try.results58]; simp only [go_sem, seval, h134T, h145F, h171]; exact rfl) ?_
 refine zl ?_
 cases h
 exact ⟨rfl, zE⟩
 try simp only at h
 refine zA (yr (zt ?_))
 refine inlQ_ret (by simp only [Try.results58]; simp only [go_sem, seval, h134T, h145F, h171]; exact rfl) ?_
 refine zl ?_
 cases h
 exact ⟨rfl, zE⟩
 have h171F := Bool.eq_false_iff.2 h171
 refine zi (zs (zr ?_))
 refine zU (zl (zn (zq (zt ?_))))
 refine inlQ_ret (by simp only [Try.results58]; simp only [go_sem, seval, h134T, h145F, h171F]; exact rfl) ?_
 refine zl ?_
 cases h
 exact ⟨rfl, zE⟩
 obtain ⟨m194, t195⟩ := o138
 try simp only at h
 refine zA (zn ?_)
 rcases zI h with ⟨h196, h⟩ | ⟨h196, h⟩
 refine zi (zr ?_)
 obtain ⟨h197, h⟩ := ite_some h
 refine zU (zl (yn (zn (zr ?_))))
 refine zU (zl ?_)
 cases h
 exact ⟨rfl, zE⟩
 refine zj (zk (yn (zn (zr ?_))))
 refine zU (zl ?_)
 cases h
 exact ⟨rfl, zE⟩
 have h134T := eq_false h134
 refine zj (zx (ze ?_))
 cases h
 exact ⟨rfl, zE⟩
 obtain ⟨m198, o199⟩ := o128
 try simp only at h
 refine zA (yh (yn (zn (zr ?_))))
 refine zU (zl ?_)
 cases h
 exact ⟨rfl, zE⟩
 refine zj (zx (ze ?_))
 cases h
 exact ⟨rfl, zE⟩
 obtain ⟨o200, f201⟩ := o117
 try simp only at h
 refine zA (yh (zn (zs (zr ?_))))
 refine zU (zl (zn (zq ?_)))
 refine inlQ_ret (by simp only [Try.results43]; simp only [go_sem, seval, h15T]; exact rfl) ?_
 obtain ⟨h202, h⟩ := ite_some h
 refine zU (zl (yn (zn (zr ?_))))
 refine zU (zl ?_)
 cases h
 exact ⟨rfl, zE⟩
 have h15T := eq_false h15
 refine zj (zx (ze ?_))
 cases h
 exact ⟨rfl, zE⟩
 try simp only at h
 refine zA (yh (zn (zs (zr ?_))))
 refine zU (zl (zn (zq ?_)))
 cases h
 exact zT Try.results22
end Go.Proofs.Ythgnkhchpjcboaa
set_option linter.unusedVariables false
set_option linter.unusedSimpArgs false
namespace Go.Proofs.Ythgnkhchpjcboaa
open Go Go.Ab
set_option maxHeartbeats 4000000 in
theorem drosslaw31_example_1_con {D : Prop} (i1 : Int) (l2 : List Int) (r3 : Row) (h : drosslaw31_example_1 i1 l2 = some r3) : Con D Try.prog 44 [(.int .i64 i1), (.slc (List.map (PV.int .i64) l2))] (encRow r3) := by
 refine zP Try.call44 Try.func44 rfl Try.ntmps44 fun X w => ?_
 simp only [drosslaw31_example_1] at h
 refine zs (zr ?_)
 refine zU (zl (zn (zs (zr ?_))))
 refine zU (zl (zn (zs (zs (zr ?_)))))
 refine zU (zl (zn (zb ?_)))
 obtain ⟨r4, h5, h⟩ := zB h
 refine zO (fun (s : List Value × Int) => ⟨[(4, .loc 4 1 0 0), (5, .loc 5 1 0 0), (10, .p (.slc (List.map (PV.int .i64) l2))), (11, .p (.int .i64 (l2.length : Int))), (12, .p (.int .i64 s.2))], [(4, .arr 43 2 1 [.agg [.p (.int .i64 0), .nils]]), (5, .arr 43 2 1 [.agg [.p (.int .i64 i1), .own 21 1 0 s.1.length]]), (21, .arr 81 3 1 (List.map AV.p (List.map encValue s.1)))]⟩) (fun (o6 : List Value) => tE (cX Try.f44 X w D) (.exit 0) ⟨[(4, .loc 4 1 0 0), (5, .loc 5 1 0 0)], [(4, .arr 43 2 1 [.agg [.p (.int .i64 0), .nils]]), (5, .arr 43 2 1 [.agg [.p (.int .i64 i1), .own 21 1 0 o6.length]]), (21, .arr 81 3 1 (List.map AV.p (List.map encValue o6)))]⟩) h5 ?_ ?_
 clear h h5
 intro s x h
 obtain ⟨r7, t8⟩ := s
 simp only [drosslaw31_example_1_l1] at h
 dsimp only
 refine zs (zr ?_)
 refine zU (zl (zn (zs ?_)))
 rcases zI h with ⟨h9, h⟩ | ⟨h9, h⟩
 refine zi (zk (zn (zs (zb (zs (zr ?_))))))
 obtain ⟨x10, h11, h11a, h11b, h⟩ := zX h
 refine zU (zl (zn (zr ?_)))
 obtain ⟨h12, h⟩ := ite_some h
 refine zU (zl (yn (zn (zr ?_))))
 refine zU (zl ?_)
 cases h
 exact ⟨rfl, zE⟩
 refine zj (zx (ze ?_))
 cases h
 exact ⟨rfl, zE⟩
 try simp only at h
 refine zA (yh (zn (zs (zr ?_))))
 refine zU (zl (zn (zq ?_)))
 cases h
 exact zT Try.results44
end Go.Proofs.Ythgnkhchpjcboaa
set_option linter.unusedVariables false
set_option linter.unusedSimpArgs false
namespace Go.Proofs.Ythgnkhchpjcboaa
open Go Go.Ab
set_option maxHeartbeats 4000000 in
theorem drosslaw31_example_con {D : Prop} (r1 : Table) (h : drosslaw31_example = some r1) : Con D Try.prog 23 [] (encTable r1) := by
 refine zP Try.call23 Try.func23 rfl Try.ntmps23 fun X w => ?_
 simp only [drosslaw31_example] at h
 refine zs (zr ?_)
 refine zU (zl (zn (zs (zr ?_))))
 refine zU (zl (zn (zs (zr ?_))))
 refine zU ?_
 refine zM ⟨[(0, .loc 0 1 0 0), (1, .p (.func (.func 44) [])), (2, .own 2 1 0 3), (3, .p (.func (.func 44) [])), (4, .p (.slc (List.map (PV.int .i64) [1, 1, 5])))], [(0, .arr 25 3 1 [.agg [.p (.str []), .nils, .nils]]), (2, .arr 9 1 1 [.p (.str [97]), .p (.str [98]), .p (.str [99])])]⟩ ?_
 obtain ⟨r2, h3, h⟩ := zB h
 refine zc (drosslaw31_example_1_con 1 [1, 1, 5] _ h3) ?_
 refine zU ?_
 refine zM ⟨[(0, .loc 0 1 0 0), (1, .p (.func (.func 44) [])), (2, .own 2 1 0 3), (5, .p (encRow r2)), (6, .p (.func (.func 44) [])), (7, .p (.slc (List.map (PV.int .i64) [2, 1, 4])))], [(0, .arr 25 3 1 [.agg [.p (.str []), .nils, .nils]]), (2, .arr 9 1 1 [.p (.str [97]), .p (.str [98]), .p (.str [99])])]⟩ ?_
 obtain ⟨r4, h5, h⟩ := zB h
 refine zc (drosslaw31_example_1_con 2 [2, 1, 4] _ h5) ?_
 refine zU ?_
 refine zM ⟨[(0, .loc 0 1 0 0), (2, .own 2 1 0 3), (5, .p (encRow r2)), (8, .p (encRow r4)), (9, .p (.func (.func 44) [])), (10, .p (.slc (List.map (PV.int .i64) [3, 2, 5])))], [(0, .arr 25 3 1 [.agg [.p (.str []), .nils, .nils]]), (2, .arr 9 1 1 [.p (.str [97]), .p (.str [98]), .p (.str [99])])]⟩ ?_
 obtain ⟨r6, h7, h⟩ := zB h
 refine zc (drosslaw31_example_1_con 3 [3, 2, 5] _ h7) ?_
 refine zU (zl (zn (zq ?_)))
 cases h
 exact zT Try.results23
end Go.Proofs.Ythgnkhchpjcboaa
set_option linter.unusedVariables false
set_option linter.unusedSimpArgs false
namespace Go.Proofs.Ythgnkhchpjcboaa
open Go Go.Ab
set_option maxHeartbeats 4000000 in
theorem drossref17_Same_con {D : Prop} (a1 : List Canonical) (b2 : List Canonical) (r3 : Bool) (h : drossref17_Same a1 b2 = some r3) : Con D Try.prog 24 [(.slc (List.map encCanonical a1)), (.slc (List.map encCanonical b2))] (.bool r3) := by
 refine zP Try.call24 Try.func24 rfl Try.ntmps24 fun X w => ?_
 simp only [drossref17_Same] at h
 refine zs (zr ?_)
 refine zU (zl (zn (zs (zs (zr ?_)))))
 refine zU (zl (zn ?_))
 rcases zI h with ⟨h4, h⟩ | ⟨h4, h⟩
 refine zi (zs (zr ?_))
 refine zU (zl (zn (zq (zt ?_))))
 cases h
 exact zT Try.results24
 refine zj (zk (zn (zs (zs (zr ?_)))))
 refine zU (zl (zn (zb ?_)))
 obtain ⟨o5, h6, h⟩ := zB h
 refine zO (fun (s : Int) => ⟨[(0, .p (.slc (List.map encCanonical a1))), (1, .p (.slc (List.map encCanonical b2))), (5, .p (.int .i64 s))], []⟩) (fun (o : (Unit) ⊕ (Bool)) => match o with | .inl o7 => tE (cX Try.f24 X w D) (.exit 0) ⟨[], []⟩ | .inr o8 => tR Try.prog Try.f24 (.bool o8)) h6 ?_ ?_
 clear h h4 h6
 intro i9 x h
 simp only [drossref17_Same_l1] at h
 refine zs (zs (zr ?_))
 refine zU (zl (zn ?_))
 rcases zI h with ⟨h10, h⟩ | ⟨h10, h⟩
 refine zi (zk (zn (zs (zb (zs (zd ?_))))))
 obtain ⟨x11, h12, h12a, h12b, h⟩ := zX h
 obtain ⟨x13, h14, h14a, h14b, h⟩ := zX h
 refine yU ?_
 refine yd (zn ?_)
 rcases zI h with ⟨h15, h⟩ | ⟨h15, h⟩
 refine zj (zk (yn (zn (zr ?_))))
 refine zU (zl ?_)
 cases h
 exact ⟨rfl, zE⟩
 refine zi (zs (zr ?_))
 refine zU (zl (zn (zq (yr (zt ?_)))))
 cases h
 exact ⟨rfl, zT Try.results24⟩
 refine zj (zx (ze ?_))
 cases h
 exact ⟨rfl, zE⟩
 rcases o5 with ⟨⟩ | r16
 try simp only at h
 refine zA (yh (zn (zs (zr ?_))))
 refine zU (zl (zn (zq ?_)))
 cases h
 exact zT Try.results24
 try simp only at h
 refine zZ fun s hq => ?_
 refine yr (zt ?_)
 cases h
 exact hq
end Go.Proofs.Ythgnkhchpjcboaa
set_option linter.unusedVariables false
set_option linter.unusedSimpArgs false
namespace Go.Proofs.Ythgnkhchpjcboaa
open Go Go.Ab
set_option maxRecDepth 20000 in
set_option maxHeartbeats 4000000 in
theorem drosslaw31_awake_con {D : Prop} (r1 : Bool) (h : drosslaw31_awake = some r1) : Con D Try.prog 7 [] (.bool r1) := by
 refine zP Try.call7 Try.func7 rfl Try.ntmps7 fun X w => ?_
 simp only [drosslaw31_awake] at h
 refine zs (zr ?_)
 refine zU (zl (zn (zs (zr ?_))))
 obtain ⟨r2, h3, h⟩ := zB h
 refine zc (drosslaw31_example_con  _ h3) ?_
 obtain ⟨r4, h5, h⟩ := zB h
 refine zc (odmine_All_con r2 _ h5) ?_
 refine zU (zl (zn (zs (zr ?_))))
 obtain ⟨r6, h7, h⟩ := zB h
 refine zc (drosslaw31_example_con  _ h7) ?_
 obtain ⟨r8, h9, h⟩ := zB h
 refine zc (odmine_Keys_con r6 _ h9) ?_
 refine zU (zl (zn (zs (zr ?_))))
 refine zU (zl (zn (zs (zr ?_))))
 refine zU ?_
 rcases zI h with ⟨h10, h⟩ | ⟨h10, h⟩
 refine zw 24 true ?_
 refine zg ?_
 refine zg ?_
 refine zU ?_
 rcases zI h with ⟨h11, h⟩ | ⟨h11, h⟩
 refine zw 28 true ?_
 refine zg ?_
 refine zg ?_
 obtain ⟨r12, h13, h⟩ := zB h
 refine zc (drossref17_Same_con r4.1 [(Canonical.mk 0 0 1), (Canonical.mk 0 1 2), (Canonical.mk 1 1 (-1)), (Canonical.mk 1 2 (-1)), (Canonical.mk 6 0 (-1))] _ h13) ?_
 refine zU ?_
 rcases zI h with ⟨h14, h⟩ | ⟨h14, h⟩
 replace h := h.symm
 refine zw 33 true ?_
 refine zg ?_
 refine zg ?_
 refine zg ?_
 refine zU (zl (zn (zq ?_)))
 cases h
 exact zT Try.results7
 refine zw 33 false ?_
 refine zh ?_
 refine zU (zl (zn (zq ?_)))
 cases h
 exact zT Try.results7
 refine zw 28 false ?_
 refine zh ?_
 refine zU ?_
 refine zh ?_
 refine zU (zl (zn (zq ?_)))
 cases h
 exact zT Try.results7
 refine zw 24 false ?_
 refine zh ?_
 refine zU ?_
 refine zh ?_
 refine zU ?_
 refine zh ?_
 refine zU (zl (zn (zq ?_)))
 cases h
 exact zT Try.results7
end Go.Proofs.Ythgnkhchpjcboaa
set_option linter.unusedVariables false
set_option linter.unusedSimpArgs false
namespace Go.Proofs.Ythgnkhchpjcboaa
open Go Go.Ab
set_option maxHeartbeats 4000000 in
theorem drossref01_Of_con {D : Prop} (c1 : Int) (r2 : Value) (h : drossref01_Of c1 = some r2) : Con D Try.prog 52 [(.int .u8 c1)] (encValue r2) := by
 refine zP Try.call52 Try.func52 rfl Try.ntmps52 fun X w => ?_
 simp only [drossref01_Of] at h
 refine zs (zr ?_)
 refine zU (zl (zn (zs (zs (zr ?_)))))
 refine zU (zl (zn (zb (zs (zr ?_)))))
 refine zU (zl (zn ?_))
 rcases zI h with ⟨h3, h⟩ | ⟨h3, h⟩
 refine zi (zs (zr ?_))
 refine zU (zl (zn (zq (yr (zt ?_)))))
 cases h
 exact zT Try.results52
 refine zj (zs (zr ?_))
 refine zU (zl (zn ?_))
 rcases zI h with ⟨h4, h⟩ | ⟨h4, h⟩
 refine zi (zs (zr ?_))
 refine zU (zl (zn (zq (yr (zt ?_)))))
 cases h
 exact zT Try.results52
 refine zj (zs (zr ?_))
 refine zU (zl (zn ?_))
 rcases zI h with ⟨h5, h⟩ | ⟨h5, h⟩
 refine zi (zs (zr ?_))
 refine zU (zl (zn (zq (yr (zt ?_)))))
 cases h
 exact zT Try.results52
 refine zj (zs (zr ?_))
 refine zU (zl (zn ?_))
 rcases zI h with ⟨h6, h⟩ | ⟨h6, h⟩
 refine zi (zs (zr ?_))
 refine zU (zl (zn (zq (yr (zt ?_)))))
 cases h
 exact zT Try.results52
 refine zj (zs (zr ?_))
 refine zU (zl (zn ?_))
 rcases zI h with ⟨h7, h⟩ | ⟨h7, h⟩
 refine zi (zs (zr ?_))
 refine zU (zl (zn (zq (yr (zt ?_)))))
 cases h
 exact zT Try.results52
 refine zj (zs (zr ?_))
 refine zU (zl (zn ?_))
 rcases zI h with ⟨h8, h⟩ | ⟨h8, h⟩
 refine zi (zs (zr ?_))
 refine zU (zl (zn (zq (yr (zt ?_)))))
 cases h
 exact zT Try.results52
 refine zj (zs (zr ?_))
 refine zU (zl (zn ?_))
 rcases zI h with ⟨h9, h⟩ | ⟨h9, h⟩
 refine zi (zs (zr ?_))
 refine zU (zl (zn (zq (yr (zt ?_)))))
 cases h
 exact zT Try.results52
 refine zj (zs (zr ?_))
 refine zU (zl (zn ?_))
 rcases zI h with ⟨h10, h⟩ | ⟨h10, h⟩
 refine zi (zs (zr ?_))
 refine zU (zl (zn (zq (yr (zt ?_)))))
 cases h
 exact zT Try.results52
 refine zj (zs (zr ?_))
 refine zU (zl (zn ?_))
 rcases zI h with ⟨h11, h⟩ | ⟨h11, h⟩
 refine zi (zs (zr ?_))
 refine zU (zl (zn (zq (yr (zt ?_)))))
 cases h
 exact zT Try.results52
 refine zj (zs (zr ?_))
 refine zU (zl (zn ?_))
 rcases zI h with ⟨h12, h⟩ | ⟨h12, h⟩
 refine zi (zs (zr ?_))
 refine zU (zl (zn (zq (yr (zt ?_)))))
 cases h
 exact zT Try.results52
 refine zj (zs (zr ?_))
 refine zU (zl (zn ?_))
 rcases zI h with ⟨h13, h⟩ | ⟨h13, h⟩
 refine zi (zs (zr ?_))
 refine zU (zl (zn (zq (yr (zt ?_)))))
 cases h
 exact zT Try.results52
 refine zj (zk (yn (zn (zs (zr ?_)))))
 refine zU (zl (zn (zq ?_)))
 cases h
 exact zT Try.results52
end Go.Proofs.Ythgnkhchpjcboaa
set_option linter.unusedVariables false
set_option linter.unusedSimpArgs false
namespace Go.Proofs.Ythgnkhchpjcboaa
open Go Go.Ab
set_option maxHeartbeats 4000000 in
theorem drossref03_Wide_con {D : Prop} (x1 : Drossref03_Recipe) (n2 : Int) (r3 : Table) (h : drossref03_Wide x1 n2 = some r3) : Con D Try.prog 29 [(encDrossref03_Recipe x1), (.int .i64 n2)] (encTable r3) := by
 refine zP Try.call29 Try.func29 rfl Try.ntmps29 fun X w => ?_
 simp only [drossref03_Wide] at h
 refine zs (zr ?_)
 refine zU (zl (zn (zs (zr ?_))))
 obtain ⟨h4, h⟩ := ite_some h
 obtain ⟨h5, h⟩ := ite_some h
 refine zW 4 ?_
 obtain ⟨l6, h7, h⟩ := zB h
 replace h7 := Option.some.inj h7
 refine AL_le (st' := ⟨[(1, .p (.int .i64 n2)), (2, .loc 2 1 0 0), (4, .loc 4 1 0 0), (10, .own 10 1 0 0), (13, .own 11 1 0 n2.toNat)], [(2, .arr 35 3 1 [.p (encDrossref03_Recipe x1)]), (4, .arr 25 3 1 [.agg [.p (.str []), .nils, .nils]]), (10, .arr 9 1 1 []), (11, .arr 9 1 1 (List.map AV.p (List.map PV.str l6)))]⟩) (by simp only [go_sem, seval, ← h7]; all_goals ((repeat' refine And.intro ?_ ?_) <;> first | rfl | (simp; done) | (simp; rfl) | (simp [*]; done) | (simp [*]; rfl))) ?_
 have h7n : l6.length = 8 := by rw [← h7]; rfl
 clear h7
 obtain ⟨h8, h⟩ := ite_some h
 refine zU (zl (zn (zs (zs (zr ?_)))))
 refine zU (zl (zn (zb ?_)))
 obtain ⟨t9, h10, h⟩ := zB h
 refine zO (fun (s : List Row × Int) => ⟨[(1, .p (.int .i64 n2)), (2, .loc 2 1 0 0), (4, .loc 4 1 0 0), (5, .loc 5 1 0 0), (6, .p (.int .i64 s.2))], [(2, .arr 35 3 1 [.p (encDrossref03_Recipe x1)]), (4, .arr 25 3 1 [.agg [.p (.str []), .nils, .nils]]), (5, .arr 25 3 1 [.agg [.p (.str [114]), .own 10 1 0 ((l6.take n2.toNat)).length, .own 64 1 0 s.1.length]]), (10, .arr 9 1 1 (List.map AV.p (List.map PV.str (l6.take n2.toNat)))), (64, .arr 43 2 1 (List.map AV.p (List.map encRow s.1)))]⟩) (fun (o11 : List Row) => tE (cX Try.f29 X w D) (.exit 0) ⟨[(4, .loc 4 1 0 0), (5, .loc 5 1 0 0)], [(4, .arr 25 3 1 [.agg [.p (.str []), .nils, .nils]]), (5, .arr 25 3 1 [.agg [.p (.str [114]), .own 10 1 0 ((l6.take n2.toNat)).length, .own 64 1 0 o11.length]]), (10, .arr 9 1 1 (List.map AV.p (List.map PV.str (l6.take n2.toNat)))), (64, .arr 43 2 1 (List.map AV.p (List.map encRow o11)))]⟩) h10 ?_ ?_
 clear h h4 h5 h7n h8 h10
 intro s x h
 obtain ⟨t12, i13⟩ := s
 simp only [drossref03_Wide_l4] at h
 dsimp only
 refine zs (zs (zr ?_))
 refine zU (zl (zn ?_))
 rcases zI h with ⟨h14, h⟩ | ⟨h14, h⟩
 refine zi (zk (zn (zs (zb (zs (zr ?_))))))
 refine zU (zl (zn (zs (zs (zr ?_)))))
 refine zU (zl (zn (zb ?_)))
 obtain ⟨r15, h16, h⟩ := zB h
 refine zO (fun (s : List Value × Int) => ⟨[(1, .p (.int .i64 n2)), (2, .loc 2 1 0 0), (4, .loc 4 1 0 0), (5, .loc 5 1 0 0), (6, .p (.int .i64 i13)), (7, .loc 7 1 0 0), (8, .p (.int .i64 s.2))], [(2, .arr 35 3 1 [.p (encDrossref03_Recipe x1)]), (4, .arr 25 3 1 [.agg [.p (.str []), .nils, .nils]]), (5, .arr 25 3 1 [.agg [.p (.str [114]), .own 10 1 0 ((l6.take n2.toNat)).length, .own 64 1 0 t12.length]]), (7, .arr 43 2 1 [.agg [.p (.int .i64 (IntKind.i64.wrap (1 + (IntKind.i64.wrap (i13 * (IntKind.i64.wrap (1 + (IntKind.i64.wrap (Int.tmod x1.Gap 3))))))))), .own 58 1 0 s.1.length]]), (10, .arr 9 1 1 (List.map AV.p (List.map PV.str (l6.take n2.toNat)))), (58, .arr 81 3 1 (List.map AV.p (List.map encValue s.1))), (64, .arr 43 2 1 (List.map AV.p (List.map encRow t12)))]⟩) (fun (o17 : List Value) => tE (cX Try.f29 X w D) (.exit 2) ⟨[(1, .p (.int .i64 n2)), (2, .loc 2 1 0 0), (4, .loc 4 1 0 0), (5, .loc 5 1 0 0), (6, .p (.int .i64 i13)), (7, .loc 7 1 0 0)], [(2, .arr 35 3 1 [.p (encDrossref03_Recipe x1)]), (4, .arr 25 3 1 [.agg [.p (.str []), .nils, .nils]]), (5, .arr 25 3 1 [.agg [.p (.str [114]), .own 10 1 0 ((l6.take n2.toNat)).length, .own 64 1 0 t12.length]]), (7, .arr 43 2 1 [.agg [.p (.int .i64 (IntKind.i64.wrap (1 + (IntKind.i64.wrap (i13 * (IntKind.i64.wrap (1 + (IntKind.i64.wrap (Int.tmod x1.Gap 3))))))))), .own 58 1 0 o17.length]]), (10, .arr 9 1 1 (List.map AV.p (List.map PV.str (l6.take n2.toNat)))), (58, .arr 81 3 1 (List.map AV.p (List.map encValue o17))), (64, .arr 43 2 1 (List.map AV.p (List.map encRow t12)))]⟩) h16 ?_ ?_
 clear h h14 h16
 intro s x h
 obtain ⟨r18, k19⟩ := s
 simp only [drossref03_Wide_l3] at h
 dsimp only
 refine zs (zs (zr ?_))
 refine zU (zl (zn ?_))
 rcases zI h with ⟨h20, h⟩ | ⟨h20, h⟩
 refine zi (zk (zn (zs (zb (zs (zr ?_))))))
 refine zU (zl (zn (zs (zs (zr ?_)))))
 obtain ⟨x21, h22, h22a, h22b, h⟩ := zX h
 refine zU (zl (zn ?_))
 rcases zI h with ⟨h23, h⟩ | ⟨h23, h⟩
 refine zi (zr ?_)
 obtain ⟨x24, h25, h25a, h25b, h⟩ := zX h
 refine zU (zl (zn (zd ?_)))
 refine yU ?_
 obtain ⟨r26, h27, h⟩ := zB h
 refine yc (drossref01_Of_con x24 _ h27) ?_
 obtain ⟨h28, h⟩ := ite_some h
 refine yU ?_
 refine yd (yn (zn (zr ?_)))
 refine zU (zl ?_)
 cases h
 exact ⟨rfl, zE⟩
 refine zj (zk (zn (zd ?_)))
 refine yU ?_
 obtain ⟨r29, h30, h⟩ := zB h
 refine yc (drossref01_Of_con 0 _ h30) ?_
 obtain ⟨h31, h⟩ := ite_some h
 refine yU ?_
 refine yd (yn (zn (zr ?_)))
 refine zU (zl ?_)
 cases h
 exact ⟨rfl, zE⟩
 refine zj (zx (ze ?_))
 cases h
 exact ⟨rfl, zE⟩
 try simp only at h
 refine zA (yh (zn (zr ?_)))
 refine zW 4 ?_
 refine zM ⟨[(1, .p (.int .i64 n2)), (2, .loc 2 1 0 0), (4, .loc 4 1 0 0), (5, .loc 5 1 0 0), (6, .p (.int .i64 i13)), (61, .own 64 1 0 t12.length), (63, .own 63 1 0 1)], [(2, .arr 35 3 1 [.p (encDrossref03_Recipe x1)]), (4, .arr 25 3 1 [.agg [.p (.str []), .nils, .nils]]), (5, .arr 25 3 1 [.agg [.p (.str [114]), .own 10 1 0 ((l6.take n2.toNat)).length, .own 64 1 0 t12.length]]), (10, .arr 9 1 1 (List.map AV.p (List.map PV.str (l6.take n2.toNat)))), (63, .arr 43 2 1 [.p (.agg [.int .i64 (IntKind.i64.wrap (1 + (IntKind.i64.wrap (i13 * (IntKind.i64.wrap (1 + (IntKind.i64.wrap (Int.tmod x1.Gap 3)))))))), .slc (List.map encValue r15)])]), (64, .arr 43 2 1 (List.map AV.p (List.map encRow t12)))]⟩ ?_
 obtain ⟨h32, h⟩ := ite_some h
 refine zU (zl (yn (zn (zr ?_))))
 refine zU (zl ?_)
 cases h
 exact ⟨rfl, zE⟩
 refine zj (zx (ze ?_))
 cases h
 exact ⟨rfl, zE⟩
 try simp only at h
 refine zA (yh (zn (zs (zr ?_))))
 refine zU (zl (zn (zq ?_)))
 cases h
 exact zT Try.results29
end Go.Proofs.Ythgnkhchpjcboaa
set_option linter.unusedVariables false
set_option linter.unusedSimpArgs false
namespace Go.Proofs.Ythgnkhchpjcboaa
open Go Go.Ab
set_option maxHeartbeats 4000000 in
theorem drossref03_Table_con {D : Prop} (x1 : Drossref03_Recipe) (m2 : Int) (r3 : Table × Bool) (h : drossref03_Table x1 m2 = some r3) : Con D Try.prog 12 [(encDrossref03_Recipe x1), (.int .i64 m2)] (.tup [(encTable r3.1), (.bool r3.2)]) := by
 refine zP Try.call12 Try.func12 rfl Try.ntmps12 fun X w => ?_
 simp only [drossref03_Table] at h
 refine zs (zr ?_)
 refine zU (zl (zn (zs (zs (zr ?_)))))
 refine zU (zl (zn ?_))
 rcases zI h with ⟨h4, h⟩ | ⟨h4, h⟩
 refine zi (zs (zr ?_))
 refine zU (zl (zn (zq (zt ?_))))
 cases h
 exact zT Try.results12
 refine zj (zk (zn (zs (zr ?_))))
 refine zU ?_
 obtain ⟨r5, h6, h⟩ := zB h
 refine zc (drossref03_Wide_con x1 (IntKind.i64.wrap (Int.tmod x1.Attrs 6)) _ h6) ?_
 refine zU (zl (zn (zq ?_)))
 cases h
 exact zT Try.results12
end Go.Proofs.Ythgnkhchpjcboaa
set_option linter.unusedVariables false
set_option linter.unusedSimpArgs false
namespace Go.Proofs.Ythgnkhchpjcboaa
open Go Go.Ab
set_option maxHeartbeats 4000000 in
theorem odmine_in_con {D : Prop} (s1 : Int) (a2 : Int) (r3 : Bool) (h : odmine_in s1 a2 = some r3) : Con D Try.prog 55 [(.int .u32 s1), (.int .i64 a2)] (.bool r3) := by
 refine zP Try.call55 Try.func55 rfl Try.ntmps55 fun X w => ?_
 simp only [odmine_in] at h
 refine zs (zr ?_)
 refine zU (zl (zn (zs (zr ?_))))
 refine zU ?_
 rcases zI h with ⟨h4, h⟩ | ⟨h4, h⟩
 refine zw 7 true ?_
 refine zg ?_
 refine zg ?_
 refine zU ?_
 rcases zI h with ⟨h5, h⟩ | ⟨h5, h⟩
 refine zw 11 true ?_
 refine zg ?_
 refine zg ?_
 obtain ⟨h6, h⟩ := ite_none h
 replace h := h.symm
 refine zg ?_
 refine zg ?_
 refine zg ?_
 refine zU (zl (zn (zq ?_)))
 cases h
 exact zT Try.results55
 refine zw 11 false ?_
 refine zh ?_
 refine zU (zl (zn (zq ?_)))
 cases h
 exact zT Try.results55
 refine zw 7 false ?_
 refine zh ?_
 refine zU ?_
 refine zh ?_
 refine zU (zl (zn (zq ?_)))
 cases h
 exact zT Try.results55
end Go.Proofs.Ythgnkhchpjcboaa
set_option linter.unusedVariables false
set_option linter.unusedSimpArgs false
namespace Go.Proofs.Ythgnkhchpjcboaa
open Go Go.Ab
set_option maxRecDepth 20000 in
set_option maxHeartbeats 4000000 in
theorem odmine_trivial_con {D : Prop} (c1 : Canonical) (r2 : Bool) (h : odmine_trivial c1 = some r2) : Con D Try.prog 36 [(encCanonical c1)] (.bool r2) := by
 refine zP Try.call36 Try.func36 rfl Try.ntmps36 fun X w => ?_
 simp only [odmine_trivial] at h
 refine zs (zr ?_)
 refine zU (zl (zn (zs (zr ?_))))
 refine zU ?_
 obtain ⟨r3, h4, h⟩ := zB h
 refine zc (odmine_in_con c1.Context c1.A _ h4) ?_
 refine zU ?_
 rcases zI h with ⟨h5, h⟩ | ⟨h5, h⟩
 refine zw 8 true ?_
 refine zh ?_
 refine zU (zl (zn (zq ?_)))
 cases h
 exact zT Try.results36
 refine zw 8 false ?_
 refine zg ?_
 refine zg ?_
 refine zg ?_
 refine zg ?_
 rcases zI h with ⟨h6, h⟩ | ⟨h6, h⟩
 refine zw 12 true ?_
 refine zg ?_
 refine zg ?_
 refine zg ?_
 refine zg ?_
 refine zg ?_
 refine zg ?_
 rcases zI h with ⟨h7, h⟩ | ⟨h7, h⟩
 replace h := h.symm
 refine zw 18 true ?_
 refine zh ?_
 refine zg ?_
 refine zg ?_
 refine zU (zl (zn (zq ?_)))
 cases h
 exact zT Try.results36
 refine zw 18 false ?_
 refine zg ?_
 refine zg ?_
 refine zg ?_
 refine zg ?_
 obtain ⟨r8, h9, h⟩ := zB h
 replace h := h.symm
 refine zc (odmine_in_con c1.Context c1.B _ h9) ?_
 refine zg ?_
 refine zg ?_
 refine zU (zl (zn (zq ?_)))
 cases h
 exact zT Try.results36
 replace h := h.symm
 refine zw 12 false ?_
 refine zh ?_
 refine zg ?_
 refine zU (zl (zn (zq ?_)))
 cases h
 exact zT Try.results36
end Go.Proofs.Ythgnkhchpjcboaa
set_option linter.unusedVariables false
set_option linter.unusedSimpArgs false
namespace Go.Proofs.Ythgnkhchpjcboaa
open Go Go.Ab
set_option maxHeartbeats 4000000 in
theorem slices_IndexFunc_Canonical_con {D : Prop} (s1 : List Canonical) (f2 : Canonical → Option (Bool)) (f2_k : FuncId) (f2_cs : List PV) (f2_h : ∀ (y3 : Canonical) (r4 : Bool), f2 y3 = some r4 → Con D Try.prog f2_k ((encCanonical y3) :: f2_cs) (.bool r4)) (r5 : Int) (h : slices_IndexFunc_Canonical s1 f2 = some r5) : Con D Try.prog 54 [(.slc (List.map encCanonical s1)), .func (.func f2_k) f2_cs] (.int .i64 r5) := by
 refine zP Try.call54 Try.func54 rfl Try.ntmps54 fun X w => ?_
 simp only [slices_IndexFunc_Canonical] at h
 refine zs (zr ?_)
 refine zU (zl (zn (zs (zs (zr ?_)))))
 refine zU (zl (zn (zb ?_)))
 obtain ⟨o6, h7, h⟩ := zB h
 refine zO (fun (s : Int) => ⟨[(0, .p (.slc (List.map encCanonical s1))), (1, .p (.func (.func f2_k) f2_cs)), (7, .p (.int .i64 (s1.length : Int))), (8, .p (.int .i64 s))], []⟩) (fun (o : (Unit) ⊕ (Int)) => match o with | .inl o8 => tE (cX Try.f54 X w D) (.exit 0) ⟨[], []⟩ | .inr o9 => tR Try.prog Try.f54 (.int .i64 o9)) h7 ?_ ?_
 clear h h7
 intro t10 x h
 simp only [slices_IndexFunc_Canonical_l1] at h
 refine zs (zr ?_)
 refine zU (zl (zn (zs ?_)))
 rcases zI h with ⟨h11, h⟩ | ⟨h11, h⟩
 refine zi (zk (zn (zs (zb (zs (zr ?_))))))
 refine zU (zl (zn (zs (zr ?_))))
 obtain ⟨x12, h13, h13a, h13b, h⟩ := zX h
 refine zU ?_
 obtain ⟨r14, h15, h⟩ := zB h
 refine zc (f2_h x12 _ h15) ?_
 refine zl (zn ?_)
 rcases zI h with ⟨h16, h⟩ | ⟨h16, h⟩
 refine zi (zs (zr ?_))
 refine zU (zl (zn (zq (yr (zt ?_)))))
 cases h
 exact ⟨rfl, zT Try.results54⟩
 refine zj (zk (yn (zn (zr ?_))))
 refine zU (zl ?_)
 cases h
 exact ⟨rfl, zE⟩
 refine zj (zx (ze ?_))
 cases h
 exact ⟨rfl, zE⟩
 rcases o6 with ⟨⟩ | r17
 try simp only at h
 refine zA (yh (zn (zs (zr ?_))))
 refine zU (zl (zn (zq ?_)))
 cases h
 exact zT Try.results54
 try simp only at h
 refine zZ fun s hq => ?_
 refine yr (zt ?_)
 cases h
 exact hq
end Go.Proofs.Ythgnkhchpjcboaa
set_option linter.unusedVariables false
set_option linter.unusedSimpArgs false
namespace Go.Proofs.Ythgnkhchpjcboaa
open Go Go.Ab
set_option maxHeartbeats 4000000 in
theorem slices_ContainsFunc_Canonical_con {D : Prop} (s1 : List Canonical) (f2 : Canonical → Option (Bool)) (f2_k : FuncId) (f2_cs : List PV) (f2_h : ∀ (y3 : Canonical) (r4 : Bool), f2 y3 = some r4 → Con D Try.prog f2_k ((encCanonical y3) :: f2_cs) (.bool r4)) (r5 : Bool) (h : slices_ContainsFunc_Canonical s1 f2 = some r5) : Con D Try.prog 37 [(.slc (List.map encCanonical s1)), .func (.func f2_k) f2_cs] (.bool r5) := by
 refine zP Try.call37 Try.func37 rfl Try.ntmps37 fun X w => ?_
 simp only [slices_ContainsFunc_Canonical] at h
 refine zs (zr ?_)
 refine zU (zl (zn (zs (zr ?_))))
 refine zU ?_
 obtain ⟨r6, h7, h⟩ := zB h
 refine zc (slices_IndexFunc_Canonical_con s1 f2 f2_k f2_cs f2_h _ h7) ?_
 refine zU (zl (zn (zq ?_)))
 cases h
 exact zT Try.results37
end Go.Proofs.Ythgnkhchpjcboaa
set_option linter.unusedVariables false
set_option linter.unusedSimpArgs false
namespace Go.Proofs.Ythgnkhchpjcboaa
open Go Go.Ab
set_option maxRecDepth 20000 in
set_option maxHeartbeats 4000000 in
theorem odmine_Implied_1_con {D : Prop} (d1 : Canonical) (c2 : Canonical) (r3 : Bool) (h : odmine_Implied_1 d1 c2 = some r3) : Con D Try.prog 38 [(encCanonical d1), .imm [.int .u32 c2.Context, .int .i64 c2.A, .int .i64 c2.B]] (.bool r3) := by
 refine zP Try.call38 Try.func38 rfl Try.ntmps38 fun X w => ?_
 simp only [odmine_Implied_1] at h
 refine zs (zr ?_)
 refine zU (zl (zn (zs (zb (zs (zr ?_))))))
 refine zU (zl (zn ?_))
 rcases zI h with ⟨h4, h⟩ | ⟨h4, h⟩
 refine zi (zs (zr ?_))
 refine zU (zl (zn (zq (yr (zt ?_)))))
 cases h
 exact zT Try.results38
 refine zj (zs (zr ?_))
 refine zU (zl (zn ?_))
 rcases zI h with ⟨h5, h⟩ | ⟨h5, h⟩
 refine zi (zs (zr ?_))
 refine zU ?_
 rcases zI h with ⟨h6, h⟩ | ⟨h6, h⟩
 replace h := h.symm
 refine zw 18 true ?_
 refine zg ?_
 refine zg ?_
 refine zg ?_
 refine zg ?_
 refine zg ?_
 refine zU (zl (zn (zq (yr (zt ?_)))))
 cases h
 exact zT Try.results38
 refine zw 18 false ?_
 refine zh ?_
 refine zU (zl (zn (zq (yr (zt ?_)))))
 cases h
 exact zT Try.results38
 refine zj (zs (zr ?_))
 refine zU (zl (zn ?_))
 rcases zI h with ⟨h7, h⟩ | ⟨h7, h⟩
 refine zi (zs (zr ?_))
 refine zU ?_
 rcases zI h with ⟨h8, h⟩ | ⟨h8, h⟩
 refine zw 34 true ?_
 refine zh ?_
 refine zU (zl (zn (zq (yr (zt ?_)))))
 cases h
 exact zT Try.results38
 replace h := h.symm
 refine zw 34 false ?_
 refine zg ?_
 refine zg ?_
 refine zg ?_
 refine zg ?_
 refine zg ?_
 refine zU (zl (zn (zq (yr (zt ?_)))))
 cases h
 exact zT Try.results38
 refine zj (zk (yn (zn (zs (zr ?_)))))
 refine zU ?_
 rcases zI h with ⟨h9, h⟩ | ⟨h9, h⟩
 refine zw 46 true ?_
 refine zg ?_
 refine zg ?_
 refine zg ?_
 refine zg ?_
 refine zg ?_
 refine zU ?_
 rcases zI h with ⟨h10, h⟩ | ⟨h10, h⟩
 refine zw 53 true ?_
 refine zh ?_
 refine zU (zl (zn (zq ?_)))
 cases h
 exact zT Try.results38
 refine zw 53 false ?_
 refine zg ?_
 refine zg ?_
 refine zg ?_
 refine zg ?_
 refine zg ?_
 refine zg ?_
 rcases zI h with ⟨h11, h⟩ | ⟨h11, h⟩
 replace h := h.symm
 refine zw 59 true ?_
 refine zg ?_
 refine zg ?_
 refine zg ?_
 refine zg ?_
 refine zg ?_
 refine zg ?_
 refine zU (zl (zn (zq ?_)))
 cases h
 exact zT Try.results38
 replace h := h.symm
 refine zw 59 false ?_
 refine zh ?_
 refine zg ?_
 refine zU (zl (zn (zq ?_)))
 cases h
 exact zT Try.results38
 refine zw 46 false ?_
 refine zh ?_
 refine zU ?_
 refine zg ?_
 refine zg ?_
 refine zg ?_
 refine zg ?_
 refine zg ?_
 refine zg ?_
 rcases zI h with ⟨h12, h⟩ | ⟨h12, h⟩
 replace h := h.symm
 refine zw 59 true ?_
 refine zg ?_
 refine zg ?_
 refine zg ?_
 refine zg ?_
 refine zg ?_
 refine zg ?_
 refine zU (zl (zn (zq ?_)))
 cases h
 exact zT Try.results38
 replace h := h.symm
 refine zw 59 false ?_
 refine zh ?_
 refine zg ?_
 refine zU (zl (zn (zq ?_)))
 cases h
 exact zT Try.results38
end Go.Proofs.Ythgnkhchpjcboaa
set_option linter.unusedVariables false
set_option linter.unusedSimpArgs false
namespace Go.Proofs.Ythgnkhchpjcboaa
open Go Go.Ab
set_option maxHeartbeats 4000000 in
theorem odmine_Implied_con {D : Prop} (l1 : List Canonical) (c2 : Canonical) (r3 : Bool) (h : odmine_Implied l1 c2 = some r3) : Con D Try.prog 19 [(.slc (List.map encCanonical l1)), (encCanonical c2)] (.bool r3) := by
 refine zP Try.call19 Try.func19 rfl Try.ntmps19 fun X w => ?_
 simp only [odmine_Implied] at h
 refine zs (zr ?_)
 refine zU (zl (zn (zs (zs (zr ?_)))))
 refine zU ?_
 obtain ⟨r4, h5, h⟩ := zB h
 refine zc (odmine_trivial_con c2 _ h5) ?_
 refine zl (zn ?_)
 rcases zI h with ⟨h6, h⟩ | ⟨h6, h⟩
 refine zi (zs (zr ?_))
 refine zU (zl (zn (zq (zt ?_))))
 cases h
 exact zT Try.results19
 refine zj (zk (zn (zs (zr ?_))))
 refine zU ?_
 obtain ⟨r7, h8, h⟩ := zB h
 refine zc (slices_ContainsFunc_Canonical_con l1 (fun (y9 : Canonical) => odmine_Implied_1 y9 c2) 38 [.imm [.int .u32 c2.Context, .int .i64 c2.A, .int .i64 c2.B]] (fun y9 r h => odmine_Implied_1_con y9 c2 r h) _ h8) ?_
 refine zU (zl (zn (zq ?_)))
 cases h
 exact zT Try.results19
end Go.Proofs.Ythgnkhchpjcboaa
set_option linter.unusedVariables false
set_option linter.unusedSimpArgs false
namespace Go.Proofs.Ythgnkhchpjcboaa
open Go Go.Ab
set_option maxRecDepth 20000 in
set_option maxHeartbeats 4000000 in
theorem drosslaw31_OdmineLeast_con (x1 : Drossref03_Recipe) (k2 : Int) (r3 : Bool) (h : drosslaw31_OdmineLeast x1 k2 = some r3) : Con False Try.prog 6 [(encDrossref03_Recipe x1), (.int .u8 k2)] (.bool r3) := by
 refine zP Try.call6 Try.func6 rfl Try.ntmps6 fun X w => ?_
 simp only [drosslaw31_OdmineLeast] at h
 refine zs (zr ?_)
 refine zU (zl (zn (zs (zr ?_))))
 refine zU ?_
 obtain ⟨r4, h5, h⟩ := zB h
 refine zc (drossref03_Table_con x1 8 _ h5) ?_
 refine zU (zl (zn (zs ?_)))
 obtain ⟨t6, h7, h⟩ := zB h
 refine zJ (fun (o8 : Bool) => tE (cX Try.f6 X w False) .normal ⟨[(1, .p (.int .u8 k2)), (5, .loc 5 1 0 0), (20, .p (.bool o8))], [(5, .arr 25 3 1 [.p (encTable r4.1)])]⟩) t6 ?_ ?_
 replace h := h7
 clear h7
 refine zr ?_
 obtain ⟨r9, h10, h⟩ := zB h
 refine zc (drosslaw31_awake_con  _ h10) ?_
 refine zU ?_
 rcases zI h with ⟨h11, h⟩ | ⟨h11, h⟩
 replace h := h.symm
 refine zw 17 false ?_
 refine zg ?_
 refine zg ?_
 refine zU (zl ?_)
 cases h
 exact ⟨rfl, zE⟩
 refine zw 17 true ?_
 refine zh ?_
 refine zU (zl ?_)
 cases h
 exact ⟨rfl, zE⟩
 try simp only at h
 refine zA (zn ?_)
 rcases zI h with ⟨h12, h⟩ | ⟨h12, h⟩
 refine zi (zs (zr ?_))
 obtain ⟨r13, h14, h⟩ := zB h
 refine zc (drosslaw31_awake_con  _ h14) ?_
 refine zU (zl (zn (zq (zt ?_))))
 cases h
 exact zT Try.results6
 refine zj (zk (zn (zs (zr ?_))))
 refine zU ?_
 obtain ⟨r15, h16, h⟩ := zB h
 refine zc (odmine_All_con r4.1 _ h16) ?_
 refine zU (zl (zn (zs (zs (zr ?_)))))
 refine zU ?_
 rcases zI h with ⟨h17, h⟩ | ⟨h17, h⟩
 refine zw 29 true ?_
 refine zh ?_
 refine zU (zl (zn ?_))
 refine zi (zs (zr ?_))
 refine zU (zl (zn (zq (zt ?_))))
 cases h
 exact zT Try.results6
 refine zw 29 false ?_
 refine zg ?_
 refine zg ?_
 refine zg ?_
 refine zU (zl (zn ?_))
 rcases zI h with ⟨h18, h⟩ | ⟨h18, h⟩
 refine zi (zs (zr ?_))
 refine zU (zl (zn (zq (zt ?_))))
 cases h
 exact zT Try.results6
 refine zj (zk (zn (zs (zr ?_))))
 obtain ⟨h19, h⟩ := ite_none h
 refine zU (zl (zn (zs (zd ?_))))
 obtain ⟨h20, h⟩ := ite_some h
 obtain ⟨h21, h⟩ := ite_some h
 refine yU ?_
 obtain ⟨h22, h⟩ := ite_some h
 refine yK cln20 44 encCanonical (r15.1.take ((Int.tmod (IntKind.i64.wrap k2) (r15.1.length : Int)).toNat)) _ rfl ⟨by unfold maxLen; omega, by omega⟩ ?_
 obtain ⟨h23, h⟩ := ite_some h
 obtain ⟨h24, h⟩ := ite_some h
 obtain ⟨h25, h⟩ := ite_some h
 obtain ⟨x26, h27, h27a, h27b, h⟩ := zX h
 refine yU ?_
 obtain ⟨r28, h29, h⟩ := zB h
 have hT : ∀ (i n j : Nat) (l : List PV), List.take (i + (n - j)) (List.take i l ++ List.take (n - j) (List.drop j l)) = List.take i l ++ List.take (n - j) (List.drop j l) := fun i n j l => List.take_of_length_le (by rw [List.length_append, List.length_take, List.length_take]; omega)
 refine yc (odmine_Implied_con ((r15.1.take ((Int.tmod (IntKind.i64.wrap k2) (r15.1.length : Int)).toNat)) ++ ((r15.1.drop (IntKind.i64.wrap ((Int.tmod (IntKind.i64.wrap k2) (r15.1.length : Int)) + 1)).toNat).take (r15.1.length - (IntKind.i64.wrap ((Int.tmod (IntKind.i64.wrap k2) (r15.1.length : Int)) + 1)).toNat))) x26 _ h29) ?_
 refine yU ?_
 refine yd (zn (zq ?_))
 cases h
 exact zT Try.results6
end Go.Proofs.Ythgnkhchpjcboaa
