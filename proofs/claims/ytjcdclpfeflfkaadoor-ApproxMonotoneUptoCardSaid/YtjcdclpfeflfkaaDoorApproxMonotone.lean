/- The statement ApproxMonotone: the arguments are read, the function is called, the answer is true. -/
import Derived.Test.YtjcdclpfeflfkaaDoorRows
import Derived.Test.YtjcdclpfeflfkaaDoorCards
import Derived.Test.YtjcdclpfeflfkaaDoorTie
import Derived.Lib.LaidTab
import Derived.Deep.DeepHandedRow
import Derived.Test.YtjcdclpfeflfkaaDoorA2
import Derived.Test.YtjcdclpfeflfkaaDoorW1
import Derived.Test.YtjcdclpfeflfkaaDoorL1
import Derived.Test.YtjcdclpfeflfkaaDoorL2
set_option linter.unusedVariables false
set_option linter.unusedSimpArgs false
namespace Go.Proofs.YtjcdclpfeflfkaaDoor
open Go Go.Ab
abbrev bk : (H : Type) → DataW H → Nat := fun H d => YtjcdclpfeflfkaaDoor.Rows.uptoBulk d
theorem bk_one {H : Type} (d : DataW H) : 1 ≤ YtjcdclpfeflfkaaDoor.Rows.uptoBulk d := by
  cases d with
  | lit l => cases l <;> simp [YtjcdclpfeflfkaaDoor.Rows.uptoBulk]
  | _ => simp [YtjcdclpfeflfkaaDoor.Rows.uptoBulk]
theorem bk_part {H : Type} {d : DataW H} {l : List (DataW H)} (h : d ∈ l) : YtjcdclpfeflfkaaDoor.Rows.uptoBulk d ≤ YtjcdclpfeflfkaaDoor.Rows.uptoBulkAll l := by
  induction l with
  | nil => cases h
  | cons x r ih =>
    simp only [YtjcdclpfeflfkaaDoor.Rows.uptoBulkAll]
    cases List.mem_cons.1 h with
    | inl e => subst e; omega
    | inr e => have := ih e; omega
theorem bk_len {H : Type} (l : List (DataW H)) : l.length ≤ YtjcdclpfeflfkaaDoor.Rows.uptoBulkAll l := by
  induction l with
  | nil => simp [YtjcdclpfeflfkaaDoor.Rows.uptoBulkAll]
  | cons x r ih => have := bk_one x; simp only [YtjcdclpfeflfkaaDoor.Rows.uptoBulkAll, List.length_cons]; omega
theorem bk_law : Bulk bk := by
  refine ⟨fun H s => ?_, fun H es sp => ?_, fun H es sp d hd => ?_, fun H ps d hd => ?_⟩
  · simp [bk, YtjcdclpfeflfkaaDoor.Rows.uptoBulk]
  · have := bk_len es; simp only [bk, YtjcdclpfeflfkaaDoor.Rows.uptoBulk]; omega
  · have := bk_part hd; simp only [bk, YtjcdclpfeflfkaaDoor.Rows.uptoBulk]; omega
  · have := bk_part hd; simp only [bk, YtjcdclpfeflfkaaDoor.Rows.uptoBulk]; omega
theorem bk_small {H : Type} {ds : List (DataW H)} (h : YtjcdclpfeflfkaaDoor.Rows.uptoSmall H ds = true) {d : DataW H} (hd : d ∈ ds) : bk H d ≤ 1048576 := Nat.le_trans (bk_part hd) (of_decide_eq_true h)
theorem rd5 : Rd Tryd.prog bk 5 (PV.int .u8) (okI .u8) := Rd_int Tryd.underlying5 (by kernel_rfl)
theorem rd81 : Rd Tryd.prog bk 81 (encL (PV.int .u8)) (okL (okI .u8)) := Rd_slice Tryd.underlying81 (by kernel_rfl) (by rw [show Tryd.prog.cellsOf 5 = 1 by kernel_rfl]; omega) bk_law rd5
theorem rd22 : Rd Tryd.prog bk 22 (encL (encL (PV.int .u8))) (okL (okL (okI .u8))) := Rd_slice Tryd.underlying22 (by kernel_rfl) (by rw [show Tryd.prog.cellsOf 81 = 1 by kernel_rfl]; omega) bk_law rd81
theorem rd24 : Rd Tryd.prog bk 24 encDrossref03_Recipe okDrossref03_Recipe := by
  refine Rd_struct Tryd.underlying24 (by kernel_rfl) bk_law (RdFs.cons rd5 (RdFs.cons rd5 (RdFs.cons rd22 RdFs.nil))) (fun x => ⟨x.1, x.2.1, x.2.2.1⟩) (fun x => by rw [show Tryd.prog.cellsOf 24 = 3 by kernel_rfl]; rfl) ?_ (fun _ => rfl) (fun _ => rfl) ?_
  · intro x y hy
    simp only [encDrossref03_Recipe_cells, List.mem_cons, List.not_mem_nil, or_false] at hy
    rcases hy with rfl | rfl | rfl <;> exact ⟨rfl, rfl⟩
  · rintro ⟨x0, x1, x2, ⟨⟩⟩ h
    simp only [okDrossref03_Recipe] at h ⊢
    simp_all
theorem rd9 : Rd Tryd.prog bk 9 PV.str okS := Rd_str Tryd.underlying9 (by kernel_rfl) bk_law
theorem rd25 : Rd Tryd.prog bk 25 (encL PV.str) (okL okS) := Rd_slice Tryd.underlying25 (by kernel_rfl) (by rw [show Tryd.prog.cellsOf 9 = 1 by kernel_rfl]; omega) bk_law rd9
theorem rd2 : Rd Tryd.prog bk 2 (PV.int .i64) (okI .i64) := Rd_int Tryd.underlying2 (by kernel_rfl)
theorem rd3 : Rd Tryd.prog bk 3 (PV.int .i64) (okI .i64) := Rd_int Tryd.underlying3 (by kernel_rfl)
theorem rd83 : Rd Tryd.prog bk 83 encValue okValue := by
  refine Rd_struct Tryd.underlying83 (by kernel_rfl) bk_law (RdFs.cons rd3 (RdFs.cons rd2 (RdFs.cons rd9 RdFs.nil))) (fun x => ⟨x.1, x.2.1, x.2.2.1⟩) (fun x => by rw [show Tryd.prog.cellsOf 83 = 3 by kernel_rfl]; rfl) ?_ (fun _ => rfl) (fun _ => rfl) ?_
  · intro x y hy
    simp only [encValue_cells, List.mem_cons, List.not_mem_nil, or_false] at hy
    rcases hy with rfl | rfl | rfl <;> exact ⟨rfl, rfl⟩
  · rintro ⟨x0, x1, x2, ⟨⟩⟩ h
    simp only [okValue] at h ⊢
    simp_all
theorem rd38 : Rd Tryd.prog bk 38 (encL encValue) (okL okValue) := Rd_slice Tryd.underlying38 (by kernel_rfl) (by rw [show Tryd.prog.cellsOf 83 = 3 by kernel_rfl]; omega) bk_law rd83
theorem rd40 : Rd Tryd.prog bk 40 encRow okRow := by
  refine Rd_struct Tryd.underlying40 (by kernel_rfl) bk_law (RdFs.cons rd2 (RdFs.cons rd38 RdFs.nil)) (fun x => ⟨x.1, x.2.1⟩) (fun x => by rw [show Tryd.prog.cellsOf 40 = 2 by kernel_rfl]; rfl) ?_ (fun _ => rfl) (fun _ => rfl) ?_
  · intro x y hy
    simp only [encRow_cells, List.mem_cons, List.not_mem_nil, or_false] at hy
    rcases hy with rfl | rfl <;> exact ⟨rfl, rfl⟩
  · rintro ⟨x0, x1, ⟨⟩⟩ h
    simp only [okRow] at h ⊢
    simp_all
theorem rd26 : Rd Tryd.prog bk 26 (encL encRow) (okL okRow) := Rd_slice Tryd.underlying26 (by kernel_rfl) (by rw [show Tryd.prog.cellsOf 40 = 2 by kernel_rfl]; omega) bk_law rd40
theorem rd28 : Rd Tryd.prog bk 28 encTable okTable := by
  refine Rd_struct Tryd.underlying28 (by kernel_rfl) bk_law (RdFs.cons rd9 (RdFs.cons rd25 (RdFs.cons rd26 RdFs.nil))) (fun x => ⟨x.1, x.2.1, x.2.2.1⟩) (fun x => by rw [show Tryd.prog.cellsOf 28 = 3 by kernel_rfl]; rfl) ?_ (fun _ => rfl) (fun _ => rfl) ?_
  · intro x y hy
    simp only [encTable_cells, List.mem_cons, List.not_mem_nil, or_false] at hy
    rcases hy with rfl | rfl | rfl <;> exact ⟨rfl, rfl⟩
  · rintro ⟨x0, x1, x2, ⟨⟩⟩ h
    simp only [okTable] at h ⊢
    simp_all
theorem rd33 : Rd Tryd.prog bk 33 (PV.int .u32) (okI .u32) := Rd_int Tryd.underlying33 (by kernel_rfl)
theorem rd36 : Rd Tryd.prog bk 36 encFD okFD := by
  refine Rd_struct Tryd.underlying36 (by kernel_rfl) bk_law (RdFs.cons rd33 (RdFs.cons rd33 RdFs.nil)) (fun x => ⟨x.1, x.2.1⟩) (fun x => by rw [show Tryd.prog.cellsOf 36 = 2 by kernel_rfl]; rfl) ?_ (fun _ => rfl) (fun _ => rfl) ?_
  · intro x y hy
    simp only [encFD_cells, List.mem_cons, List.not_mem_nil, or_false] at hy
    rcases hy with rfl | rfl <;> exact ⟨rfl, rfl⟩
  · rintro ⟨x0, x1, ⟨⟩⟩ h
    simp only [okFD] at h ⊢
    simp_all
theorem rd54 : Rd Tryd.prog bk 54 encArr4_uint8 okArr4_uint8 := by
  refine Rd_array (fs := [⟨ "", 5, 0, false, "", "", 0⟩, ⟨ "", 5, 1, false, "", "", 0⟩, ⟨ "", 5, 2, false, "", "", 0⟩, ⟨ "", 5, 3, false, "", "", 0⟩]) Tryd.underlying54 (by rw [show Tryd.prog.cellsOf 5 = 1 by kernel_rfl]; rfl) (by kernel_rfl) bk_law (RdFs.cons (fd := ⟨ "", 5, 0, false, "", "", 0⟩) rd5 (RdFs.cons (fd := ⟨ "", 5, 1, false, "", "", 0⟩) rd5 (RdFs.cons (fd := ⟨ "", 5, 2, false, "", "", 0⟩) rd5 (RdFs.cons (fd := ⟨ "", 5, 3, false, "", "", 0⟩) rd5 RdFs.nil)))) (fun x => ⟨x.1, x.2.1, x.2.2.1, x.2.2.2.1⟩) (fun x => by rw [show Tryd.prog.cellsOf 54 = 4 by kernel_rfl]; rfl) ?_ (fun _ => rfl) (fun _ => rfl) ?_
  · intro x y hy
    simp only [encArr4_uint8_cells, List.mem_cons, List.not_mem_nil, or_false] at hy
    rcases hy with rfl | rfl | rfl | rfl <;> exact ⟨rfl, rfl⟩
  · rintro ⟨x0, x1, x2, x3, ⟨⟩⟩ h
    simp only [okArr4_uint8] at h ⊢
    simp_all
end Go.Proofs.YtjcdclpfeflfkaaDoor
namespace Go.Proofs.YtjcdclpfeflfkaaDoor.ApproxMonotone
open Go Go.Ab Go.ChangeShapes
set_option linter.unusedVariables false
theorem own : ownKnob Tryd.prog.godebug = none := by kernel_rfl
theorem gTab : Tryd.prog.globalNamed "math/bits.deBruijn32tab" = some 0 := by kernel_rfl
theorem gTabType : (Tryd.prog.globals[0]?).map (·.type) = some 165 := by kernel_rfl
theorem gCells : Tryd.prog.cellsOf 165 = 32 := by kernel_rfl
theorem eCells : Tryd.prog.cellsOf 5 = 1 := by kernel_rfl
theorem table {W : World} (h : laidMetH Tryd.prog YtjcdclpfeflfkaaDoor.Rows.approxMonotoneUptoRow.laid W) : Lib.TabIs Tryd.prog W "math/bits.deBruijn32tab" .u8 tabNs :=
  Lib.tabIs_of_head (rest := []) gTab gTabType Tryd.underlying165 Tryd.underlying5 eCells gCells h
theorem tabOk {W : World} (h : laidMetH Tryd.prog YtjcdclpfeflfkaaDoor.Rows.approxMonotoneUptoRow.laid W) : Go.Ab.TabOk Tryd.prog NoX W := by
  intro g hg
  obtain rfl := Option.some.inj (gTab.symm.trans hg)
  have hc : ∀ i, i < 32 → W.cell? ⟨0, i, none⟩ = some (.int .u8 (tabNs.getD i 0)) := fun i hi => (table h).cell gTab i (by simpa [tabNs] using hi)
  refine ⟨World.block_lt_of_cell? W _ (hc 0 (by omega)), fun h => h, fun j u hu => ?_⟩
  rw [List.getElem?_map] at hu
  cases hj : tabNs[j]? with
  | none => rw [hj] at hu; cases hu
  | some z =>
    rw [hj] at hu
    simp only [Option.map_some, Option.some.injEq] at hu
    subst hu
    have hlt : j < 32 := by have := (List.getElem?_eq_some_iff.1 hj).1; simpa [tabNs] using this
    have := hc j hlt
    rw [List.getD_eq_getElem?_getD, hj] at this
    simpa using this
set_option maxRecDepth 100000 in
theorem contract (H : Type) (enc : TypeId × Go.Value → H) (W : World) (base : Nat) (args : Array Go.Value) (ds gs : List (DataW H)) (before : List MemPlace)
    (hval : ∀ (j : Nat) t v, Tryd.f6.params[j]? = some t → args[j]? = some v → Go.Value.okWide Tryd.prog W .any base t v)
    (hW : DataW.Whole enc Tryd.prog Tryd.f6.params.toList YtjcdclpfeflfkaaDoor.Rows.approxMonotoneSpec.vars false W args.toList ds gs before) (hk : YtjcdclpfeflfkaaDoor.Rows.uptoSmall H (ds ++ gs) = true) (hL : laidMetH Tryd.prog YtjcdclpfeflfkaaDoor.Rows.approxMonotoneUptoRow.laid W) :
    Calls Tryd.prog 6 args W fun e W' => ∃ v, e = .returned v ∧ YtjcdclpfeflfkaaDoor.Rows.approxMonotoneSpec.post enc Tryd.prog Tryd.f6 false true false false W args v W' := by
  have hW0 := hW
  obtain ⟨p, q, hA, hV, rfl, hfz, hnd⟩ := hW0
  rw [Tryd.params6] at hA hval
  obtain ⟨v0, vs0, d0, ds0, p0, q0, hargs0, rfl, rfl, h0, r0⟩ := trodAll_cons hA
  obtain ⟨v1, vs1, d1, ds1, p1, q1, hargs1, rfl, rfl, h1, r1⟩ := trodAll_cons r0
  obtain ⟨v2, vs2, d2, ds2, p2, q2, hargs2, rfl, rfl, h2, r2⟩ := trodAll_cons r1
  obtain ⟨rfl, rfl, rfl⟩ := trodAll_nil r2
  obtain rfl : args = #[v0, v1, v2] := by cases args; simp_all
  obtain ⟨rfl, rfl⟩ := trodVars_none hV
  obtain ⟨x0, hx0, ok0⟩ := rd24.val (hval 0 24 v0 rfl rfl) h0 (bk_small hk (by simp))
  obtain ⟨x1, hx1, ok1⟩ := rd54.val (hval 1 54 v1 rfl rfl) h1 (bk_small hk (by simp))
  obtain ⟨x2, hx2, ok2⟩ := rd5.val (hval 2 5 v2 rfl rfl) h2 (bk_small hk (by simp))
  exact law_post (D := False) hW rfl rfl rfl Tryd.underlying4 (by kernel_rfl) (by kernel_rfl) (by kernel_rfl) (by rw [Tryd.params6]; decide +kernel) (drosslaw32_ApproxMonotone_con x0 x1 x2 _ (ApproxMonotone_holds x0 x1 x2 ok0 ok1 ok2)) (tabOk hL) ⟨_, _, rfl, hx0, ⟨_, _, rfl, hx1, ⟨_, _, rfl, hx2, rfl⟩⟩⟩
noncomputable def laidWorld (os : Os) : World :=
  { World.holding Tryd.prog os ⟨#[], #[], []⟩ with heap := (World.holding Tryd.prog os ⟨#[], #[], []⟩).heap.modify 0 fun
      | .cells _ t frozen => .cells #[.int .u8 0, .int .u8 1, .int .u8 28, .int .u8 2, .int .u8 29, .int .u8 14, .int .u8 24, .int .u8 3, .int .u8 30, .int .u8 22, .int .u8 20, .int .u8 15, .int .u8 25, .int .u8 17, .int .u8 4, .int .u8 8, .int .u8 31, .int .u8 27, .int .u8 13, .int .u8 23, .int .u8 21, .int .u8 19, .int .u8 16, .int .u8 7, .int .u8 26, .int .u8 12, .int .u8 18, .int .u8 6, .int .u8 11, .int .u8 5, .int .u8 10, .int .u8 9] t frozen
      | o => o }
theorem laid_met (os : Os) : laidMet Tryd.prog YtjcdclpfeflfkaaDoor.Rows.approxMonotoneUptoRow.laid ((laidWorld os).forCall (fun _ _ => 0) ⟨#[], #[.agg #[.int .u8 0, .int .u8 0, .slice none 0 0], .agg #[.int .u8 0, .int .u8 0, .int .u8 0, .int .u8 0], .int .u8 0], []⟩).memory :=
  laidMet_of_run' 8 (by kernel_rfl) (by kernel_rfl)
theorem reads (os : Os) {H : Type} (enc : TypeId × Go.Value → H) : ∃ places, DataW.whole enc Tryd.prog ((laidWorld os).forCall (fun _ _ => 0) ⟨#[], #[.agg #[.int .u8 0, .int .u8 0, .slice none 0 0], .agg #[.int .u8 0, .int .u8 0, .int .u8 0, .int .u8 0], .int .u8 0], []⟩).memory Tryd.f6.params.toList YtjcdclpfeflfkaaDoor.Rows.approxMonotoneSpec.vars false (#[.agg #[.int .u8 0, .int .u8 0, .slice none 0 0], .agg #[.int .u8 0, .int .u8 0, .int .u8 0, .int .u8 0], .int .u8 0] : Array Go.Value).toList 8 = some ([.agg [.lit (.int .u8 0), .lit (.int .u8 0), .nil], .agg [.lit (.int .u8 0), .lit (.int .u8 0), .lit (.int .u8 0), .lit (.int .u8 0)], .lit (.int .u8 0)], [], places) :=
  ⟨[], by kernel_rfl⟩
set_option maxRecDepth 100000 in
theorem lifted (os : Os) (started : os.Started) (H : Type) (enc : TypeId × Go.Value → H) (F : Stop.Interp) :
    ReturnsInHanded {} Tryd.checked os 6 .any ((YtjcdclpfeflfkaaDoor.Rows.OpenSpec.upto YtjcdclpfeflfkaaDoor.Rows.approxMonotoneSpec).preRow enc Tryd.prog Tryd.f6 YtjcdclpfeflfkaaDoor.Rows.approxMonotoneUptoRow.domain false YtjcdclpfeflfkaaDoor.Rows.approxMonotoneUptoRow.laid) (((YtjcdclpfeflfkaaDoor.Rows.OpenSpec.upto YtjcdclpfeflfkaaDoor.Rows.approxMonotoneSpec).at F).post enc Tryd.prog Tryd.f6 false true false false) := by
  obtain ⟨places, hx⟩ := reads os enc
  refine returnsInHanded_of_row (C := Tryd.checked) (s := YtjcdclpfeflfkaaDoor.Rows.OpenSpec.upto YtjcdclpfeflfkaaDoor.Rows.approxMonotoneSpec) own started (by kernel_rfl) Tryd.func6
    (witness_row_at (enc := enc) (C := Tryd.checked) false (laidWorld os) #[.agg #[.int .u8 0, .int .u8 0, .slice none 0 0], .agg #[.int .u8 0, .int .u8 0, .int .u8 0, .int .u8 0], .int .u8 0] rfl (by kernel_rfl) (by kernel_rfl) (by kernel_rfl)
      (OpenSpec.preRow_of_cond 8 hx (by kernel_rfl) (fun k hk => by cases hk; kernel_rfl) (by kernel_rfl) (laid_met os))) ?_
  intro W base args ds gs before hval hW _ hcond _ hL _ _
  exact contract H enc W base args ds gs before hval hW (hcond _ rfl) hL
theorem said : YtjcdclpfeflfkaaDoor.Rows.ApproxMonotoneUptoSaid :=
  OpenClaim.holds_of_cond 6 Tryd.f6 rfl rfl rfl rfl rfl rfl rfl ⟨rfl, rfl, rfl, rfl, rfl⟩ rfl rfl rfl rfl rfl (by kernel_rfl) Tryd.func6 (by kernel_rfl)
    (of_decide_eq_true (by kernel_rfl)) (by unfold Func.isWrapper; first | (rw [if_pos (by decide +kernel)]; kernel_rfl) | (rw [if_neg (by decide +kernel)]; exact ⟨rfl, rfl⟩))
    (fun os started H enc _ F => by rw [OpenClaim.pre_eq_preRow]; exact lifted os started H enc F)
theorem plain (f : FuncId) (fn : Func) (hf : YtjcdclpfeflfkaaDoor.Tryd.pinned.checked.prog.funcNamed "dross/drosslaw32.ApproxMonotone" = some f) (hfn : YtjcdclpfeflfkaaDoor.Tryd.pinned.checked.prog.funcs[f]? = some fn) :
    false = YtjcdclpfeflfkaaDoor.Tryd.pinned.checked.prog.looks [] ∧ ∀ (j : Nat) t, fn.params[j]? = some t → YtjcdclpfeflfkaaDoor.Tryd.pinned.checked.prog.wantsStandIn t = false := by
  obtain rfl : f = 6 := Option.some.inj ((show Tryd.prog.funcNamed "dross/drosslaw32.ApproxMonotone" = some 6 by kernel_rfl).symm.trans hf) |>.symm
  obtain rfl : fn = Tryd.f6 := (Option.some.inj (Tryd.func6.symm.trans hfn)).symm
  refine ⟨by kernel_rfl, fun j t ht => ?_⟩
  rw [Tryd.params6] at ht
  have hm : t ∈ [24, 54, 5] := by simpa using Array.mem_of_getElem? ht
  have hall : ([24, 54, 5].all fun u => !Tryd.prog.wantsStandIn u) = true := by kernel_rfl
  exact (show Tryd.prog.wantsStandIn t = false by simpa using List.all_eq_true.1 hall t hm)
theorem proved : YtjcdclpfeflfkaaDoor.Rows.ApproxMonotoneUptoCardSaid :=
  Claim7.holds_tied_plain_at .later [] _ _ _ _ said (fun _ h => by cases h) (by kernel_rfl) (fun _ h => by cases h) YtjcdclpfeflfkaaDoor.approxMonotoneUpto_row_tie rfl ⟨rfl, rfl⟩ (by kernel_rfl) rfl plain (by kernel_rfl)
end Go.Proofs.YtjcdclpfeflfkaaDoor.ApproxMonotone
