/- The statement DenialFewer: the arguments are read, the function is called, the answer is true. -/
import Derived.Test.YtlaodgbkpmdhoaaGreatDoorRows
import Derived.Test.YtlaodgbkpmdhoaaGreatDoorCards
import Derived.Test.YtlaodgbkpmdhoaaGreatDoorTie
import Derived.Lib.LaidTab
import Derived.Deep.DeepHandedRow
import Derived.Test.YtlaodgbkpmdhoaaGreatDoorA2
import Derived.Test.YtlaodgbkpmdhoaaGreatDoorW1
import Derived.Test.YtlaodgbkpmdhoaaGreatDoorL1
import Derived.Test.YtlaodgbkpmdhoaaGreatDoorW2
import Derived.Test.YtlaodgbkpmdhoaaGreatDoorL2
set_option linter.unusedVariables false
set_option linter.unusedSimpArgs false
namespace Go.Proofs.YtlaodgbkpmdhoaaGreatDoor
open Go Go.Ab
abbrev bk : (H : Type) → DataW H → Nat := fun H d => YtlaodgbkpmdhoaaGreatDoor.Rows.uptoBulk d
theorem bk_one {H : Type} (d : DataW H) : 1 ≤ YtlaodgbkpmdhoaaGreatDoor.Rows.uptoBulk d := by
  cases d with
  | lit l => cases l <;> simp [YtlaodgbkpmdhoaaGreatDoor.Rows.uptoBulk]
  | _ => simp [YtlaodgbkpmdhoaaGreatDoor.Rows.uptoBulk]
theorem bk_part {H : Type} {d : DataW H} {l : List (DataW H)} (h : d ∈ l) : YtlaodgbkpmdhoaaGreatDoor.Rows.uptoBulk d ≤ YtlaodgbkpmdhoaaGreatDoor.Rows.uptoBulkAll l := by
  induction l with
  | nil => cases h
  | cons x r ih =>
    simp only [YtlaodgbkpmdhoaaGreatDoor.Rows.uptoBulkAll]
    cases List.mem_cons.1 h with
    | inl e => subst e; omega
    | inr e => have := ih e; omega
theorem bk_len {H : Type} (l : List (DataW H)) : l.length ≤ YtlaodgbkpmdhoaaGreatDoor.Rows.uptoBulkAll l := by
  induction l with
  | nil => simp [YtlaodgbkpmdhoaaGreatDoor.Rows.uptoBulkAll]
  | cons x r ih => have := bk_one x; simp only [YtlaodgbkpmdhoaaGreatDoor.Rows.uptoBulkAll, List.length_cons]; omega
theorem bk_law : Bulk bk := by
  refine ⟨fun H s => ?_, fun H es sp => ?_, fun H es sp d hd => ?_, fun H ps d hd => ?_⟩
  · simp [bk, YtlaodgbkpmdhoaaGreatDoor.Rows.uptoBulk]
  · have := bk_len es; simp only [bk, YtlaodgbkpmdhoaaGreatDoor.Rows.uptoBulk]; omega
  · have := bk_part hd; simp only [bk, YtlaodgbkpmdhoaaGreatDoor.Rows.uptoBulk]; omega
  · have := bk_part hd; simp only [bk, YtlaodgbkpmdhoaaGreatDoor.Rows.uptoBulk]; omega
theorem bk_small {H : Type} {ds : List (DataW H)} (h : YtlaodgbkpmdhoaaGreatDoor.Rows.uptoSmall H ds = true) {d : DataW H} (hd : d ∈ ds) : bk H d ≤ 1048576 := Nat.le_trans (bk_part hd) (of_decide_eq_true h)
theorem rd3 : Rd Tryz.prog bk 3 (PV.int .i64) (okI .i64) := Rd_int Tryz.underlying3 (by kernel_rfl)
theorem rd2 : Rd Tryz.prog bk 2 (PV.int .i64) (okI .i64) := Rd_int Tryz.underlying2 (by kernel_rfl)
theorem rd9 : Rd Tryz.prog bk 9 PV.str okS := Rd_str Tryz.underlying9 (by kernel_rfl) bk_law
theorem rd27 : Rd Tryz.prog bk 27 encValue okValue := by
  refine Rd_struct Tryz.underlying27 (by kernel_rfl) bk_law (RdFs.cons rd3 (RdFs.cons rd2 (RdFs.cons rd9 RdFs.nil))) (fun x => ⟨x.1, x.2.1, x.2.2.1⟩) (fun x => by rw [show Tryz.prog.cellsOf 27 = 3 by kernel_rfl]; rfl) ?_ (fun _ => rfl) (fun _ => rfl) ?_
  · intro x y hy
    simp only [encValue_cells, List.mem_cons, List.not_mem_nil, or_false] at hy
    rcases hy with rfl | rfl | rfl <;> exact ⟨rfl, rfl⟩
  · rintro ⟨x0, x1, x2, ⟨⟩⟩ h
    simp only [okValue] at h ⊢
    simp_all
theorem rd29 : Rd Tryz.prog bk 29 encTerm okTerm := by
  refine Rd_struct Tryz.underlying29 (by kernel_rfl) bk_law (RdFs.cons rd3 (RdFs.cons rd3 (RdFs.cons rd27 RdFs.nil))) (fun x => ⟨x.1, x.2.1, x.2.2.1⟩) (fun x => by rw [show Tryz.prog.cellsOf 29 = 5 by kernel_rfl]; rfl) ?_ (fun _ => rfl) (fun _ => rfl) ?_
  · intro x y hy
    simp only [encTerm_cells, List.mem_cons, List.not_mem_nil, or_false] at hy
    rcases hy with rfl | rfl | rfl | rfl | rfl <;> exact ⟨rfl, rfl⟩
  · rintro ⟨x0, x1, x2, ⟨⟩⟩ h
    simp only [okTerm] at h ⊢
    simp_all
theorem rd31 : Rd Tryz.prog bk 31 encAtom okAtom := by
  refine Rd_struct Tryz.underlying31 (by kernel_rfl) bk_law (RdFs.cons rd29 (RdFs.cons rd3 (RdFs.cons rd29 RdFs.nil))) (fun x => ⟨x.1, x.2.1, x.2.2.1⟩) (fun x => by rw [show Tryz.prog.cellsOf 31 = 11 by kernel_rfl]; rfl) ?_ (fun _ => rfl) (fun _ => rfl) ?_
  · intro x y hy
    simp only [encAtom_cells, List.mem_cons, List.not_mem_nil, or_false] at hy
    rcases hy with rfl | rfl | rfl | rfl | rfl | rfl | rfl | rfl | rfl | rfl | rfl <;> exact ⟨rfl, rfl⟩
  · rintro ⟨x0, x1, x2, ⟨⟩⟩ h
    simp only [okAtom] at h ⊢
    simp_all
theorem rd22 : Rd Tryz.prog bk 22 (encL encAtom) (okL okAtom) := Rd_slice Tryz.underlying22 (by kernel_rfl) (by rw [show Tryz.prog.cellsOf 31 = 11 by kernel_rfl]; omega) bk_law rd31
theorem rd24 : Rd Tryz.prog bk 24 encDenial okDenial := by
  refine Rd_struct Tryz.underlying24 (by kernel_rfl) bk_law (RdFs.cons rd3 (RdFs.cons rd22 RdFs.nil)) (fun x => ⟨x.1, x.2.1⟩) (fun x => by rw [show Tryz.prog.cellsOf 24 = 2 by kernel_rfl]; rfl) ?_ (fun _ => rfl) (fun _ => rfl) ?_
  · intro x y hy
    simp only [encDenial_cells, List.mem_cons, List.not_mem_nil, or_false] at hy
    rcases hy with rfl | rfl <;> exact ⟨rfl, rfl⟩
  · rintro ⟨x0, x1, ⟨⟩⟩ h
    simp only [okDenial] at h ⊢
    simp_all
theorem rd5 : Rd Tryz.prog bk 5 (PV.int .u8) (okI .u8) := Rd_int Tryz.underlying5 (by kernel_rfl)
theorem rd102 : Rd Tryz.prog bk 102 (encL (PV.int .u8)) (okL (okI .u8)) := Rd_slice Tryz.underlying102 (by kernel_rfl) (by rw [show Tryz.prog.cellsOf 5 = 1 by kernel_rfl]; omega) bk_law rd5
theorem rd34 : Rd Tryz.prog bk 34 (encL (encL (PV.int .u8))) (okL (okL (okI .u8))) := Rd_slice Tryz.underlying34 (by kernel_rfl) (by rw [show Tryz.prog.cellsOf 102 = 1 by kernel_rfl]; omega) bk_law rd102
theorem rd36 : Rd Tryz.prog bk 36 encDrossref03_Recipe okDrossref03_Recipe := by
  refine Rd_struct Tryz.underlying36 (by kernel_rfl) bk_law (RdFs.cons rd5 (RdFs.cons rd5 (RdFs.cons rd34 RdFs.nil))) (fun x => ⟨x.1, x.2.1, x.2.2.1⟩) (fun x => by rw [show Tryz.prog.cellsOf 36 = 3 by kernel_rfl]; rfl) ?_ (fun _ => rfl) (fun _ => rfl) ?_
  · intro x y hy
    simp only [encDrossref03_Recipe_cells, List.mem_cons, List.not_mem_nil, or_false] at hy
    rcases hy with rfl | rfl | rfl <;> exact ⟨rfl, rfl⟩
  · rintro ⟨x0, x1, x2, ⟨⟩⟩ h
    simp only [okDrossref03_Recipe] at h ⊢
    simp_all
theorem rd37 : Rd Tryz.prog bk 37 (PV.int .u32) (okI .u32) := Rd_int Tryz.underlying37 (by kernel_rfl)
theorem rd62 : Rd Tryz.prog bk 62 (encL (PV.int .i64)) (okL (okI .i64)) := Rd_slice Tryz.underlying62 (by kernel_rfl) (by rw [show Tryz.prog.cellsOf 3 = 1 by kernel_rfl]; omega) bk_law rd3
theorem rd64 : Rd Tryz.prog bk 64 encOD okOD := by
  refine Rd_struct Tryz.underlying64 (by kernel_rfl) bk_law (RdFs.cons rd62 (RdFs.cons rd62 RdFs.nil)) (fun x => ⟨x.1, x.2.1⟩) (fun x => by rw [show Tryz.prog.cellsOf 64 = 2 by kernel_rfl]; rfl) ?_ (fun _ => rfl) (fun _ => rfl) ?_
  · intro x y hy
    simp only [encOD_cells, List.mem_cons, List.not_mem_nil, or_false] at hy
    rcases hy with rfl | rfl <;> exact ⟨rfl, rfl⟩
  · rintro ⟨x0, x1, ⟨⟩⟩ h
    simp only [okOD] at h ⊢
    simp_all
theorem rd122 : Rd Tryz.prog bk 122 encDrossref18_Side okDrossref18_Side := by
  refine Rd_struct Tryz.underlying122 (by kernel_rfl) bk_law (RdFs.cons rd5 (RdFs.cons rd5 RdFs.nil)) (fun x => ⟨x.1, x.2.1⟩) (fun x => by rw [show Tryz.prog.cellsOf 122 = 2 by kernel_rfl]; rfl) ?_ (fun _ => rfl) (fun _ => rfl) ?_
  · intro x y hy
    simp only [encDrossref18_Side_cells, List.mem_cons, List.not_mem_nil, or_false] at hy
    rcases hy with rfl | rfl <;> exact ⟨rfl, rfl⟩
  · rintro ⟨x0, x1, ⟨⟩⟩ h
    simp only [okDrossref18_Side] at h ⊢
    simp_all
theorem rd124 : Rd Tryz.prog bk 124 encDrossref18_Sentence okDrossref18_Sentence := by
  refine Rd_struct Tryz.underlying124 (by kernel_rfl) bk_law (RdFs.cons rd122 (RdFs.cons rd5 (RdFs.cons rd122 RdFs.nil))) (fun x => ⟨x.1, x.2.1, x.2.2.1⟩) (fun x => by rw [show Tryz.prog.cellsOf 124 = 5 by kernel_rfl]; rfl) ?_ (fun _ => rfl) (fun _ => rfl) ?_
  · intro x y hy
    simp only [encDrossref18_Sentence_cells, List.mem_cons, List.not_mem_nil, or_false] at hy
    rcases hy with rfl | rfl | rfl | rfl | rfl <;> exact ⟨rfl, rfl⟩
  · rintro ⟨x0, x1, x2, ⟨⟩⟩ h
    simp only [okDrossref18_Sentence] at h ⊢
    simp_all
theorem rd70 : Rd Tryz.prog bk 70 (encL encDrossref18_Sentence) (okL okDrossref18_Sentence) := Rd_slice Tryz.underlying70 (by kernel_rfl) (by rw [show Tryz.prog.cellsOf 124 = 5 by kernel_rfl]; omega) bk_law rd124
theorem rd72 : Rd Tryz.prog bk 72 encDrossref18_Recipe okDrossref18_Recipe := by
  refine Rd_struct Tryz.underlying72 (by kernel_rfl) bk_law (RdFs.cons rd5 (RdFs.cons rd70 RdFs.nil)) (fun x => ⟨x.1, x.2.1⟩) (fun x => by rw [show Tryz.prog.cellsOf 72 = 2 by kernel_rfl]; rfl) ?_ (fun _ => rfl) (fun _ => rfl) ?_
  · intro x y hy
    simp only [encDrossref18_Recipe_cells, List.mem_cons, List.not_mem_nil, or_false] at hy
    rcases hy with rfl | rfl <;> exact ⟨rfl, rfl⟩
  · rintro ⟨x0, x1, ⟨⟩⟩ h
    simp only [okDrossref18_Recipe] at h ⊢
    simp_all
theorem rd4 : Rd Tryz.prog bk 4 PV.bool (fun _ : Bool => True) := Rd_bool Tryz.underlying4 (by kernel_rfl)
theorem rd93 : Rd Tryz.prog bk 93 encCell okCell := by
  refine Rd_struct Tryz.underlying93 (by kernel_rfl) bk_law (RdFs.cons rd4 (RdFs.cons rd27 RdFs.nil)) (fun x => ⟨x.1, x.2.1⟩) (fun x => by rw [show Tryz.prog.cellsOf 93 = 4 by kernel_rfl]; rfl) ?_ (fun _ => rfl) (fun _ => rfl) ?_
  · intro x y hy
    simp only [encCell_cells, List.mem_cons, List.not_mem_nil, or_false] at hy
    rcases hy with rfl | rfl | rfl | rfl <;> exact ⟨rfl, rfl⟩
  · rintro ⟨x0, x1, ⟨⟩⟩ h
    simp only [okCell] at h ⊢
    simp_all
theorem rd89 : Rd Tryz.prog bk 89 (encL encCell) (okL okCell) := Rd_slice Tryz.underlying89 (by kernel_rfl) (by rw [show Tryz.prog.cellsOf 93 = 4 by kernel_rfl]; omega) bk_law rd93
theorem rd91 : Rd Tryz.prog bk 91 encCFD okCFD := by
  refine Rd_struct Tryz.underlying91 (by kernel_rfl) bk_law (RdFs.cons rd62 (RdFs.cons rd3 (RdFs.cons rd89 RdFs.nil))) (fun x => ⟨x.1, x.2.1, x.2.2.1⟩) (fun x => by rw [show Tryz.prog.cellsOf 91 = 3 by kernel_rfl]; rfl) ?_ (fun _ => rfl) (fun _ => rfl) ?_
  · intro x y hy
    simp only [encCFD_cells, List.mem_cons, List.not_mem_nil, or_false] at hy
    rcases hy with rfl | rfl | rfl <;> exact ⟨rfl, rfl⟩
  · rintro ⟨x0, x1, x2, ⟨⟩⟩ h
    simp only [okCFD] at h ⊢
    simp_all
end Go.Proofs.YtlaodgbkpmdhoaaGreatDoor
namespace Go.Proofs.YtlaodgbkpmdhoaaGreatDoor.DenialFewer
open Go Go.Ab Go.ChangeShapes
set_option linter.unusedVariables false
theorem own : ownKnob Tryz.prog.godebug = none := by kernel_rfl
theorem gTab : Tryz.prog.globalNamed "math/bits.deBruijn32tab" = some 0 := by kernel_rfl
theorem gTabType : (Tryz.prog.globals[0]?).map (·.type) = some 188 := by kernel_rfl
theorem gCells : Tryz.prog.cellsOf 188 = 32 := by kernel_rfl
theorem eCells : Tryz.prog.cellsOf 5 = 1 := by kernel_rfl
theorem table {W : World} (h : laidMetH Tryz.prog YtlaodgbkpmdhoaaGreatDoor.Rows.denialFewerUptoRow.laid W) : Lib.TabIs Tryz.prog W "math/bits.deBruijn32tab" .u8 tabNs :=
  Lib.tabIs_of_head (rest := []) gTab gTabType Tryz.underlying188 Tryz.underlying5 eCells gCells h
theorem tabOk {W : World} (h : laidMetH Tryz.prog YtlaodgbkpmdhoaaGreatDoor.Rows.denialFewerUptoRow.laid W) : Go.Ab.TabOk Tryz.prog NoX W := by
  intro g hg
  obtain rfl := Option.some.inj (gTab.symm.trans hg)
  have hc : ∀ i, i < 32 → W.cell? ⟨0, i, none⟩ = some (.int .u8 (tabNs.getD i 0)) := fun i hi => (table h).cell gTab i (by simpa [tabNs] using hi)
  refine ⟨World.block_lt_of_cell? W _ (hc 0 (by omega)), fun h => h, fun j u hu => ?_⟩
  rw [List.getElem?_map] at hu
  cases hj : tabNs[j]? with
  | none => rw [hj] at hu; cases hu
  | some z =>
    rw [hj] at hu
    simp only [Option.map_some, Option.some.injEq] at hu
    subst hu
    have hlt : j < 32 := by have := (List.getElem?_eq_some_iff.1 hj).1; simpa [tabNs] using this
    have := hc j hlt
    rw [List.getD_eq_getElem?_getD, hj] at this
    simpa using this
set_option maxRecDepth 100000 in
theorem contract (H : Type) (enc : TypeId × Go.Value → H) (W : World) (base : Nat) (args : Array Go.Value) (ds gs : List (DataW H)) (before : List MemPlace)
    (hval : ∀ (j : Nat) t v, Tryz.f9.params[j]? = some t → args[j]? = some v → Go.Value.okWide Tryz.prog W .any base t v)
    (hW : DataW.Whole enc Tryz.prog Tryz.f9.params.toList YtlaodgbkpmdhoaaGreatDoor.Rows.denialFewerSpec.vars false W args.toList ds gs before) (hk : YtlaodgbkpmdhoaaGreatDoor.Rows.uptoSmall H (ds ++ gs) = true) (hL : laidMetH Tryz.prog YtlaodgbkpmdhoaaGreatDoor.Rows.denialFewerUptoRow.laid W) :
    Calls Tryz.prog 9 args W fun e W' => ∃ v, e = .returned v ∧ YtlaodgbkpmdhoaaGreatDoor.Rows.denialFewerSpec.post enc Tryz.prog Tryz.f9 false true false false W args v W' := by
  have hW0 := hW
  obtain ⟨p, q, hA, hV, rfl, hfz, hnd⟩ := hW0
  rw [Tryz.params9] at hA hval
  obtain ⟨v0, vs0, d0, ds0, p0, q0, hargs0, rfl, rfl, h0, r0⟩ := trodAll_cons hA
  obtain ⟨v1, vs1, d1, ds1, p1, q1, hargs1, rfl, rfl, h1, r1⟩ := trodAll_cons r0
  obtain ⟨v2, vs2, d2, ds2, p2, q2, hargs2, rfl, rfl, h2, r2⟩ := trodAll_cons r1
  obtain ⟨rfl, rfl, rfl⟩ := trodAll_nil r2
  obtain rfl : args = #[v0, v1, v2] := by cases args; simp_all
  obtain ⟨rfl, rfl⟩ := trodVars_none hV
  obtain ⟨x0, hx0, ok0⟩ := rd36.val (hval 0 36 v0 rfl rfl) h0 (bk_small hk (by simp))
  obtain ⟨x1, hx1, ok1⟩ := rd72.val (hval 1 72 v1 rfl rfl) h1 (bk_small hk (by simp))
  obtain ⟨x2, hx2, ok2⟩ := rd5.val (hval 2 5 v2 rfl rfl) h2 (bk_small hk (by simp))
  exact law_post (D := False) hW rfl rfl rfl Tryz.underlying4 (by kernel_rfl) (by kernel_rfl) (by kernel_rfl) (by rw [Tryz.params9]; decide +kernel) (drosslaw18_DenialFewer_con x0 x1 x2 _ (DenialFewer_holds x0 x1 x2 ok0 ok1 ok2)) (tabOk hL) ⟨_, _, rfl, hx0, ⟨_, _, rfl, hx1, ⟨_, _, rfl, hx2, rfl⟩⟩⟩
noncomputable def laidWorld (os : Os) : World :=
  { World.holding Tryz.prog os ⟨#[], #[], []⟩ with heap := (World.holding Tryz.prog os ⟨#[], #[], []⟩).heap.modify 0 fun
      | .cells _ t frozen => .cells #[.int .u8 0, .int .u8 1, .int .u8 28, .int .u8 2, .int .u8 29, .int .u8 14, .int .u8 24, .int .u8 3, .int .u8 30, .int .u8 22, .int .u8 20, .int .u8 15, .int .u8 25, .int .u8 17, .int .u8 4, .int .u8 8, .int .u8 31, .int .u8 27, .int .u8 13, .int .u8 23, .int .u8 21, .int .u8 19, .int .u8 16, .int .u8 7, .int .u8 26, .int .u8 12, .int .u8 18, .int .u8 6, .int .u8 11, .int .u8 5, .int .u8 10, .int .u8 9] t frozen
      | o => o }
theorem laid_met (os : Os) : laidMet Tryz.prog YtlaodgbkpmdhoaaGreatDoor.Rows.denialFewerUptoRow.laid ((laidWorld os).forCall (fun _ _ => 0) ⟨#[], #[.agg #[.int .u8 0, .int .u8 0, .slice none 0 0], .agg #[.int .u8 0, .slice none 0 0], .int .u8 0], []⟩).memory :=
  laidMet_of_run' 8 (by kernel_rfl) (by kernel_rfl)
theorem reads (os : Os) {H : Type} (enc : TypeId × Go.Value → H) : ∃ places, DataW.whole enc Tryz.prog ((laidWorld os).forCall (fun _ _ => 0) ⟨#[], #[.agg #[.int .u8 0, .int .u8 0, .slice none 0 0], .agg #[.int .u8 0, .slice none 0 0], .int .u8 0], []⟩).memory Tryz.f9.params.toList YtlaodgbkpmdhoaaGreatDoor.Rows.denialFewerSpec.vars false (#[.agg #[.int .u8 0, .int .u8 0, .slice none 0 0], .agg #[.int .u8 0, .slice none 0 0], .int .u8 0] : Array Go.Value).toList 8 = some ([.agg [.lit (.int .u8 0), .lit (.int .u8 0), .nil], .agg [.lit (.int .u8 0), .nil], .lit (.int .u8 0)], [], places) :=
  ⟨[], by kernel_rfl⟩
set_option maxRecDepth 100000 in
theorem lifted (os : Os) (started : os.Started) (H : Type) (enc : TypeId × Go.Value → H) (F : Stop.Interp) :
    ReturnsInHanded {} Tryz.checked os 9 .any ((YtlaodgbkpmdhoaaGreatDoor.Rows.OpenSpec.upto YtlaodgbkpmdhoaaGreatDoor.Rows.denialFewerSpec).preRow enc Tryz.prog Tryz.f9 YtlaodgbkpmdhoaaGreatDoor.Rows.denialFewerUptoRow.domain false YtlaodgbkpmdhoaaGreatDoor.Rows.denialFewerUptoRow.laid) (((YtlaodgbkpmdhoaaGreatDoor.Rows.OpenSpec.upto YtlaodgbkpmdhoaaGreatDoor.Rows.denialFewerSpec).at F).post enc Tryz.prog Tryz.f9 false true false false) := by
  obtain ⟨places, hx⟩ := reads os enc
  refine returnsInHanded_of_row (C := Tryz.checked) (s := YtlaodgbkpmdhoaaGreatDoor.Rows.OpenSpec.upto YtlaodgbkpmdhoaaGreatDoor.Rows.denialFewerSpec) own started (by kernel_rfl) Tryz.func9
    (witness_row_at (enc := enc) (C := Tryz.checked) false (laidWorld os) #[.agg #[.int .u8 0, .int .u8 0, .slice none 0 0], .agg #[.int .u8 0, .slice none 0 0], .int .u8 0] rfl (by kernel_rfl) (by kernel_rfl) (by kernel_rfl)
      (OpenSpec.preRow_of_cond 8 hx (by kernel_rfl) (fun k hk => by cases hk; kernel_rfl) (by kernel_rfl) (laid_met os))) ?_
  intro W base args ds gs before hval hW _ hcond _ hL _ _
  exact contract H enc W base args ds gs before hval hW (hcond _ rfl) hL
theorem said : YtlaodgbkpmdhoaaGreatDoor.Rows.DenialFewerUptoSaid :=
  OpenClaim.holds_of_cond 9 Tryz.f9 rfl rfl rfl rfl rfl rfl rfl ⟨rfl, rfl, rfl, rfl, rfl⟩ rfl rfl rfl rfl rfl (by kernel_rfl) Tryz.func9 (by kernel_rfl)
    (of_decide_eq_true (by kernel_rfl)) (by unfold Func.isWrapper; first | (rw [if_pos (by decide +kernel)]; kernel_rfl) | (rw [if_neg (by decide +kernel)]; exact ⟨rfl, rfl⟩))
    (fun os started H enc _ F => by rw [OpenClaim.pre_eq_preRow]; exact lifted os started H enc F)
theorem plain (f : FuncId) (fn : Func) (hf : YtlaodgbkpmdhoaaGreatDoor.Tryz.pinned.checked.prog.funcNamed "dross/drosslaw18.DenialFewer" = some f) (hfn : YtlaodgbkpmdhoaaGreatDoor.Tryz.pinned.checked.prog.funcs[f]? = some fn) :
    false = YtlaodgbkpmdhoaaGreatDoor.Tryz.pinned.checked.prog.looks [] ∧ ∀ (j : Nat) t, fn.params[j]? = some t → YtlaodgbkpmdhoaaGreatDoor.Tryz.pinned.checked.prog.wantsStandIn t = false := by
  obtain rfl : f = 9 := Option.some.inj ((show Tryz.prog.funcNamed "dross/drosslaw18.DenialFewer" = some 9 by kernel_rfl).symm.trans hf) |>.symm
  obtain rfl : fn = Tryz.f9 := (Option.some.inj (Tryz.func9.symm.trans hfn)).symm
  refine ⟨by kernel_rfl, fun j t ht => ?_⟩
  rw [Tryz.params9] at ht
  have hm : t ∈ [36, 72, 5] := by simpa using Array.mem_of_getElem? ht
  have hall : ([36, 72, 5].all fun u => !Tryz.prog.wantsStandIn u) = true := by kernel_rfl
  exact (show Tryz.prog.wantsStandIn t = false by simpa using List.all_eq_true.1 hall t hm)
theorem proved : YtlaodgbkpmdhoaaGreatDoor.Rows.DenialFewerUptoCardSaid :=
  Claim7.holds_tied_plain_at .later [] _ _ _ _ said (fun _ h => by cases h) (by kernel_rfl) (fun _ h => by cases h) YtlaodgbkpmdhoaaGreatDoor.denialFewerUpto_row_tie rfl ⟨rfl, rfl⟩ (by kernel_rfl) rfl plain (by kernel_rfl)
end Go.Proofs.YtlaodgbkpmdhoaaGreatDoor.DenialFewer
