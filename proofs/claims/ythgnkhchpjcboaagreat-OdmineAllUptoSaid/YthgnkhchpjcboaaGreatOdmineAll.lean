/- The statement OdmineAll: the arguments are read, the function is called, the answer is true. -/
import Derived.Test.YthgnkhchpjcboaaGreatRows
import Derived.Test.YthgnkhchpjcboaaGreatA2
import Derived.Test.YthgnkhchpjcboaaGreatW1
import Derived.Test.YthgnkhchpjcboaaGreatL1
import Derived.Test.YthgnkhchpjcboaaGreatW2
import Derived.Test.YthgnkhchpjcboaaGreatL2
set_option linter.unusedVariables false
set_option linter.unusedSimpArgs false
namespace Go.Proofs.YthgnkhchpjcboaaGreat
open Go Go.Ab
abbrev bk : (H : Type) → DataW H → Nat := fun H d => YthgnkhchpjcboaaGreat.Rows.uptoBulk d
theorem bk_one {H : Type} (d : DataW H) : 1 ≤ YthgnkhchpjcboaaGreat.Rows.uptoBulk d := by
  cases d with
  | lit l => cases l <;> simp [YthgnkhchpjcboaaGreat.Rows.uptoBulk]
  | _ => simp [YthgnkhchpjcboaaGreat.Rows.uptoBulk]
theorem bk_part {H : Type} {d : DataW H} {l : List (DataW H)} (h : d ∈ l) : YthgnkhchpjcboaaGreat.Rows.uptoBulk d ≤ YthgnkhchpjcboaaGreat.Rows.uptoBulkAll l := by
  induction l with
  | nil => cases h
  | cons x r ih =>
    simp only [YthgnkhchpjcboaaGreat.Rows.uptoBulkAll]
    cases List.mem_cons.1 h with
    | inl e => subst e; omega
    | inr e => have := ih e; omega
theorem bk_len {H : Type} (l : List (DataW H)) : l.length ≤ YthgnkhchpjcboaaGreat.Rows.uptoBulkAll l := by
  induction l with
  | nil => simp [YthgnkhchpjcboaaGreat.Rows.uptoBulkAll]
  | cons x r ih => have := bk_one x; simp only [YthgnkhchpjcboaaGreat.Rows.uptoBulkAll, List.length_cons]; omega
theorem bk_law : Bulk bk := by
  refine ⟨fun H s => ?_, fun H es sp => ?_, fun H es sp d hd => ?_, fun H ps d hd => ?_⟩
  · simp [bk, YthgnkhchpjcboaaGreat.Rows.uptoBulk]
  · have := bk_len es; simp only [bk, YthgnkhchpjcboaaGreat.Rows.uptoBulk]; omega
  · have := bk_part hd; simp only [bk, YthgnkhchpjcboaaGreat.Rows.uptoBulk]; omega
  · have := bk_part hd; simp only [bk, YthgnkhchpjcboaaGreat.Rows.uptoBulk]; omega
theorem bk_small {H : Type} {ds : List (DataW H)} (h : YthgnkhchpjcboaaGreat.Rows.uptoSmall H ds = true) {d : DataW H} (hd : d ∈ ds) : bk H d ≤ 1048576 := Nat.le_trans (bk_part hd) (of_decide_eq_true h)
theorem rd9 : Rd Tryz.prog bk 9 PV.str okS := Rd_str Tryz.underlying9 (by kernel_rfl) bk_law
theorem rd22 : Rd Tryz.prog bk 22 (encL PV.str) (okL okS) := Rd_slice Tryz.underlying22 (by kernel_rfl) (by rw [show Tryz.prog.cellsOf 9 = 1 by kernel_rfl]; omega) bk_law rd9
theorem rd2 : Rd Tryz.prog bk 2 (PV.int .i64) (okI .i64) := Rd_int Tryz.underlying2 (by kernel_rfl)
theorem rd3 : Rd Tryz.prog bk 3 (PV.int .i64) (okI .i64) := Rd_int Tryz.underlying3 (by kernel_rfl)
theorem rd88 : Rd Tryz.prog bk 88 encValue okValue := by
  refine Rd_struct Tryz.underlying88 (by kernel_rfl) bk_law (RdFs.cons rd3 (RdFs.cons rd2 (RdFs.cons rd9 RdFs.nil))) (fun x => ⟨x.1, x.2.1, x.2.2.1⟩) (fun x => by rw [show Tryz.prog.cellsOf 88 = 3 by kernel_rfl]; rfl) ?_ (fun _ => rfl) (fun _ => rfl) ?_
  · intro x y hy
    simp only [encValue_cells, List.mem_cons, List.not_mem_nil, or_false] at hy
    rcases hy with rfl | rfl | rfl <;> exact ⟨rfl, rfl⟩
  · rintro ⟨x0, x1, x2, ⟨⟩⟩ h
    simp only [okValue] at h ⊢
    simp_all
theorem rd78 : Rd Tryz.prog bk 78 (encL encValue) (okL okValue) := Rd_slice Tryz.underlying78 (by kernel_rfl) (by rw [show Tryz.prog.cellsOf 88 = 3 by kernel_rfl]; omega) bk_law rd88
theorem rd80 : Rd Tryz.prog bk 80 encRow okRow := by
  refine Rd_struct Tryz.underlying80 (by kernel_rfl) bk_law (RdFs.cons rd2 (RdFs.cons rd78 RdFs.nil)) (fun x => ⟨x.1, x.2.1⟩) (fun x => by rw [show Tryz.prog.cellsOf 80 = 2 by kernel_rfl]; rfl) ?_ (fun _ => rfl) (fun _ => rfl) ?_
  · intro x y hy
    simp only [encRow_cells, List.mem_cons, List.not_mem_nil, or_false] at hy
    rcases hy with rfl | rfl <;> exact ⟨rfl, rfl⟩
  · rintro ⟨x0, x1, ⟨⟩⟩ h
    simp only [okRow] at h ⊢
    simp_all
theorem rd23 : Rd Tryz.prog bk 23 (encL encRow) (okL okRow) := Rd_slice Tryz.underlying23 (by kernel_rfl) (by rw [show Tryz.prog.cellsOf 80 = 2 by kernel_rfl]; omega) bk_law rd80
theorem rd25 : Rd Tryz.prog bk 25 encTable okTable := by
  refine Rd_struct Tryz.underlying25 (by kernel_rfl) bk_law (RdFs.cons rd9 (RdFs.cons rd22 (RdFs.cons rd23 RdFs.nil))) (fun x => ⟨x.1, x.2.1, x.2.2.1⟩) (fun x => by rw [show Tryz.prog.cellsOf 25 = 3 by kernel_rfl]; rfl) ?_ (fun _ => rfl) (fun _ => rfl) ?_
  · intro x y hy
    simp only [encTable_cells, List.mem_cons, List.not_mem_nil, or_false] at hy
    rcases hy with rfl | rfl | rfl <;> exact ⟨rfl, rfl⟩
  · rintro ⟨x0, x1, x2, ⟨⟩⟩ h
    simp only [okTable] at h ⊢
    simp_all
theorem rd36 : Rd Tryz.prog bk 36 (PV.int .u32) (okI .u32) := Rd_int Tryz.underlying36 (by kernel_rfl)
theorem rd38 : Rd Tryz.prog bk 38 encCanonical okCanonical := by
  refine Rd_struct Tryz.underlying38 (by kernel_rfl) bk_law (RdFs.cons rd36 (RdFs.cons rd3 (RdFs.cons rd3 RdFs.nil))) (fun x => ⟨x.1, x.2.1, x.2.2.1⟩) (fun x => by rw [show Tryz.prog.cellsOf 38 = 3 by kernel_rfl]; rfl) ?_ (fun _ => rfl) (fun _ => rfl) ?_
  · intro x y hy
    simp only [encCanonical_cells, List.mem_cons, List.not_mem_nil, or_false] at hy
    rcases hy with rfl | rfl | rfl <;> exact ⟨rfl, rfl⟩
  · rintro ⟨x0, x1, x2, ⟨⟩⟩ h
    simp only [okCanonical] at h ⊢
    simp_all
theorem rd26 : Rd Tryz.prog bk 26 (encL encCanonical) (okL okCanonical) := Rd_slice Tryz.underlying26 (by kernel_rfl) (by rw [show Tryz.prog.cellsOf 38 = 3 by kernel_rfl]; omega) bk_law rd38
theorem rd5 : Rd Tryz.prog bk 5 (PV.int .u8) (okI .u8) := Rd_int Tryz.underlying5 (by kernel_rfl)
theorem rd50 : Rd Tryz.prog bk 50 (encL (PV.int .u8)) (okL (okI .u8)) := Rd_slice Tryz.underlying50 (by kernel_rfl) (by rw [show Tryz.prog.cellsOf 5 = 1 by kernel_rfl]; omega) bk_law rd5
theorem rd41 : Rd Tryz.prog bk 41 (encL (encL (PV.int .u8))) (okL (okL (okI .u8))) := Rd_slice Tryz.underlying41 (by kernel_rfl) (by rw [show Tryz.prog.cellsOf 50 = 1 by kernel_rfl]; omega) bk_law rd50
theorem rd43 : Rd Tryz.prog bk 43 encDrossref03_Recipe okDrossref03_Recipe := by
  refine Rd_struct Tryz.underlying43 (by kernel_rfl) bk_law (RdFs.cons rd5 (RdFs.cons rd5 (RdFs.cons rd41 RdFs.nil))) (fun x => ⟨x.1, x.2.1, x.2.2.1⟩) (fun x => by rw [show Tryz.prog.cellsOf 43 = 3 by kernel_rfl]; rfl) ?_ (fun _ => rfl) (fun _ => rfl) ?_
  · intro x y hy
    simp only [encDrossref03_Recipe_cells, List.mem_cons, List.not_mem_nil, or_false] at hy
    rcases hy with rfl | rfl | rfl <;> exact ⟨rfl, rfl⟩
  · rintro ⟨x0, x1, x2, ⟨⟩⟩ h
    simp only [okDrossref03_Recipe] at h ⊢
    simp_all
theorem rd52 : Rd Tryz.prog bk 52 encDrossref17_Lists okDrossref17_Lists := by
  refine Rd_struct Tryz.underlying52 (by kernel_rfl) bk_law (RdFs.cons rd50 (RdFs.cons rd50 RdFs.nil)) (fun x => ⟨x.1, x.2.1⟩) (fun x => by rw [show Tryz.prog.cellsOf 52 = 2 by kernel_rfl]; rfl) ?_ (fun _ => rfl) (fun _ => rfl) ?_
  · intro x y hy
    simp only [encDrossref17_Lists_cells, List.mem_cons, List.not_mem_nil, or_false] at hy
    rcases hy with rfl | rfl <;> exact ⟨rfl, rfl⟩
  · rintro ⟨x0, x1, ⟨⟩⟩ h
    simp only [okDrossref17_Lists] at h ⊢
    simp_all
theorem rd53 : Rd Tryz.prog bk 53 (encL (PV.int .i64)) (okL (okI .i64)) := Rd_slice Tryz.underlying53 (by kernel_rfl) (by rw [show Tryz.prog.cellsOf 3 = 1 by kernel_rfl]; omega) bk_law rd3
theorem rd55 : Rd Tryz.prog bk 55 encOD okOD := by
  refine Rd_struct Tryz.underlying55 (by kernel_rfl) bk_law (RdFs.cons rd53 (RdFs.cons rd53 RdFs.nil)) (fun x => ⟨x.1, x.2.1⟩) (fun x => by rw [show Tryz.prog.cellsOf 55 = 2 by kernel_rfl]; rfl) ?_ (fun _ => rfl) (fun _ => rfl) ?_
  · intro x y hy
    simp only [encOD_cells, List.mem_cons, List.not_mem_nil, or_false] at hy
    rcases hy with rfl | rfl <;> exact ⟨rfl, rfl⟩
  · rintro ⟨x0, x1, ⟨⟩⟩ h
    simp only [okOD] at h ⊢
    simp_all
end Go.Proofs.YthgnkhchpjcboaaGreat
namespace Go.Proofs.YthgnkhchpjcboaaGreat.OdmineAll
open Go Go.Ab Go.ChangeShapes
set_option linter.unusedVariables false
theorem own : ownKnob Tryz.prog.godebug = none := by kernel_rfl
set_option maxRecDepth 100000 in
theorem contract (H : Type) (enc : TypeId × Go.Value → H) (W : World) (base : Nat) (args : Array Go.Value) (ds gs : List (DataW H)) (before : List MemPlace)
    (hval : ∀ (j : Nat) t v, Tryz.f4.params[j]? = some t → args[j]? = some v → Go.Value.okWide Tryz.prog W .any base t v)
    (hW : DataW.Whole enc Tryz.prog Tryz.f4.params.toList YthgnkhchpjcboaaGreat.Rows.odmineAllSpec.vars false W args.toList ds gs before) (hk : YthgnkhchpjcboaaGreat.Rows.uptoSmall H (ds ++ gs) = true) :
    Calls Tryz.prog 4 args W fun e W' => ∃ v, e = .returned v ∧ YthgnkhchpjcboaaGreat.Rows.odmineAllSpec.post enc Tryz.prog Tryz.f4 false true false false W args v W' := by
  have hW0 := hW
  obtain ⟨p, q, hA, hV, rfl, hfz, hnd⟩ := hW0
  rw [Tryz.params4] at hA hval
  obtain ⟨v0, vs0, d0, ds0, p0, q0, hargs0, rfl, rfl, h0, r0⟩ := trodAll_cons hA
  obtain ⟨rfl, rfl, rfl⟩ := trodAll_nil r0
  obtain rfl : args = #[v0] := by cases args; simp_all
  obtain ⟨rfl, rfl⟩ := trodVars_none hV
  obtain ⟨x0, hx0, ok0⟩ := rd25.val (hval 0 25 v0 rfl rfl) h0 (bk_small hk (by simp))
  exact law_post (D := False) hW rfl rfl rfl Tryz.underlying4 (by kernel_rfl) (by kernel_rfl) (by kernel_rfl) (by rw [Tryz.params4]; decide +kernel) (drosslaw31_OdmineAll_con x0 _ (OdmineAll_holds x0 ok0)) ⟨_, _, rfl, hx0, rfl⟩
set_option maxRecDepth 100000 in
theorem lifted (os : Os) (started : os.Started) (H : Type) (enc : TypeId × Go.Value → H) (F : Stop.Interp) :
    ReturnsInHanded {} Tryz.checked os 4 .any ((YthgnkhchpjcboaaGreat.Rows.OpenSpec.upto YthgnkhchpjcboaaGreat.Rows.odmineAllSpec).pre6 enc Tryz.prog Tryz.f4 YthgnkhchpjcboaaGreat.Rows.odmineAllUptoRow.domain false) (((YthgnkhchpjcboaaGreat.Rows.OpenSpec.upto YthgnkhchpjcboaaGreat.Rows.odmineAllSpec).at F).post enc Tryz.prog Tryz.f4 false true false false) := by
  refine returnsInHanded_of_cond (C := Tryz.checked) (s := YthgnkhchpjcboaaGreat.Rows.OpenSpec.upto YthgnkhchpjcboaaGreat.Rows.odmineAllSpec) (k := YthgnkhchpjcboaaGreat.Rows.uptoSmall) rfl own started (by kernel_rfl) Tryz.func4
    (OpenSpec.witness (enc := enc) (C := Tryz.checked) (s := YthgnkhchpjcboaaGreat.Rows.OpenSpec.upto YthgnkhchpjcboaaGreat.Rows.odmineAllSpec) (k := YthgnkhchpjcboaaGreat.Rows.uptoSmall) rfl false ⟨#[], #[.agg #[.string .empty, .slice none 0 0, .slice none 0 0]], []⟩ 8 (by kernel_rfl) (by kernel_rfl) (by kernel_rfl)
      (x := ([.agg [.lit (.string []), .nil, .nil]], [], [])) (by kernel_rfl) rfl (by kernel_rfl)) ?_
  intro W base args ds gs before hval hW _ hk _
  exact contract H enc W base args ds gs before hval hW hk
theorem proved : YthgnkhchpjcboaaGreat.Rows.OdmineAllUptoSaid :=
  OpenClaim.holds_of_cond 4 Tryz.f4 rfl rfl rfl rfl rfl rfl rfl ⟨rfl, rfl, rfl, rfl, rfl⟩ rfl rfl rfl rfl rfl (by kernel_rfl) Tryz.func4 (by kernel_rfl)
    (of_decide_eq_true (by kernel_rfl)) (by unfold Func.isWrapper; first | (rw [if_pos (by decide +kernel)]; kernel_rfl) | (rw [if_neg (by decide +kernel)]; exact ⟨rfl, rfl⟩))
    (fun os started H enc _ F => lifted os started H enc F)
end Go.Proofs.YthgnkhchpjcboaaGreat.OdmineAll
