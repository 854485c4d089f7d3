/- The statement SurvivorSteps: the arguments are read, the function is called, the answer is true. -/
import Derived.Test.YtdmddoljldjjeaaGreatRows
import Derived.Test.YtdmddoljldjjeaaGreatA2
import Derived.Test.YtdmddoljldjjeaaGreatW1
import Derived.Test.YtdmddoljldjjeaaGreatL1
import Derived.Test.YtdmddoljldjjeaaGreatL2
set_option linter.unusedVariables false
set_option linter.unusedSimpArgs false
namespace Go.Proofs.YtdmddoljldjjeaaGreat
open Go Go.Ab
abbrev bk : (H : Type) → DataW H → Nat := fun H d => YtdmddoljldjjeaaGreat.Rows.uptoBulk d
theorem bk_one {H : Type} (d : DataW H) : 1 ≤ YtdmddoljldjjeaaGreat.Rows.uptoBulk d := by
  cases d with
  | lit l => cases l <;> simp [YtdmddoljldjjeaaGreat.Rows.uptoBulk]
  | _ => simp [YtdmddoljldjjeaaGreat.Rows.uptoBulk]
theorem bk_part {H : Type} {d : DataW H} {l : List (DataW H)} (h : d ∈ l) : YtdmddoljldjjeaaGreat.Rows.uptoBulk d ≤ YtdmddoljldjjeaaGreat.Rows.uptoBulkAll l := by
  induction l with
  | nil => cases h
  | cons x r ih =>
    simp only [YtdmddoljldjjeaaGreat.Rows.uptoBulkAll]
    cases List.mem_cons.1 h with
    | inl e => subst e; omega
    | inr e => have := ih e; omega
theorem bk_len {H : Type} (l : List (DataW H)) : l.length ≤ YtdmddoljldjjeaaGreat.Rows.uptoBulkAll l := by
  induction l with
  | nil => simp [YtdmddoljldjjeaaGreat.Rows.uptoBulkAll]
  | cons x r ih => have := bk_one x; simp only [YtdmddoljldjjeaaGreat.Rows.uptoBulkAll, List.length_cons]; omega
theorem bk_law : Bulk bk := by
  refine ⟨fun H s => ?_, fun H es sp => ?_, fun H es sp d hd => ?_, fun H ps d hd => ?_⟩
  · simp [bk, YtdmddoljldjjeaaGreat.Rows.uptoBulk]
  · have := bk_len es; simp only [bk, YtdmddoljldjjeaaGreat.Rows.uptoBulk]; omega
  · have := bk_part hd; simp only [bk, YtdmddoljldjjeaaGreat.Rows.uptoBulk]; omega
  · have := bk_part hd; simp only [bk, YtdmddoljldjjeaaGreat.Rows.uptoBulk]; omega
theorem bk_small {H : Type} {ds : List (DataW H)} (h : YtdmddoljldjjeaaGreat.Rows.uptoSmall H ds = true) {d : DataW H} (hd : d ∈ ds) : bk H d ≤ 1048576 := Nat.le_trans (bk_part hd) (of_decide_eq_true h)
theorem rd9 : Rd Tryz.prog bk 9 PV.str okS := Rd_str Tryz.underlying9 (by kernel_rfl) bk_law
theorem rd22 : Rd Tryz.prog bk 22 (encL PV.str) (okL okS) := Rd_slice Tryz.underlying22 (by kernel_rfl) (by rw [show Tryz.prog.cellsOf 9 = 1 by kernel_rfl]; omega) bk_law rd9
theorem rd2 : Rd Tryz.prog bk 2 (PV.int .i64) (okI .i64) := Rd_int Tryz.underlying2 (by kernel_rfl)
theorem rd3 : Rd Tryz.prog bk 3 (PV.int .i64) (okI .i64) := Rd_int Tryz.underlying3 (by kernel_rfl)
theorem rd64 : Rd Tryz.prog bk 64 encValue okValue := by
  refine Rd_struct Tryz.underlying64 (by kernel_rfl) bk_law (RdFs.cons rd3 (RdFs.cons rd2 (RdFs.cons rd9 RdFs.nil))) (fun x => ⟨x.1, x.2.1, x.2.2.1⟩) (fun x => by rw [show Tryz.prog.cellsOf 64 = 3 by kernel_rfl]; rfl) ?_ (fun _ => rfl) (fun _ => rfl) ?_
  · intro x y hy
    simp only [encValue_cells, List.mem_cons, List.not_mem_nil, or_false] at hy
    rcases hy with rfl | rfl | rfl <;> exact ⟨rfl, rfl⟩
  · rintro ⟨x0, x1, x2, ⟨⟩⟩ h
    simp only [okValue] at h ⊢
    simp_all
theorem rd54 : Rd Tryz.prog bk 54 (encL encValue) (okL okValue) := Rd_slice Tryz.underlying54 (by kernel_rfl) (by rw [show Tryz.prog.cellsOf 64 = 3 by kernel_rfl]; omega) bk_law rd64
theorem rd56 : Rd Tryz.prog bk 56 encRow okRow := by
  refine Rd_struct Tryz.underlying56 (by kernel_rfl) bk_law (RdFs.cons rd2 (RdFs.cons rd54 RdFs.nil)) (fun x => ⟨x.1, x.2.1⟩) (fun x => by rw [show Tryz.prog.cellsOf 56 = 2 by kernel_rfl]; rfl) ?_ (fun _ => rfl) (fun _ => rfl) ?_
  · intro x y hy
    simp only [encRow_cells, List.mem_cons, List.not_mem_nil, or_false] at hy
    rcases hy with rfl | rfl <;> exact ⟨rfl, rfl⟩
  · rintro ⟨x0, x1, ⟨⟩⟩ h
    simp only [okRow] at h ⊢
    simp_all
theorem rd23 : Rd Tryz.prog bk 23 (encL encRow) (okL okRow) := Rd_slice Tryz.underlying23 (by kernel_rfl) (by rw [show Tryz.prog.cellsOf 56 = 2 by kernel_rfl]; omega) bk_law rd56
theorem rd25 : Rd Tryz.prog bk 25 encTable okTable := by
  refine Rd_struct Tryz.underlying25 (by kernel_rfl) bk_law (RdFs.cons rd9 (RdFs.cons rd22 (RdFs.cons rd23 RdFs.nil))) (fun x => ⟨x.1, x.2.1, x.2.2.1⟩) (fun x => by rw [show Tryz.prog.cellsOf 25 = 3 by kernel_rfl]; rfl) ?_ (fun _ => rfl) (fun _ => rfl) ?_
  · intro x y hy
    simp only [encTable_cells, List.mem_cons, List.not_mem_nil, or_false] at hy
    rcases hy with rfl | rfl | rfl <;> exact ⟨rfl, rfl⟩
  · rintro ⟨x0, x1, x2, ⟨⟩⟩ h
    simp only [okTable] at h ⊢
    simp_all
theorem rd36 : Rd Tryz.prog bk 36 (encL (PV.int .i64)) (okL (okI .i64)) := Rd_slice Tryz.underlying36 (by kernel_rfl) (by rw [show Tryz.prog.cellsOf 2 = 1 by kernel_rfl]; omega) bk_law rd2
theorem rd26 : Rd Tryz.prog bk 26 (encL (encL (PV.int .i64))) (okL (okL (okI .i64))) := Rd_slice Tryz.underlying26 (by kernel_rfl) (by rw [show Tryz.prog.cellsOf 36 = 1 by kernel_rfl]; omega) bk_law rd36
theorem rd27 : Rd Tryz.prog bk 27 (encL (PV.int .i64)) (okL (okI .i64)) := Rd_slice Tryz.underlying27 (by kernel_rfl) (by rw [show Tryz.prog.cellsOf 3 = 1 by kernel_rfl]; omega) bk_law rd3
theorem rd31 : Rd Tryz.prog bk 31 encMerged okMerged := by
  refine Rd_struct Tryz.underlying31 (by kernel_rfl) bk_law (RdFs.cons rd25 (RdFs.cons rd26 (RdFs.cons rd26 RdFs.nil))) (fun x => ⟨x.1, x.2.1, x.2.2.1⟩) (fun x => by rw [show Tryz.prog.cellsOf 31 = 5 by kernel_rfl]; rfl) ?_ (fun _ => rfl) (fun _ => rfl) ?_
  · intro x y hy
    simp only [encMerged_cells, List.mem_cons, List.not_mem_nil, or_false] at hy
    rcases hy with rfl | rfl | rfl | rfl | rfl <;> exact ⟨rfl, rfl⟩
  · rintro ⟨x0, x1, x2, ⟨⟩⟩ h
    simp only [okMerged] at h ⊢
    simp_all
theorem rd5 : Rd Tryz.prog bk 5 (PV.int .u8) (okI .u8) := Rd_int Tryz.underlying5 (by kernel_rfl)
theorem rd46 : Rd Tryz.prog bk 46 (encL (PV.int .u8)) (okL (okI .u8)) := Rd_slice Tryz.underlying46 (by kernel_rfl) (by rw [show Tryz.prog.cellsOf 5 = 1 by kernel_rfl]; omega) bk_law rd5
theorem rd43 : Rd Tryz.prog bk 43 (encL (encL (PV.int .u8))) (okL (okL (okI .u8))) := Rd_slice Tryz.underlying43 (by kernel_rfl) (by rw [show Tryz.prog.cellsOf 46 = 1 by kernel_rfl]; omega) bk_law rd46
theorem rd45 : Rd Tryz.prog bk 45 encDrossref03_Recipe okDrossref03_Recipe := by
  refine Rd_struct Tryz.underlying45 (by kernel_rfl) bk_law (RdFs.cons rd5 (RdFs.cons rd5 (RdFs.cons rd43 RdFs.nil))) (fun x => ⟨x.1, x.2.1, x.2.2.1⟩) (fun x => by rw [show Tryz.prog.cellsOf 45 = 3 by kernel_rfl]; rfl) ?_ (fun _ => rfl) (fun _ => rfl) ?_
  · intro x y hy
    simp only [encDrossref03_Recipe_cells, List.mem_cons, List.not_mem_nil, or_false] at hy
    rcases hy with rfl | rfl | rfl <;> exact ⟨rfl, rfl⟩
  · rintro ⟨x0, x1, x2, ⟨⟩⟩ h
    simp only [okDrossref03_Recipe] at h ⊢
    simp_all
theorem rd48 : Rd Tryz.prog bk 48 encDrossref55_Plan okDrossref55_Plan := by
  refine Rd_struct Tryz.underlying48 (by kernel_rfl) bk_law (RdFs.cons rd46 (RdFs.cons rd46 RdFs.nil)) (fun x => ⟨x.1, x.2.1⟩) (fun x => by rw [show Tryz.prog.cellsOf 48 = 2 by kernel_rfl]; rfl) ?_ (fun _ => rfl) (fun _ => rfl) ?_
  · intro x y hy
    simp only [encDrossref55_Plan_cells, List.mem_cons, List.not_mem_nil, or_false] at hy
    rcases hy with rfl | rfl <;> exact ⟨rfl, rfl⟩
  · rintro ⟨x0, x1, ⟨⟩⟩ h
    simp only [okDrossref55_Plan] at h ⊢
    simp_all
end Go.Proofs.YtdmddoljldjjeaaGreat
namespace Go.Proofs.YtdmddoljldjjeaaGreat.SurvivorSteps
open Go Go.Ab Go.ChangeShapes
set_option linter.unusedVariables false
theorem own : ownKnob Tryz.prog.godebug = none := by kernel_rfl
set_option maxRecDepth 100000 in
theorem contract (H : Type) (enc : TypeId × Go.Value → H) (W : World) (base : Nat) (args : Array Go.Value) (ds gs : List (DataW H)) (before : List MemPlace)
    (hval : ∀ (j : Nat) t v, Tryz.f7.params[j]? = some t → args[j]? = some v → Go.Value.okWide Tryz.prog W .any base t v)
    (hW : DataW.Whole enc Tryz.prog Tryz.f7.params.toList YtdmddoljldjjeaaGreat.Rows.survivorStepsSpec.vars false W args.toList ds gs before) (hk : YtdmddoljldjjeaaGreat.Rows.uptoSmall H (ds ++ gs) = true) :
    Calls Tryz.prog 7 args W fun e W' => ∃ v, e = .returned v ∧ YtdmddoljldjjeaaGreat.Rows.survivorStepsSpec.post enc Tryz.prog Tryz.f7 false true false false W args v W' := by
  have hW0 := hW
  obtain ⟨p, q, hA, hV, rfl, hfz, hnd⟩ := hW0
  rw [Tryz.params7] at hA hval
  obtain ⟨v0, vs0, d0, ds0, p0, q0, hargs0, rfl, rfl, h0, r0⟩ := trodAll_cons hA
  obtain ⟨v1, vs1, d1, ds1, p1, q1, hargs1, rfl, rfl, h1, r1⟩ := trodAll_cons r0
  obtain ⟨v2, vs2, d2, ds2, p2, q2, hargs2, rfl, rfl, h2, r2⟩ := trodAll_cons r1
  obtain ⟨rfl, rfl, rfl⟩ := trodAll_nil r2
  obtain rfl : args = #[v0, v1, v2] := by cases args; simp_all
  obtain ⟨rfl, rfl⟩ := trodVars_none hV
  obtain ⟨x0, hx0, ok0⟩ := rd45.val (hval 0 45 v0 rfl rfl) h0 (bk_small hk (by simp))
  obtain ⟨x1, hx1, ok1⟩ := rd48.val (hval 1 48 v1 rfl rfl) h1 (bk_small hk (by simp))
  obtain ⟨x2, hx2, ok2⟩ := rd48.val (hval 2 48 v2 rfl rfl) h2 (bk_small hk (by simp))
  exact law_post hW rfl rfl rfl Tryz.underlying4 (by kernel_rfl) (by kernel_rfl) (by kernel_rfl) (by rw [Tryz.params7]; decide +kernel) (drosslaw55_SurvivorSteps_con x0 x1 x2 _ (SurvivorSteps_holds x0 x1 x2 ok0 ok1 ok2)) ⟨_, _, rfl, hx0, ⟨_, _, rfl, hx1, ⟨_, _, rfl, hx2, rfl⟩⟩⟩
set_option maxRecDepth 100000 in
theorem lifted (os : Os) (started : os.Started) (H : Type) (enc : TypeId × Go.Value → H) (F : Stop.Interp) :
    ReturnsInHanded {} Tryz.checked os 7 .any ((YtdmddoljldjjeaaGreat.Rows.OpenSpec.upto YtdmddoljldjjeaaGreat.Rows.survivorStepsSpec).pre6 enc Tryz.prog Tryz.f7 YtdmddoljldjjeaaGreat.Rows.survivorStepsUptoRow.domain false) (((YtdmddoljldjjeaaGreat.Rows.OpenSpec.upto YtdmddoljldjjeaaGreat.Rows.survivorStepsSpec).at F).post enc Tryz.prog Tryz.f7 false true false false) := by
  refine returnsInHanded_of_cond (C := Tryz.checked) (s := YtdmddoljldjjeaaGreat.Rows.OpenSpec.upto YtdmddoljldjjeaaGreat.Rows.survivorStepsSpec) (k := YtdmddoljldjjeaaGreat.Rows.uptoSmall) rfl own started (by kernel_rfl) Tryz.func7
    (OpenSpec.witness (enc := enc) (C := Tryz.checked) (s := YtdmddoljldjjeaaGreat.Rows.OpenSpec.upto YtdmddoljldjjeaaGreat.Rows.survivorStepsSpec) (k := YtdmddoljldjjeaaGreat.Rows.uptoSmall) rfl false ⟨#[], #[.agg #[.int .u8 0, .int .u8 0, .slice none 0 0], .agg #[.slice none 0 0, .slice none 0 0], .agg #[.slice none 0 0, .slice none 0 0]], []⟩ 8 (by kernel_rfl) (by kernel_rfl) (by kernel_rfl)
      (x := ([.agg [.lit (.int .u8 0), .lit (.int .u8 0), .nil], .agg [.nil, .nil], .agg [.nil, .nil]], [], [])) (by kernel_rfl) rfl (by kernel_rfl)) ?_
  intro W base args ds gs before hval hW _ hk _
  exact contract H enc W base args ds gs before hval hW hk
theorem proved : YtdmddoljldjjeaaGreat.Rows.SurvivorStepsUptoSaid :=
  OpenClaim.holds_of_cond 7 Tryz.f7 rfl rfl rfl rfl rfl rfl rfl ⟨rfl, rfl, rfl, rfl, rfl⟩ rfl rfl rfl rfl rfl (by kernel_rfl) Tryz.func7 (by kernel_rfl)
    (of_decide_eq_true (by kernel_rfl)) (by unfold Func.isWrapper; first | (rw [if_pos (by decide +kernel)]; kernel_rfl) | (rw [if_neg (by decide +kernel)]; exact ⟨rfl, rfl⟩))
    (fun os started H enc _ F => lifted os started H enc F)
end Go.Proofs.YtdmddoljldjjeaaGreat.SurvivorSteps
