/- The statement SurvivorLost: the arguments are read, the function is called, the answer is true. -/
import Derived.Test.YtdmddoljldjjeaaRows
import Derived.Test.YtdmddoljldjjeaaA2
import Derived.Test.YtdmddoljldjjeaaW1
import Derived.Test.YtdmddoljldjjeaaL1
import Derived.Test.YtdmddoljldjjeaaW3
set_option linter.unusedVariables false
set_option linter.unusedSimpArgs false
namespace Go.Proofs.Ytdmddoljldjjeaa
open Go Go.Ab
abbrev bk : (H : Type) → DataW H → Nat := fun H d => Ytdmddoljldjjeaa.Rows.uptoBulk d
theorem bk_one {H : Type} (d : DataW H) : 1 ≤ Ytdmddoljldjjeaa.Rows.uptoBulk d := by
  cases d with
  | lit l => cases l <;> simp [Ytdmddoljldjjeaa.Rows.uptoBulk]
  | _ => simp [Ytdmddoljldjjeaa.Rows.uptoBulk]
theorem bk_part {H : Type} {d : DataW H} {l : List (DataW H)} (h : d ∈ l) : Ytdmddoljldjjeaa.Rows.uptoBulk d ≤ Ytdmddoljldjjeaa.Rows.uptoBulkAll l := by
  induction l with
  | nil => cases h
  | cons x r ih =>
    simp only [Ytdmddoljldjjeaa.Rows.uptoBulkAll]
    cases List.mem_cons.1 h with
    | inl e => subst e; omega
    | inr e => have := ih e; omega
theorem bk_len {H : Type} (l : List (DataW H)) : l.length ≤ Ytdmddoljldjjeaa.Rows.uptoBulkAll l := by
  induction l with
  | nil => simp [Ytdmddoljldjjeaa.Rows.uptoBulkAll]
  | cons x r ih => have := bk_one x; simp only [Ytdmddoljldjjeaa.Rows.uptoBulkAll, List.length_cons]; omega
theorem bk_law : Bulk bk := by
  refine ⟨fun H s => ?_, fun H es sp => ?_, fun H es sp d hd => ?_, fun H ps d hd => ?_⟩
  · simp [bk, Ytdmddoljldjjeaa.Rows.uptoBulk]
  · have := bk_len es; simp only [bk, Ytdmddoljldjjeaa.Rows.uptoBulk]; omega
  · have := bk_part hd; simp only [bk, Ytdmddoljldjjeaa.Rows.uptoBulk]; omega
  · have := bk_part hd; simp only [bk, Ytdmddoljldjjeaa.Rows.uptoBulk]; omega
theorem bk_small {H : Type} {ds : List (DataW H)} (h : Ytdmddoljldjjeaa.Rows.uptoSmall H ds = true) {d : DataW H} (hd : d ∈ ds) : bk H d ≤ 1048576 := Nat.le_trans (bk_part hd) (of_decide_eq_true h)
theorem rd2 : Rd Try.prog bk 2 (PV.int .i64) (okI .i64) := Rd_int Try.underlying2 (by kernel_rfl)
theorem rd3 : Rd Try.prog bk 3 (PV.int .i64) (okI .i64) := Rd_int Try.underlying3 (by kernel_rfl)
theorem rd9 : Rd Try.prog bk 9 PV.str okS := Rd_str Try.underlying9 (by kernel_rfl) bk_law
theorem rd25 : Rd Try.prog bk 25 encValue okValue := by
  refine Rd_struct Try.underlying25 (by kernel_rfl) bk_law (RdFs.cons rd3 (RdFs.cons rd2 (RdFs.cons rd9 RdFs.nil))) (fun x => ⟨x.1, x.2.1, x.2.2.1⟩) (fun x => by rw [show Try.prog.cellsOf 25 = 3 by kernel_rfl]; rfl) ?_ (fun _ => rfl) (fun _ => rfl) ?_
  · intro x y hy
    simp only [encValue_cells, List.mem_cons, List.not_mem_nil, or_false] at hy
    rcases hy with rfl | rfl | rfl <;> exact ⟨rfl, rfl⟩
  · rintro ⟨x0, x1, x2, ⟨⟩⟩ h
    simp only [okValue] at h ⊢
    simp_all
theorem rd30 : Rd Try.prog bk 30 (encL encValue) (okL okValue) := Rd_slice Try.underlying30 (by kernel_rfl) (by rw [show Try.prog.cellsOf 25 = 3 by kernel_rfl]; omega) bk_law rd25
theorem rd32 : Rd Try.prog bk 32 encRow okRow := by
  refine Rd_struct Try.underlying32 (by kernel_rfl) bk_law (RdFs.cons rd2 (RdFs.cons rd30 RdFs.nil)) (fun x => ⟨x.1, x.2.1⟩) (fun x => by rw [show Try.prog.cellsOf 32 = 2 by kernel_rfl]; rfl) ?_ (fun _ => rfl) (fun _ => rfl) ?_
  · intro x y hy
    simp only [encRow_cells, List.mem_cons, List.not_mem_nil, or_false] at hy
    rcases hy with rfl | rfl <;> exact ⟨rfl, rfl⟩
  · rintro ⟨x0, x1, ⟨⟩⟩ h
    simp only [okRow] at h ⊢
    simp_all
theorem rd22 : Rd Try.prog bk 22 (encL encRow) (okL okRow) := Rd_slice Try.underlying22 (by kernel_rfl) (by rw [show Try.prog.cellsOf 32 = 2 by kernel_rfl]; omega) bk_law rd32
theorem rd38 : Rd Try.prog bk 38 (encL (PV.int .i64)) (okL (okI .i64)) := Rd_slice Try.underlying38 (by kernel_rfl) (by rw [show Try.prog.cellsOf 3 = 1 by kernel_rfl]; omega) bk_law rd3
theorem rd50 : Rd Try.prog bk 50 (encL PV.str) (okL okS) := Rd_slice Try.underlying50 (by kernel_rfl) (by rw [show Try.prog.cellsOf 9 = 1 by kernel_rfl]; omega) bk_law rd9
theorem rd52 : Rd Try.prog bk 52 encTable okTable := by
  refine Rd_struct Try.underlying52 (by kernel_rfl) bk_law (RdFs.cons rd9 (RdFs.cons rd50 (RdFs.cons rd22 RdFs.nil))) (fun x => ⟨x.1, x.2.1, x.2.2.1⟩) (fun x => by rw [show Try.prog.cellsOf 52 = 3 by kernel_rfl]; rfl) ?_ (fun _ => rfl) (fun _ => rfl) ?_
  · intro x y hy
    simp only [encTable_cells, List.mem_cons, List.not_mem_nil, or_false] at hy
    rcases hy with rfl | rfl | rfl <;> exact ⟨rfl, rfl⟩
  · rintro ⟨x0, x1, x2, ⟨⟩⟩ h
    simp only [okTable] at h ⊢
    simp_all
theorem rd39 : Rd Try.prog bk 39 (encL (PV.int .i64)) (okL (okI .i64)) := Rd_slice Try.underlying39 (by kernel_rfl) (by rw [show Try.prog.cellsOf 2 = 1 by kernel_rfl]; omega) bk_law rd2
theorem rd53 : Rd Try.prog bk 53 (encL (encL (PV.int .i64))) (okL (okL (okI .i64))) := Rd_slice Try.underlying53 (by kernel_rfl) (by rw [show Try.prog.cellsOf 39 = 1 by kernel_rfl]; omega) bk_law rd39
theorem rd55 : Rd Try.prog bk 55 encMerged okMerged := by
  refine Rd_struct Try.underlying55 (by kernel_rfl) bk_law (RdFs.cons rd52 (RdFs.cons rd53 (RdFs.cons rd53 RdFs.nil))) (fun x => ⟨x.1, x.2.1, x.2.2.1⟩) (fun x => by rw [show Try.prog.cellsOf 55 = 5 by kernel_rfl]; rfl) ?_ (fun _ => rfl) (fun _ => rfl) ?_
  · intro x y hy
    simp only [encMerged_cells, List.mem_cons, List.not_mem_nil, or_false] at hy
    rcases hy with rfl | rfl | rfl | rfl | rfl <;> exact ⟨rfl, rfl⟩
  · rintro ⟨x0, x1, x2, ⟨⟩⟩ h
    simp only [okMerged] at h ⊢
    simp_all
theorem rd57 : Rd Try.prog bk 57 encCellRef okCellRef := by
  refine Rd_struct Try.underlying57 (by kernel_rfl) bk_law (RdFs.cons rd2 (RdFs.cons rd3 RdFs.nil)) (fun x => ⟨x.1, x.2.1⟩) (fun x => by rw [show Try.prog.cellsOf 57 = 2 by kernel_rfl]; rfl) ?_ (fun _ => rfl) (fun _ => rfl) ?_
  · intro x y hy
    simp only [encCellRef_cells, List.mem_cons, List.not_mem_nil, or_false] at hy
    rcases hy with rfl | rfl <;> exact ⟨rfl, rfl⟩
  · rintro ⟨x0, x1, ⟨⟩⟩ h
    simp only [okCellRef] at h ⊢
    simp_all
end Go.Proofs.Ytdmddoljldjjeaa
namespace Go.Proofs.Ytdmddoljldjjeaa.SurvivorLost
open Go Go.Ab Go.ChangeShapes
set_option linter.unusedVariables false
theorem own : ownKnob Try.prog.godebug = none := by kernel_rfl
set_option maxRecDepth 100000 in
theorem contract (H : Type) (enc : TypeId × Go.Value → H) (W : World) (base : Nat) (args : Array Go.Value) (ds gs : List (DataW H)) (before : List MemPlace)
    (hval : ∀ (j : Nat) t v, Try.f6.params[j]? = some t → args[j]? = some v → Go.Value.okWide Try.prog W .any base t v)
    (hW : DataW.Whole enc Try.prog Try.f6.params.toList Ytdmddoljldjjeaa.Rows.survivorLostSpec.vars false W args.toList ds gs before) (hk : Ytdmddoljldjjeaa.Rows.uptoSmall H (ds ++ gs) = true) :
    Calls Try.prog 6 args W fun e W' => ∃ v, e = .returned v ∧ Ytdmddoljldjjeaa.Rows.survivorLostSpec.post enc Try.prog Try.f6 false true false false W args v W' := by
  have hW0 := hW
  obtain ⟨p, q, hA, hV, rfl, hfz, hnd⟩ := hW0
  rw [Try.params6] at hA hval
  obtain ⟨v0, vs0, d0, ds0, p0, q0, hargs0, rfl, rfl, h0, r0⟩ := trodAll_cons hA
  obtain ⟨v1, vs1, d1, ds1, p1, q1, hargs1, rfl, rfl, h1, r1⟩ := trodAll_cons r0
  obtain ⟨rfl, rfl, rfl⟩ := trodAll_nil r1
  obtain rfl : args = #[v0, v1] := by cases args; simp_all
  obtain ⟨rfl, rfl⟩ := trodVars_none hV
  obtain ⟨x0, hx0, ok0⟩ := rd52.val (hval 0 52 v0 rfl rfl) h0 (bk_small hk (by simp))
  obtain ⟨x1, hx1, ok1⟩ := rd55.val (hval 1 55 v1 rfl rfl) h1 (bk_small hk (by simp))
  exact law_post hW rfl rfl rfl Try.underlying4 (by kernel_rfl) (by kernel_rfl) (by kernel_rfl) (by rw [Try.params6]; decide +kernel) (drosslaw55_SurvivorLost_con x0 x1 _ (SurvivorLost_holds x0 x1 ok0 ok1)) ⟨_, _, rfl, hx0, ⟨_, _, rfl, hx1, rfl⟩⟩
set_option maxRecDepth 100000 in
theorem lifted (os : Os) (started : os.Started) (H : Type) (enc : TypeId × Go.Value → H) (F : Stop.Interp) :
    ReturnsInHanded {} Try.checked os 6 .any ((Ytdmddoljldjjeaa.Rows.OpenSpec.upto Ytdmddoljldjjeaa.Rows.survivorLostSpec).pre6 enc Try.prog Try.f6 Ytdmddoljldjjeaa.Rows.survivorLostUptoRow.domain false) (((Ytdmddoljldjjeaa.Rows.OpenSpec.upto Ytdmddoljldjjeaa.Rows.survivorLostSpec).at F).post enc Try.prog Try.f6 false true false false) := by
  refine returnsInHanded_of_cond (C := Try.checked) (s := Ytdmddoljldjjeaa.Rows.OpenSpec.upto Ytdmddoljldjjeaa.Rows.survivorLostSpec) (k := Ytdmddoljldjjeaa.Rows.uptoSmall) rfl own started (by kernel_rfl) Try.func6
    (OpenSpec.witness (enc := enc) (C := Try.checked) (s := Ytdmddoljldjjeaa.Rows.OpenSpec.upto Ytdmddoljldjjeaa.Rows.survivorLostSpec) (k := Ytdmddoljldjjeaa.Rows.uptoSmall) rfl false ⟨#[], #[.agg #[.string .empty, .slice none 0 0, .slice none 0 0], .agg #[.string .empty, .slice none 0 0, .slice none 0 0, .slice none 0 0, .slice none 0 0]], []⟩ 8 (by kernel_rfl) (by kernel_rfl) (by kernel_rfl)
      (x := ([.agg [.lit (.string []), .nil, .nil], .agg [.agg [.lit (.string []), .nil, .nil], .nil, .nil]], [], [])) (by kernel_rfl) rfl (by kernel_rfl)) ?_
  intro W base args ds gs before hval hW _ hk _
  exact contract H enc W base args ds gs before hval hW hk
theorem proved : Ytdmddoljldjjeaa.Rows.SurvivorLostUptoSaid :=
  OpenClaim.holds_of_cond 6 Try.f6 rfl rfl rfl rfl rfl rfl rfl ⟨rfl, rfl, rfl, rfl, rfl⟩ rfl rfl rfl rfl rfl (by kernel_rfl) Try.func6 (by kernel_rfl)
    (of_decide_eq_true (by kernel_rfl)) (by unfold Func.isWrapper; first | (rw [if_pos (by decide +kernel)]; kernel_rfl) | (rw [if_neg (by decide +kernel)]; exact ⟨rfl, rfl⟩))
    (fun os started H enc _ F => lifted os started H enc F)
end Go.Proofs.Ytdmddoljldjjeaa.SurvivorLost
