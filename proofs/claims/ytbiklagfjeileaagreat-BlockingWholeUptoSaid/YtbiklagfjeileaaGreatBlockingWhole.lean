/- The statement BlockingWhole: the arguments are read, the function is called, the answer is true. -/
import Derived.Test.YtbiklagfjeileaaGreatRows
import Derived.Test.YtbiklagfjeileaaGreatA2
import Derived.Test.YtbiklagfjeileaaGreatW1
import Derived.Test.YtbiklagfjeileaaGreatL1
set_option linter.unusedVariables false
set_option linter.unusedSimpArgs false
namespace Go.Proofs.YtbiklagfjeileaaGreat
open Go Go.Ab
abbrev bk : (H : Type) → DataW H → Nat := fun H d => YtbiklagfjeileaaGreat.Rows.uptoBulk d
theorem bk_one {H : Type} (d : DataW H) : 1 ≤ YtbiklagfjeileaaGreat.Rows.uptoBulk d := by
  cases d with
  | lit l => cases l <;> simp [YtbiklagfjeileaaGreat.Rows.uptoBulk]
  | _ => simp [YtbiklagfjeileaaGreat.Rows.uptoBulk]
theorem bk_part {H : Type} {d : DataW H} {l : List (DataW H)} (h : d ∈ l) : YtbiklagfjeileaaGreat.Rows.uptoBulk d ≤ YtbiklagfjeileaaGreat.Rows.uptoBulkAll l := by
  induction l with
  | nil => cases h
  | cons x r ih =>
    simp only [YtbiklagfjeileaaGreat.Rows.uptoBulkAll]
    cases List.mem_cons.1 h with
    | inl e => subst e; omega
    | inr e => have := ih e; omega
theorem bk_len {H : Type} (l : List (DataW H)) : l.length ≤ YtbiklagfjeileaaGreat.Rows.uptoBulkAll l := by
  induction l with
  | nil => simp [YtbiklagfjeileaaGreat.Rows.uptoBulkAll]
  | cons x r ih => have := bk_one x; simp only [YtbiklagfjeileaaGreat.Rows.uptoBulkAll, List.length_cons]; omega
theorem bk_law : Bulk bk := by
  refine ⟨fun H s => ?_, fun H es sp => ?_, fun H es sp d hd => ?_, fun H ps d hd => ?_⟩
  · simp [bk, YtbiklagfjeileaaGreat.Rows.uptoBulk]
  · have := bk_len es; simp only [bk, YtbiklagfjeileaaGreat.Rows.uptoBulk]; omega
  · have := bk_part hd; simp only [bk, YtbiklagfjeileaaGreat.Rows.uptoBulk]; omega
  · have := bk_part hd; simp only [bk, YtbiklagfjeileaaGreat.Rows.uptoBulk]; omega
theorem bk_small {H : Type} {ds : List (DataW H)} (h : YtbiklagfjeileaaGreat.Rows.uptoSmall H ds = true) {d : DataW H} (hd : d ∈ ds) : bk H d ≤ 1048576 := Nat.le_trans (bk_part hd) (of_decide_eq_true h)
theorem rd9 : Rd Tryz.prog bk 9 PV.str okS := Rd_str Tryz.underlying9 (by kernel_rfl) bk_law
theorem rd22 : Rd Tryz.prog bk 22 (encL PV.str) (okL okS) := Rd_slice Tryz.underlying22 (by kernel_rfl) (by rw [show Tryz.prog.cellsOf 9 = 1 by kernel_rfl]; omega) bk_law rd9
theorem rd3 : Rd Tryz.prog bk 3 (PV.int .i64) (okI .i64) := Rd_int Tryz.underlying3 (by kernel_rfl)
theorem rd23 : Rd Tryz.prog bk 23 encArr3_int okArr3_int := by
  refine Rd_array (fs := [⟨ "", 3, 0, false, "", "", 0⟩, ⟨ "", 3, 1, false, "", "", 0⟩, ⟨ "", 3, 2, false, "", "", 0⟩]) Tryz.underlying23 (by rw [show Tryz.prog.cellsOf 3 = 1 by kernel_rfl]; rfl) (by kernel_rfl) bk_law (RdFs.cons (fd := ⟨ "", 3, 0, false, "", "", 0⟩) rd3 (RdFs.cons (fd := ⟨ "", 3, 1, false, "", "", 0⟩) rd3 (RdFs.cons (fd := ⟨ "", 3, 2, false, "", "", 0⟩) rd3 RdFs.nil))) (fun x => ⟨x.1, x.2.1, x.2.2.1⟩) (fun x => by rw [show Tryz.prog.cellsOf 23 = 3 by kernel_rfl]; rfl) ?_ (fun _ => rfl) (fun _ => rfl) ?_
  · intro x y hy
    simp only [encArr3_int_cells, List.mem_cons, List.not_mem_nil, or_false] at hy
    rcases hy with rfl | rfl | rfl <;> exact ⟨rfl, rfl⟩
  · rintro ⟨x0, x1, x2, ⟨⟩⟩ h
    simp only [okArr3_int] at h ⊢
    simp_all
theorem rd2 : Rd Tryz.prog bk 2 (PV.int .i64) (okI .i64) := Rd_int Tryz.underlying2 (by kernel_rfl)
theorem rd43 : Rd Tryz.prog bk 43 encArr2_int64 okArr2_int64 := by
  refine Rd_array (fs := [⟨ "", 2, 0, false, "", "", 0⟩, ⟨ "", 2, 1, false, "", "", 0⟩]) Tryz.underlying43 (by rw [show Tryz.prog.cellsOf 2 = 1 by kernel_rfl]; rfl) (by kernel_rfl) bk_law (RdFs.cons (fd := ⟨ "", 2, 0, false, "", "", 0⟩) rd2 (RdFs.cons (fd := ⟨ "", 2, 1, false, "", "", 0⟩) rd2 RdFs.nil)) (fun x => ⟨x.1, x.2.1⟩) (fun x => by rw [show Tryz.prog.cellsOf 43 = 2 by kernel_rfl]; rfl) ?_ (fun _ => rfl) (fun _ => rfl) ?_
  · intro x y hy
    simp only [encArr2_int64_cells, List.mem_cons, List.not_mem_nil, or_false] at hy
    rcases hy with rfl | rfl <;> exact ⟨rfl, rfl⟩
  · rintro ⟨x0, x1, ⟨⟩⟩ h
    simp only [okArr2_int64] at h ⊢
    simp_all
theorem rd30 : Rd Tryz.prog bk 30 (encL encArr2_int64) (okL okArr2_int64) := Rd_slice Tryz.underlying30 (by kernel_rfl) (by rw [show Tryz.prog.cellsOf 43 = 2 by kernel_rfl]; omega) bk_law rd43
theorem rd38 : Rd Tryz.prog bk 38 (encL (encL encArr2_int64)) (okL (okL okArr2_int64)) := Rd_slice Tryz.underlying38 (by kernel_rfl) (by rw [show Tryz.prog.cellsOf 30 = 1 by kernel_rfl]; omega) bk_law rd30
theorem rd54 : Rd Tryz.prog bk 54 encValue okValue := by
  refine Rd_struct Tryz.underlying54 (by kernel_rfl) bk_law (RdFs.cons rd3 (RdFs.cons rd2 (RdFs.cons rd9 RdFs.nil))) (fun x => ⟨x.1, x.2.1, x.2.2.1⟩) (fun x => by rw [show Tryz.prog.cellsOf 54 = 3 by kernel_rfl]; rfl) ?_ (fun _ => rfl) (fun _ => rfl) ?_
  · intro x y hy
    simp only [encValue_cells, List.mem_cons, List.not_mem_nil, or_false] at hy
    rcases hy with rfl | rfl | rfl <;> exact ⟨rfl, rfl⟩
  · rintro ⟨x0, x1, x2, ⟨⟩⟩ h
    simp only [okValue] at h ⊢
    simp_all
theorem rd55 : Rd Tryz.prog bk 55 (encL encValue) (okL okValue) := Rd_slice Tryz.underlying55 (by kernel_rfl) (by rw [show Tryz.prog.cellsOf 54 = 3 by kernel_rfl]; omega) bk_law rd54
theorem rd57 : Rd Tryz.prog bk 57 encRow okRow := by
  refine Rd_struct Tryz.underlying57 (by kernel_rfl) bk_law (RdFs.cons rd2 (RdFs.cons rd55 RdFs.nil)) (fun x => ⟨x.1, x.2.1⟩) (fun x => by rw [show Tryz.prog.cellsOf 57 = 2 by kernel_rfl]; rfl) ?_ (fun _ => rfl) (fun _ => rfl) ?_
  · intro x y hy
    simp only [encRow_cells, List.mem_cons, List.not_mem_nil, or_false] at hy
    rcases hy with rfl | rfl <;> exact ⟨rfl, rfl⟩
  · rintro ⟨x0, x1, ⟨⟩⟩ h
    simp only [okRow] at h ⊢
    simp_all
theorem rd24 : Rd Tryz.prog bk 24 (encL encRow) (okL okRow) := Rd_slice Tryz.underlying24 (by kernel_rfl) (by rw [show Tryz.prog.cellsOf 57 = 2 by kernel_rfl]; omega) bk_law rd57
theorem rd26 : Rd Tryz.prog bk 26 encTable okTable := by
  refine Rd_struct Tryz.underlying26 (by kernel_rfl) bk_law (RdFs.cons rd9 (RdFs.cons rd22 (RdFs.cons rd24 RdFs.nil))) (fun x => ⟨x.1, x.2.1, x.2.2.1⟩) (fun x => by rw [show Tryz.prog.cellsOf 26 = 3 by kernel_rfl]; rfl) ?_ (fun _ => rfl) (fun _ => rfl) ?_
  · intro x y hy
    simp only [encTable_cells, List.mem_cons, List.not_mem_nil, or_false] at hy
    rcases hy with rfl | rfl | rfl <;> exact ⟨rfl, rfl⟩
  · rintro ⟨x0, x1, x2, ⟨⟩⟩ h
    simp only [okTable] at h ⊢
    simp_all
end Go.Proofs.YtbiklagfjeileaaGreat
namespace Go.Proofs.YtbiklagfjeileaaGreat.BlockingWhole
open Go Go.Ab Go.ChangeShapes
set_option linter.unusedVariables false
theorem own : ownKnob Tryz.prog.godebug = none := by kernel_rfl
set_option maxRecDepth 100000 in
theorem contract (H : Type) (enc : TypeId × Go.Value → H) (W : World) (base : Nat) (args : Array Go.Value) (ds gs : List (DataW H)) (before : List MemPlace)
    (hval : ∀ (j : Nat) t v, Tryz.f5.params[j]? = some t → args[j]? = some v → Go.Value.okWide Tryz.prog W .any base t v)
    (hW : DataW.Whole enc Tryz.prog Tryz.f5.params.toList YtbiklagfjeileaaGreat.Rows.blockingWholeSpec.vars false W args.toList ds gs before) (hk : YtbiklagfjeileaaGreat.Rows.uptoSmall H (ds ++ gs) = true) :
    Calls Tryz.prog 5 args W fun e W' => ∃ v, e = .returned v ∧ YtbiklagfjeileaaGreat.Rows.blockingWholeSpec.post enc Tryz.prog Tryz.f5 false true false false W args v W' := by
  have hW0 := hW
  obtain ⟨p, q, hA, hV, rfl, hfz, hnd⟩ := hW0
  rw [Tryz.params5] at hA hval
  obtain ⟨v0, vs0, d0, ds0, p0, q0, hargs0, rfl, rfl, h0, r0⟩ := trodAll_cons hA
  obtain ⟨rfl, rfl, rfl⟩ := trodAll_nil r0
  obtain rfl : args = #[v0] := by cases args; simp_all
  obtain ⟨rfl, rfl⟩ := trodVars_none hV
  obtain ⟨x0, hx0, ok0⟩ := rd22.val (hval 0 22 v0 rfl rfl) h0 (bk_small hk (by simp))
  exact law_post (D := False) hW rfl rfl rfl Tryz.underlying4 (by kernel_rfl) (by kernel_rfl) (by kernel_rfl) (by rw [Tryz.params5]; decide +kernel) (drosslaw53_BlockingWhole_con x0 _ (BlockingWhole_holds x0 ok0)) ⟨_, _, rfl, hx0, rfl⟩
set_option maxRecDepth 100000 in
theorem lifted (os : Os) (started : os.Started) (H : Type) (enc : TypeId × Go.Value → H) (F : Stop.Interp) :
    ReturnsInHanded {} Tryz.checked os 5 .any ((YtbiklagfjeileaaGreat.Rows.OpenSpec.upto YtbiklagfjeileaaGreat.Rows.blockingWholeSpec).pre6 enc Tryz.prog Tryz.f5 YtbiklagfjeileaaGreat.Rows.blockingWholeUptoRow.domain false) (((YtbiklagfjeileaaGreat.Rows.OpenSpec.upto YtbiklagfjeileaaGreat.Rows.blockingWholeSpec).at F).post enc Tryz.prog Tryz.f5 false true false false) := by
  refine returnsInHanded_of_cond (C := Tryz.checked) (s := YtbiklagfjeileaaGreat.Rows.OpenSpec.upto YtbiklagfjeileaaGreat.Rows.blockingWholeSpec) (k := YtbiklagfjeileaaGreat.Rows.uptoSmall) rfl own started (by kernel_rfl) Tryz.func5
    (OpenSpec.witness (enc := enc) (C := Tryz.checked) (s := YtbiklagfjeileaaGreat.Rows.OpenSpec.upto YtbiklagfjeileaaGreat.Rows.blockingWholeSpec) (k := YtbiklagfjeileaaGreat.Rows.uptoSmall) rfl false ⟨#[], #[.slice none 0 0], []⟩ 8 (by kernel_rfl) (by kernel_rfl) (by kernel_rfl)
      (x := ([.nil], [], [])) (by kernel_rfl) rfl (by kernel_rfl)) ?_
  intro W base args ds gs before hval hW _ hk _
  exact contract H enc W base args ds gs before hval hW hk
theorem proved : YtbiklagfjeileaaGreat.Rows.BlockingWholeUptoSaid :=
  OpenClaim.holds_of_cond 5 Tryz.f5 rfl rfl rfl rfl rfl rfl rfl ⟨rfl, rfl, rfl, rfl, rfl⟩ rfl rfl rfl rfl rfl (by kernel_rfl) Tryz.func5 (by kernel_rfl)
    (of_decide_eq_true (by kernel_rfl)) (by unfold Func.isWrapper; first | (rw [if_pos (by decide +kernel)]; kernel_rfl) | (rw [if_neg (by decide +kernel)]; exact ⟨rfl, rfl⟩))
    (fun os started H enc _ F => lifted os started H enc F)
end Go.Proofs.YtbiklagfjeileaaGreat.BlockingWhole
