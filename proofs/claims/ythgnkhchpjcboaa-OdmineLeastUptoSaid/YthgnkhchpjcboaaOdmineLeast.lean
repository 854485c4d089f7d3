/- The statement OdmineLeast: the arguments are read, the function is called, the answer is true. -/
import Derived.Test.YthgnkhchpjcboaaRows
import Derived.Test.YthgnkhchpjcboaaA2
import Derived.Test.YthgnkhchpjcboaaW1
import Derived.Test.YthgnkhchpjcboaaL1
set_option linter.unusedVariables false
set_option linter.unusedSimpArgs false
namespace Go.Proofs.Ythgnkhchpjcboaa
open Go Go.Ab
abbrev bk : (H : Type) → DataW H → Nat := fun H d => Ythgnkhchpjcboaa.Rows.uptoBulk d
theorem bk_one {H : Type} (d : DataW H) : 1 ≤ Ythgnkhchpjcboaa.Rows.uptoBulk d := by
  cases d with
  | lit l => cases l <;> simp [Ythgnkhchpjcboaa.Rows.uptoBulk]
  | _ => simp [Ythgnkhchpjcboaa.Rows.uptoBulk]
theorem bk_part {H : Type} {d : DataW H} {l : List (DataW H)} (h : d ∈ l) : Ythgnkhchpjcboaa.Rows.uptoBulk d ≤ Ythgnkhchpjcboaa.Rows.uptoBulkAll l := by
  induction l with
  | nil => cases h
  | cons x r ih =>
    simp only [Ythgnkhchpjcboaa.Rows.uptoBulkAll]
    cases List.mem_cons.1 h with
    | inl e => subst e; omega
    | inr e => have := ih e; omega
theorem bk_len {H : Type} (l : List (DataW H)) : l.length ≤ Ythgnkhchpjcboaa.Rows.uptoBulkAll l := by
  induction l with
  | nil => simp [Ythgnkhchpjcboaa.Rows.uptoBulkAll]
  | cons x r ih => have := bk_one x; simp only [Ythgnkhchpjcboaa.Rows.uptoBulkAll, List.length_cons]; omega
theorem bk_law : Bulk bk := by
  refine ⟨fun H s => ?_, fun H es sp => ?_, fun H es sp d hd => ?_, fun H ps d hd => ?_⟩
  · simp [bk, Ythgnkhchpjcboaa.Rows.uptoBulk]
  · have := bk_len es; simp only [bk, Ythgnkhchpjcboaa.Rows.uptoBulk]; omega
  · have := bk_part hd; simp only [bk, Ythgnkhchpjcboaa.Rows.uptoBulk]; omega
  · have := bk_part hd; simp only [bk, Ythgnkhchpjcboaa.Rows.uptoBulk]; omega
theorem bk_small {H : Type} {ds : List (DataW H)} (h : Ythgnkhchpjcboaa.Rows.uptoSmall H ds = true) {d : DataW H} (hd : d ∈ ds) : bk H d ≤ 1048576 := Nat.le_trans (bk_part hd) (of_decide_eq_true h)
theorem rd9 : Rd Try.prog bk 9 PV.str okS := Rd_str Try.underlying9 (by kernel_rfl) bk_law
theorem rd22 : Rd Try.prog bk 22 (encL PV.str) (okL okS) := Rd_slice Try.underlying22 (by kernel_rfl) (by rw [show Try.prog.cellsOf 9 = 1 by kernel_rfl]; omega) bk_law rd9
theorem rd2 : Rd Try.prog bk 2 (PV.int .i64) (okI .i64) := Rd_int Try.underlying2 (by kernel_rfl)
theorem rd3 : Rd Try.prog bk 3 (PV.int .i64) (okI .i64) := Rd_int Try.underlying3 (by kernel_rfl)
theorem rd81 : Rd Try.prog bk 81 encValue okValue := by
  refine Rd_struct Try.underlying81 (by kernel_rfl) bk_law (RdFs.cons rd3 (RdFs.cons rd2 (RdFs.cons rd9 RdFs.nil))) (fun x => ⟨x.1, x.2.1, x.2.2.1⟩) (fun x => by rw [show Try.prog.cellsOf 81 = 3 by kernel_rfl]; rfl) ?_ (fun _ => rfl) (fun _ => rfl) ?_
  · intro x y hy
    simp only [encValue_cells, List.mem_cons, List.not_mem_nil, or_false] at hy
    rcases hy with rfl | rfl | rfl <;> exact ⟨rfl, rfl⟩
  · rintro ⟨x0, x1, x2, ⟨⟩⟩ h
    simp only [okValue] at h ⊢
    simp_all
theorem rd41 : Rd Try.prog bk 41 (encL encValue) (okL okValue) := Rd_slice Try.underlying41 (by kernel_rfl) (by rw [show Try.prog.cellsOf 81 = 3 by kernel_rfl]; omega) bk_law rd81
theorem rd43 : Rd Try.prog bk 43 encRow okRow := by
  refine Rd_struct Try.underlying43 (by kernel_rfl) bk_law (RdFs.cons rd2 (RdFs.cons rd41 RdFs.nil)) (fun x => ⟨x.1, x.2.1⟩) (fun x => by rw [show Try.prog.cellsOf 43 = 2 by kernel_rfl]; rfl) ?_ (fun _ => rfl) (fun _ => rfl) ?_
  · intro x y hy
    simp only [encRow_cells, List.mem_cons, List.not_mem_nil, or_false] at hy
    rcases hy with rfl | rfl <;> exact ⟨rfl, rfl⟩
  · rintro ⟨x0, x1, ⟨⟩⟩ h
    simp only [okRow] at h ⊢
    simp_all
theorem rd23 : Rd Try.prog bk 23 (encL encRow) (okL okRow) := Rd_slice Try.underlying23 (by kernel_rfl) (by rw [show Try.prog.cellsOf 43 = 2 by kernel_rfl]; omega) bk_law rd43
theorem rd25 : Rd Try.prog bk 25 encTable okTable := by
  refine Rd_struct Try.underlying25 (by kernel_rfl) bk_law (RdFs.cons rd9 (RdFs.cons rd22 (RdFs.cons rd23 RdFs.nil))) (fun x => ⟨x.1, x.2.1, x.2.2.1⟩) (fun x => by rw [show Try.prog.cellsOf 25 = 3 by kernel_rfl]; rfl) ?_ (fun _ => rfl) (fun _ => rfl) ?_
  · intro x y hy
    simp only [encTable_cells, List.mem_cons, List.not_mem_nil, or_false] at hy
    rcases hy with rfl | rfl | rfl <;> exact ⟨rfl, rfl⟩
  · rintro ⟨x0, x1, x2, ⟨⟩⟩ h
    simp only [okTable] at h ⊢
    simp_all
theorem rd5 : Rd Try.prog bk 5 (PV.int .u8) (okI .u8) := Rd_int Try.underlying5 (by kernel_rfl)
theorem rd89 : Rd Try.prog bk 89 (encL (PV.int .u8)) (okL (okI .u8)) := Rd_slice Try.underlying89 (by kernel_rfl) (by rw [show Try.prog.cellsOf 5 = 1 by kernel_rfl]; omega) bk_law rd5
theorem rd33 : Rd Try.prog bk 33 (encL (encL (PV.int .u8))) (okL (okL (okI .u8))) := Rd_slice Try.underlying33 (by kernel_rfl) (by rw [show Try.prog.cellsOf 89 = 1 by kernel_rfl]; omega) bk_law rd89
theorem rd35 : Rd Try.prog bk 35 encDrossref03_Recipe okDrossref03_Recipe := by
  refine Rd_struct Try.underlying35 (by kernel_rfl) bk_law (RdFs.cons rd5 (RdFs.cons rd5 (RdFs.cons rd33 RdFs.nil))) (fun x => ⟨x.1, x.2.1, x.2.2.1⟩) (fun x => by rw [show Try.prog.cellsOf 35 = 3 by kernel_rfl]; rfl) ?_ (fun _ => rfl) (fun _ => rfl) ?_
  · intro x y hy
    simp only [encDrossref03_Recipe_cells, List.mem_cons, List.not_mem_nil, or_false] at hy
    rcases hy with rfl | rfl | rfl <;> exact ⟨rfl, rfl⟩
  · rintro ⟨x0, x1, x2, ⟨⟩⟩ h
    simp only [okDrossref03_Recipe] at h ⊢
    simp_all
theorem rd37 : Rd Try.prog bk 37 (PV.int .u32) (okI .u32) := Rd_int Try.underlying37 (by kernel_rfl)
theorem rd52 : Rd Try.prog bk 52 encCanonical okCanonical := by
  refine Rd_struct Try.underlying52 (by kernel_rfl) bk_law (RdFs.cons rd37 (RdFs.cons rd3 (RdFs.cons rd3 RdFs.nil))) (fun x => ⟨x.1, x.2.1, x.2.2.1⟩) (fun x => by rw [show Try.prog.cellsOf 52 = 3 by kernel_rfl]; rfl) ?_ (fun _ => rfl) (fun _ => rfl) ?_
  · intro x y hy
    simp only [encCanonical_cells, List.mem_cons, List.not_mem_nil, or_false] at hy
    rcases hy with rfl | rfl | rfl <;> exact ⟨rfl, rfl⟩
  · rintro ⟨x0, x1, x2, ⟨⟩⟩ h
    simp only [okCanonical] at h ⊢
    simp_all
theorem rd47 : Rd Try.prog bk 47 (encL encCanonical) (okL okCanonical) := Rd_slice Try.underlying47 (by kernel_rfl) (by rw [show Try.prog.cellsOf 52 = 3 by kernel_rfl]; omega) bk_law rd52
end Go.Proofs.Ythgnkhchpjcboaa
namespace Go.Proofs.Ythgnkhchpjcboaa.OdmineLeast
open Go Go.Ab Go.ChangeShapes
set_option linter.unusedVariables false
theorem own : ownKnob Try.prog.godebug = none := by kernel_rfl
set_option maxRecDepth 100000 in
theorem contract (H : Type) (enc : TypeId × Go.Value → H) (W : World) (base : Nat) (args : Array Go.Value) (ds gs : List (DataW H)) (before : List MemPlace)
    (hval : ∀ (j : Nat) t v, Try.f6.params[j]? = some t → args[j]? = some v → Go.Value.okWide Try.prog W .any base t v)
    (hW : DataW.Whole enc Try.prog Try.f6.params.toList Ythgnkhchpjcboaa.Rows.odmineLeastSpec.vars false W args.toList ds gs before) (hk : Ythgnkhchpjcboaa.Rows.uptoSmall H (ds ++ gs) = true) :
    Calls Try.prog 6 args W fun e W' => ∃ v, e = .returned v ∧ Ythgnkhchpjcboaa.Rows.odmineLeastSpec.post enc Try.prog Try.f6 false true false false W args v W' := by
  have hW0 := hW
  obtain ⟨p, q, hA, hV, rfl, hfz, hnd⟩ := hW0
  rw [Try.params6] at hA hval
  obtain ⟨v0, vs0, d0, ds0, p0, q0, hargs0, rfl, rfl, h0, r0⟩ := trodAll_cons hA
  obtain ⟨v1, vs1, d1, ds1, p1, q1, hargs1, rfl, rfl, h1, r1⟩ := trodAll_cons r0
  obtain ⟨rfl, rfl, rfl⟩ := trodAll_nil r1
  obtain rfl : args = #[v0, v1] := by cases args; simp_all
  obtain ⟨rfl, rfl⟩ := trodVars_none hV
  obtain ⟨x0, hx0, ok0⟩ := rd35.val (hval 0 35 v0 rfl rfl) h0 (bk_small hk (by simp))
  obtain ⟨x1, hx1, ok1⟩ := rd5.val (hval 1 5 v1 rfl rfl) h1 (bk_small hk (by simp))
  exact law_post (D := False) hW rfl rfl rfl Try.underlying4 (by kernel_rfl) (by kernel_rfl) (by kernel_rfl) (by rw [Try.params6]; decide +kernel) (drosslaw31_OdmineLeast_con x0 x1 _ (OdmineLeast_holds x0 x1 ok0 ok1)) ⟨_, _, rfl, hx0, ⟨_, _, rfl, hx1, rfl⟩⟩
set_option maxRecDepth 100000 in
theorem lifted (os : Os) (started : os.Started) (H : Type) (enc : TypeId × Go.Value → H) (F : Stop.Interp) :
    ReturnsInHanded {} Try.checked os 6 .any ((Ythgnkhchpjcboaa.Rows.OpenSpec.upto Ythgnkhchpjcboaa.Rows.odmineLeastSpec).pre6 enc Try.prog Try.f6 Ythgnkhchpjcboaa.Rows.odmineLeastUptoRow.domain false) (((Ythgnkhchpjcboaa.Rows.OpenSpec.upto Ythgnkhchpjcboaa.Rows.odmineLeastSpec).at F).post enc Try.prog Try.f6 false true false false) := by
  refine returnsInHanded_of_cond (C := Try.checked) (s := Ythgnkhchpjcboaa.Rows.OpenSpec.upto Ythgnkhchpjcboaa.Rows.odmineLeastSpec) (k := Ythgnkhchpjcboaa.Rows.uptoSmall) rfl own started (by kernel_rfl) Try.func6
    (OpenSpec.witness (enc := enc) (C := Try.checked) (s := Ythgnkhchpjcboaa.Rows.OpenSpec.upto Ythgnkhchpjcboaa.Rows.odmineLeastSpec) (k := Ythgnkhchpjcboaa.Rows.uptoSmall) rfl false ⟨#[], #[.agg #[.int .u8 0, .int .u8 0, .slice none 0 0], .int .u8 0], []⟩ 8 (by kernel_rfl) (by kernel_rfl) (by kernel_rfl)
      (x := ([.agg [.lit (.int .u8 0), .lit (.int .u8 0), .nil], .lit (.int .u8 0)], [], [])) (by kernel_rfl) rfl (by kernel_rfl)) ?_
  intro W base args ds gs before hval hW _ hk _
  exact contract H enc W base args ds gs before hval hW hk
theorem proved : Ythgnkhchpjcboaa.Rows.OdmineLeastUptoSaid :=
  OpenClaim.holds_of_cond 6 Try.f6 rfl rfl rfl rfl rfl rfl rfl ⟨rfl, rfl, rfl, rfl, rfl⟩ rfl rfl rfl rfl rfl (by kernel_rfl) Try.func6 (by kernel_rfl)
    (of_decide_eq_true (by kernel_rfl)) (by unfold Func.isWrapper; first | (rw [if_pos (by decide +kernel)]; kernel_rfl) | (rw [if_neg (by decide +kernel)]; exact ⟨rfl, rfl⟩))
    (fun os started H enc _ F => lifted os started H enc F)
end Go.Proofs.Ythgnkhchpjcboaa.OdmineLeast
