/- The statement BlockingNested: the arguments are read, the function is called, the answer is true. -/
import Derived.Test.YtbiklagfjeileaaRows
import Derived.Test.YtbiklagfjeileaaA2
import Derived.Test.YtbiklagfjeileaaW1
import Derived.Test.YtbiklagfjeileaaL1
set_option linter.unusedVariables false
set_option linter.unusedSimpArgs false
namespace Go.Proofs.Ytbiklagfjeileaa
open Go Go.Ab
abbrev bk : (H : Type) → DataW H → Nat := fun H d => Ytbiklagfjeileaa.Rows.uptoBulk d
theorem bk_one {H : Type} (d : DataW H) : 1 ≤ Ytbiklagfjeileaa.Rows.uptoBulk d := by
  cases d with
  | lit l => cases l <;> simp [Ytbiklagfjeileaa.Rows.uptoBulk]
  | _ => simp [Ytbiklagfjeileaa.Rows.uptoBulk]
theorem bk_part {H : Type} {d : DataW H} {l : List (DataW H)} (h : d ∈ l) : Ytbiklagfjeileaa.Rows.uptoBulk d ≤ Ytbiklagfjeileaa.Rows.uptoBulkAll l := by
  induction l with
  | nil => cases h
  | cons x r ih =>
    simp only [Ytbiklagfjeileaa.Rows.uptoBulkAll]
    cases List.mem_cons.1 h with
    | inl e => subst e; omega
    | inr e => have := ih e; omega
theorem bk_len {H : Type} (l : List (DataW H)) : l.length ≤ Ytbiklagfjeileaa.Rows.uptoBulkAll l := by
  induction l with
  | nil => simp [Ytbiklagfjeileaa.Rows.uptoBulkAll]
  | cons x r ih => have := bk_one x; simp only [Ytbiklagfjeileaa.Rows.uptoBulkAll, List.length_cons]; omega
theorem bk_law : Bulk bk := by
  refine ⟨fun H s => ?_, fun H es sp => ?_, fun H es sp d hd => ?_, fun H ps d hd => ?_⟩
  · simp [bk, Ytbiklagfjeileaa.Rows.uptoBulk]
  · have := bk_len es; simp only [bk, Ytbiklagfjeileaa.Rows.uptoBulk]; omega
  · have := bk_part hd; simp only [bk, Ytbiklagfjeileaa.Rows.uptoBulk]; omega
  · have := bk_part hd; simp only [bk, Ytbiklagfjeileaa.Rows.uptoBulk]; omega
theorem bk_small {H : Type} {ds : List (DataW H)} (h : Ytbiklagfjeileaa.Rows.uptoSmall H ds = true) {d : DataW H} (hd : d ∈ ds) : bk H d ≤ 1048576 := Nat.le_trans (bk_part hd) (of_decide_eq_true h)
theorem rd9 : Rd Try.prog bk 9 PV.str okS := Rd_str Try.underlying9 (by kernel_rfl) bk_law
theorem rd22 : Rd Try.prog bk 22 (encL PV.str) (okL okS) := Rd_slice Try.underlying22 (by kernel_rfl) (by rw [show Try.prog.cellsOf 9 = 1 by kernel_rfl]; omega) bk_law rd9
theorem rd5 : Rd Try.prog bk 5 (PV.int .u8) (okI .u8) := Rd_int Try.underlying5 (by kernel_rfl)
theorem rd42 : Rd Try.prog bk 42 encArr2_uint8 okArr2_uint8 := by
  refine Rd_array (fs := [⟨ "", 5, 0, false, "", "", 0⟩, ⟨ "", 5, 1, false, "", "", 0⟩]) Try.underlying42 (by rw [show Try.prog.cellsOf 5 = 1 by kernel_rfl]; rfl) (by kernel_rfl) bk_law (RdFs.cons (fd := ⟨ "", 5, 0, false, "", "", 0⟩) rd5 (RdFs.cons (fd := ⟨ "", 5, 1, false, "", "", 0⟩) rd5 RdFs.nil)) (fun x => ⟨x.1, x.2.1⟩) (fun x => by rw [show Try.prog.cellsOf 42 = 2 by kernel_rfl]; rfl) ?_ (fun _ => rfl) (fun _ => rfl) ?_
  · intro x y hy
    simp only [encArr2_uint8_cells, List.mem_cons, List.not_mem_nil, or_false] at hy
    rcases hy with rfl | rfl <;> exact ⟨rfl, rfl⟩
  · rintro ⟨x0, x1, ⟨⟩⟩ h
    simp only [okArr2_uint8] at h ⊢
    simp_all
end Go.Proofs.Ytbiklagfjeileaa
namespace Go.Proofs.Ytbiklagfjeileaa.BlockingNested
open Go Go.Ab Go.ChangeShapes
set_option linter.unusedVariables false
theorem own : ownKnob Try.prog.godebug = none := by kernel_rfl
set_option maxRecDepth 100000 in
theorem contract (H : Type) (enc : TypeId × Go.Value → H) (W : World) (base : Nat) (args : Array Go.Value) (ds gs : List (DataW H)) (before : List MemPlace)
    (hval : ∀ (j : Nat) t v, Try.f4.params[j]? = some t → args[j]? = some v → Go.Value.okWide Try.prog W .any base t v)
    (hW : DataW.Whole enc Try.prog Try.f4.params.toList Ytbiklagfjeileaa.Rows.blockingNestedSpec.vars false W args.toList ds gs before) (hk : Ytbiklagfjeileaa.Rows.uptoSmall H (ds ++ gs) = true) :
    Calls Try.prog 4 args W fun e W' => ∃ v, e = .returned v ∧ Ytbiklagfjeileaa.Rows.blockingNestedSpec.post enc Try.prog Try.f4 false true false false W args v W' := by
  have hW0 := hW
  obtain ⟨p, q, hA, hV, rfl, hfz, hnd⟩ := hW0
  rw [Try.params4] at hA hval
  obtain ⟨v0, vs0, d0, ds0, p0, q0, hargs0, rfl, rfl, h0, r0⟩ := trodAll_cons hA
  obtain ⟨v1, vs1, d1, ds1, p1, q1, hargs1, rfl, rfl, h1, r1⟩ := trodAll_cons r0
  obtain ⟨v2, vs2, d2, ds2, p2, q2, hargs2, rfl, rfl, h2, r2⟩ := trodAll_cons r1
  obtain ⟨rfl, rfl, rfl⟩ := trodAll_nil r2
  obtain rfl : args = #[v0, v1, v2] := by cases args; simp_all
  obtain ⟨rfl, rfl⟩ := trodVars_none hV
  obtain ⟨x0, hx0, ok0⟩ := rd22.val (hval 0 22 v0 rfl rfl) h0 (bk_small hk (by simp))
  obtain ⟨x1, hx1, ok1⟩ := rd42.val (hval 1 42 v1 rfl rfl) h1 (bk_small hk (by simp))
  obtain ⟨x2, hx2, ok2⟩ := rd5.val (hval 2 5 v2 rfl rfl) h2 (bk_small hk (by simp))
  exact law_post (D := False) hW rfl rfl rfl Try.underlying4 (by kernel_rfl) (by kernel_rfl) (by kernel_rfl) (by rw [Try.params4]; decide +kernel) (drosslaw53_BlockingNested_con x0 x1 x2 _ (BlockingNested_holds x0 x1 x2 ok0 ok1 ok2)) ⟨_, _, rfl, hx0, ⟨_, _, rfl, hx1, ⟨_, _, rfl, hx2, rfl⟩⟩⟩
set_option maxRecDepth 100000 in
theorem lifted (os : Os) (started : os.Started) (H : Type) (enc : TypeId × Go.Value → H) (F : Stop.Interp) :
    ReturnsInHanded {} Try.checked os 4 .any ((Ytbiklagfjeileaa.Rows.OpenSpec.upto Ytbiklagfjeileaa.Rows.blockingNestedSpec).pre6 enc Try.prog Try.f4 Ytbiklagfjeileaa.Rows.blockingNestedUptoRow.domain false) (((Ytbiklagfjeileaa.Rows.OpenSpec.upto Ytbiklagfjeileaa.Rows.blockingNestedSpec).at F).post enc Try.prog Try.f4 false true false false) := by
  refine returnsInHanded_of_cond (C := Try.checked) (s := Ytbiklagfjeileaa.Rows.OpenSpec.upto Ytbiklagfjeileaa.Rows.blockingNestedSpec) (k := Ytbiklagfjeileaa.Rows.uptoSmall) rfl own started (by kernel_rfl) Try.func4
    (OpenSpec.witness (enc := enc) (C := Try.checked) (s := Ytbiklagfjeileaa.Rows.OpenSpec.upto Ytbiklagfjeileaa.Rows.blockingNestedSpec) (k := Ytbiklagfjeileaa.Rows.uptoSmall) rfl false ⟨#[], #[.slice none 0 0, .agg #[.int .u8 0, .int .u8 0], .int .u8 0], []⟩ 8 (by kernel_rfl) (by kernel_rfl) (by kernel_rfl)
      (x := ([.nil, .agg [.lit (.int .u8 0), .lit (.int .u8 0)], .lit (.int .u8 0)], [], [])) (by kernel_rfl) rfl (by kernel_rfl)) ?_
  intro W base args ds gs before hval hW _ hk _
  exact contract H enc W base args ds gs before hval hW hk
theorem proved : Ytbiklagfjeileaa.Rows.BlockingNestedUptoSaid :=
  OpenClaim.holds_of_cond 4 Try.f4 rfl rfl rfl rfl rfl rfl rfl ⟨rfl, rfl, rfl, rfl, rfl⟩ rfl rfl rfl rfl rfl (by kernel_rfl) Try.func4 (by kernel_rfl)
    (of_decide_eq_true (by kernel_rfl)) (by unfold Func.isWrapper; first | (rw [if_pos (by decide +kernel)]; kernel_rfl) | (rw [if_neg (by decide +kernel)]; exact ⟨rfl, rfl⟩))
    (fun os started H enc _ F => lifted os started H enc F)
end Go.Proofs.Ytbiklagfjeileaa.BlockingNested
