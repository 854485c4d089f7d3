/- The statement OrderingSorted: the arguments are read, the function is called, the answer is true. -/
import Derived.Test.YtimfcgdnogjlhaaGreatRows
import Derived.Test.YtimfcgdnogjlhaaGreatA2
import Derived.Test.YtimfcgdnogjlhaaGreatW1
import Derived.Test.YtimfcgdnogjlhaaGreatL1
set_option linter.unusedVariables false
set_option linter.unusedSimpArgs false
namespace Go.Proofs.YtimfcgdnogjlhaaGreat
open Go Go.Ab
abbrev bk : (H : Type) → DataW H → Nat := fun H d => YtimfcgdnogjlhaaGreat.Rows.uptoBulk d
theorem bk_one {H : Type} (d : DataW H) : 1 ≤ YtimfcgdnogjlhaaGreat.Rows.uptoBulk d := by
  cases d with
  | lit l => cases l <;> simp [YtimfcgdnogjlhaaGreat.Rows.uptoBulk]
  | _ => simp [YtimfcgdnogjlhaaGreat.Rows.uptoBulk]
theorem bk_part {H : Type} {d : DataW H} {l : List (DataW H)} (h : d ∈ l) : YtimfcgdnogjlhaaGreat.Rows.uptoBulk d ≤ YtimfcgdnogjlhaaGreat.Rows.uptoBulkAll l := by
  induction l with
  | nil => cases h
  | cons x r ih =>
    simp only [YtimfcgdnogjlhaaGreat.Rows.uptoBulkAll]
    cases List.mem_cons.1 h with
    | inl e => subst e; omega
    | inr e => have := ih e; omega
theorem bk_len {H : Type} (l : List (DataW H)) : l.length ≤ YtimfcgdnogjlhaaGreat.Rows.uptoBulkAll l := by
  induction l with
  | nil => simp [YtimfcgdnogjlhaaGreat.Rows.uptoBulkAll]
  | cons x r ih => have := bk_one x; simp only [YtimfcgdnogjlhaaGreat.Rows.uptoBulkAll, List.length_cons]; omega
theorem bk_law : Bulk bk := by
  refine ⟨fun H s => ?_, fun H es sp => ?_, fun H es sp d hd => ?_, fun H ps d hd => ?_⟩
  · simp [bk, YtimfcgdnogjlhaaGreat.Rows.uptoBulk]
  · have := bk_len es; simp only [bk, YtimfcgdnogjlhaaGreat.Rows.uptoBulk]; omega
  · have := bk_part hd; simp only [bk, YtimfcgdnogjlhaaGreat.Rows.uptoBulk]; omega
  · have := bk_part hd; simp only [bk, YtimfcgdnogjlhaaGreat.Rows.uptoBulk]; omega
theorem bk_small {H : Type} {ds : List (DataW H)} (h : YtimfcgdnogjlhaaGreat.Rows.uptoSmall H ds = true) {d : DataW H} (hd : d ∈ ds) : bk H d ≤ 1048576 := Nat.le_trans (bk_part hd) (of_decide_eq_true h)
theorem rd5 : Rd Tryz.prog bk 5 (PV.int .u8) (okI .u8) := Rd_int Tryz.underlying5 (by kernel_rfl)
theorem rd25 : Rd Tryz.prog bk 25 (encL (PV.int .u8)) (okL (okI .u8)) := Rd_slice Tryz.underlying25 (by kernel_rfl) (by rw [show Tryz.prog.cellsOf 5 = 1 by kernel_rfl]; omega) bk_law rd5
theorem rd22 : Rd Tryz.prog bk 22 (encL (encL (PV.int .u8))) (okL (okL (okI .u8))) := Rd_slice Tryz.underlying22 (by kernel_rfl) (by rw [show Tryz.prog.cellsOf 25 = 1 by kernel_rfl]; omega) bk_law rd25
theorem rd24 : Rd Tryz.prog bk 24 encDrossref03_Recipe okDrossref03_Recipe := by
  refine Rd_struct Tryz.underlying24 (by kernel_rfl) bk_law (RdFs.cons rd5 (RdFs.cons rd5 (RdFs.cons rd22 RdFs.nil))) (fun x => ⟨x.1, x.2.1, x.2.2.1⟩) (fun x => by rw [show Tryz.prog.cellsOf 24 = 3 by kernel_rfl]; rfl) ?_ (fun _ => rfl) (fun _ => rfl) ?_
  · intro x y hy
    simp only [encDrossref03_Recipe_cells, List.mem_cons, List.not_mem_nil, or_false] at hy
    rcases hy with rfl | rfl | rfl <;> exact ⟨rfl, rfl⟩
  · rintro ⟨x0, x1, x2, ⟨⟩⟩ h
    simp only [okDrossref03_Recipe] at h ⊢
    simp_all
theorem rd27 : Rd Tryz.prog bk 27 encDrossref17_Lists okDrossref17_Lists := by
  refine Rd_struct Tryz.underlying27 (by kernel_rfl) bk_law (RdFs.cons rd25 (RdFs.cons rd25 RdFs.nil)) (fun x => ⟨x.1, x.2.1⟩) (fun x => by rw [show Tryz.prog.cellsOf 27 = 2 by kernel_rfl]; rfl) ?_ (fun _ => rfl) (fun _ => rfl) ?_
  · intro x y hy
    simp only [encDrossref17_Lists_cells, List.mem_cons, List.not_mem_nil, or_false] at hy
    rcases hy with rfl | rfl <;> exact ⟨rfl, rfl⟩
  · rintro ⟨x0, x1, ⟨⟩⟩ h
    simp only [okDrossref17_Lists] at h ⊢
    simp_all
theorem rd9 : Rd Tryz.prog bk 9 PV.str okS := Rd_str Tryz.underlying9 (by kernel_rfl) bk_law
theorem rd28 : Rd Tryz.prog bk 28 (encL PV.str) (okL okS) := Rd_slice Tryz.underlying28 (by kernel_rfl) (by rw [show Tryz.prog.cellsOf 9 = 1 by kernel_rfl]; omega) bk_law rd9
theorem rd2 : Rd Tryz.prog bk 2 (PV.int .i64) (okI .i64) := Rd_int Tryz.underlying2 (by kernel_rfl)
theorem rd3 : Rd Tryz.prog bk 3 (PV.int .i64) (okI .i64) := Rd_int Tryz.underlying3 (by kernel_rfl)
theorem rd83 : Rd Tryz.prog bk 83 encValue okValue := by
  refine Rd_struct Tryz.underlying83 (by kernel_rfl) bk_law (RdFs.cons rd3 (RdFs.cons rd2 (RdFs.cons rd9 RdFs.nil))) (fun x => ⟨x.1, x.2.1, x.2.2.1⟩) (fun x => by rw [show Tryz.prog.cellsOf 83 = 3 by kernel_rfl]; rfl) ?_ (fun _ => rfl) (fun _ => rfl) ?_
  · intro x y hy
    simp only [encValue_cells, List.mem_cons, List.not_mem_nil, or_false] at hy
    rcases hy with rfl | rfl | rfl <;> exact ⟨rfl, rfl⟩
  · rintro ⟨x0, x1, x2, ⟨⟩⟩ h
    simp only [okValue] at h ⊢
    simp_all
theorem rd49 : Rd Tryz.prog bk 49 (encL encValue) (okL okValue) := Rd_slice Tryz.underlying49 (by kernel_rfl) (by rw [show Tryz.prog.cellsOf 83 = 3 by kernel_rfl]; omega) bk_law rd83
theorem rd51 : Rd Tryz.prog bk 51 encRow okRow := by
  refine Rd_struct Tryz.underlying51 (by kernel_rfl) bk_law (RdFs.cons rd2 (RdFs.cons rd49 RdFs.nil)) (fun x => ⟨x.1, x.2.1⟩) (fun x => by rw [show Tryz.prog.cellsOf 51 = 2 by kernel_rfl]; rfl) ?_ (fun _ => rfl) (fun _ => rfl) ?_
  · intro x y hy
    simp only [encRow_cells, List.mem_cons, List.not_mem_nil, or_false] at hy
    rcases hy with rfl | rfl <;> exact ⟨rfl, rfl⟩
  · rintro ⟨x0, x1, ⟨⟩⟩ h
    simp only [okRow] at h ⊢
    simp_all
theorem rd29 : Rd Tryz.prog bk 29 (encL encRow) (okL okRow) := Rd_slice Tryz.underlying29 (by kernel_rfl) (by rw [show Tryz.prog.cellsOf 51 = 2 by kernel_rfl]; omega) bk_law rd51
theorem rd31 : Rd Tryz.prog bk 31 encTable okTable := by
  refine Rd_struct Tryz.underlying31 (by kernel_rfl) bk_law (RdFs.cons rd9 (RdFs.cons rd28 (RdFs.cons rd29 RdFs.nil))) (fun x => ⟨x.1, x.2.1, x.2.2.1⟩) (fun x => by rw [show Tryz.prog.cellsOf 31 = 3 by kernel_rfl]; rfl) ?_ (fun _ => rfl) (fun _ => rfl) ?_
  · intro x y hy
    simp only [encTable_cells, List.mem_cons, List.not_mem_nil, or_false] at hy
    rcases hy with rfl | rfl | rfl <;> exact ⟨rfl, rfl⟩
  · rintro ⟨x0, x1, x2, ⟨⟩⟩ h
    simp only [okTable] at h ⊢
    simp_all
theorem rd35 : Rd Tryz.prog bk 35 (encL (PV.int .i64)) (okL (okI .i64)) := Rd_slice Tryz.underlying35 (by kernel_rfl) (by rw [show Tryz.prog.cellsOf 3 = 1 by kernel_rfl]; omega) bk_law rd3
theorem rd37 : Rd Tryz.prog bk 37 encOD okOD := by
  refine Rd_struct Tryz.underlying37 (by kernel_rfl) bk_law (RdFs.cons rd35 (RdFs.cons rd35 RdFs.nil)) (fun x => ⟨x.1, x.2.1⟩) (fun x => by rw [show Tryz.prog.cellsOf 37 = 2 by kernel_rfl]; rfl) ?_ (fun _ => rfl) (fun _ => rfl) ?_
  · intro x y hy
    simp only [encOD_cells, List.mem_cons, List.not_mem_nil, or_false] at hy
    rcases hy with rfl | rfl <;> exact ⟨rfl, rfl⟩
  · rintro ⟨x0, x1, ⟨⟩⟩ h
    simp only [okOD] at h ⊢
    simp_all
theorem rd54 : Rd Tryz.prog bk 54 (PV.int .u32) (okI .u32) := Rd_int Tryz.underlying54 (by kernel_rfl)
theorem rd56 : Rd Tryz.prog bk 56 encCanonical okCanonical := by
  refine Rd_struct Tryz.underlying56 (by kernel_rfl) bk_law (RdFs.cons rd54 (RdFs.cons rd3 (RdFs.cons rd3 RdFs.nil))) (fun x => ⟨x.1, x.2.1, x.2.2.1⟩) (fun x => by rw [show Tryz.prog.cellsOf 56 = 3 by kernel_rfl]; rfl) ?_ (fun _ => rfl) (fun _ => rfl) ?_
  · intro x y hy
    simp only [encCanonical_cells, List.mem_cons, List.not_mem_nil, or_false] at hy
    rcases hy with rfl | rfl | rfl <;> exact ⟨rfl, rfl⟩
  · rintro ⟨x0, x1, x2, ⟨⟩⟩ h
    simp only [okCanonical] at h ⊢
    simp_all
end Go.Proofs.YtimfcgdnogjlhaaGreat
namespace Go.Proofs.YtimfcgdnogjlhaaGreat.OrderingSorted
open Go Go.Ab Go.ChangeShapes
set_option linter.unusedVariables false
theorem own : ownKnob Tryz.prog.godebug = none := by kernel_rfl
set_option maxRecDepth 100000 in
theorem contract (H : Type) (enc : TypeId × Go.Value → H) (W : World) (base : Nat) (args : Array Go.Value) (ds gs : List (DataW H)) (before : List MemPlace)
    (hval : ∀ (j : Nat) t v, Tryz.f3.params[j]? = some t → args[j]? = some v → Go.Value.okWide Tryz.prog W .any base t v)
    (hW : DataW.Whole enc Tryz.prog Tryz.f3.params.toList YtimfcgdnogjlhaaGreat.Rows.orderingSortedSpec.vars false W args.toList ds gs before) (hk : YtimfcgdnogjlhaaGreat.Rows.uptoSmall H (ds ++ gs) = true) :
    Calls Tryz.prog 3 args W fun e W' => ∃ v, e = .returned v ∧ YtimfcgdnogjlhaaGreat.Rows.orderingSortedSpec.post enc Tryz.prog Tryz.f3 false true false false W args v W' := by
  have hW0 := hW
  obtain ⟨p, q, hA, hV, rfl, hfz, hnd⟩ := hW0
  rw [Tryz.params3] at hA hval
  obtain ⟨v0, vs0, d0, ds0, p0, q0, hargs0, rfl, rfl, h0, r0⟩ := trodAll_cons hA
  obtain ⟨v1, vs1, d1, ds1, p1, q1, hargs1, rfl, rfl, h1, r1⟩ := trodAll_cons r0
  obtain ⟨rfl, rfl, rfl⟩ := trodAll_nil r1
  obtain rfl : args = #[v0, v1] := by cases args; simp_all
  obtain ⟨rfl, rfl⟩ := trodVars_none hV
  obtain ⟨x0, hx0, ok0⟩ := rd24.val (hval 0 24 v0 rfl rfl) h0 (bk_small hk (by simp))
  obtain ⟨x1, hx1, ok1⟩ := rd27.val (hval 1 27 v1 rfl rfl) h1 (bk_small hk (by simp))
  exact law_post (D := False) hW rfl rfl rfl Tryz.underlying4 (by kernel_rfl) (by kernel_rfl) (by kernel_rfl) (by rw [Tryz.params3]; decide +kernel) (drosslaw17_OrderingSorted_con x0 x1 _ (OrderingSorted_holds x0 x1 ok0 ok1)) ⟨_, _, rfl, hx0, ⟨_, _, rfl, hx1, rfl⟩⟩
set_option maxRecDepth 100000 in
theorem lifted (os : Os) (started : os.Started) (H : Type) (enc : TypeId × Go.Value → H) (F : Stop.Interp) :
    ReturnsInHanded {} Tryz.checked os 3 .any ((YtimfcgdnogjlhaaGreat.Rows.OpenSpec.upto YtimfcgdnogjlhaaGreat.Rows.orderingSortedSpec).pre6 enc Tryz.prog Tryz.f3 YtimfcgdnogjlhaaGreat.Rows.orderingSortedUptoRow.domain false) (((YtimfcgdnogjlhaaGreat.Rows.OpenSpec.upto YtimfcgdnogjlhaaGreat.Rows.orderingSortedSpec).at F).post enc Tryz.prog Tryz.f3 false true false false) := by
  refine returnsInHanded_of_cond (C := Tryz.checked) (s := YtimfcgdnogjlhaaGreat.Rows.OpenSpec.upto YtimfcgdnogjlhaaGreat.Rows.orderingSortedSpec) (k := YtimfcgdnogjlhaaGreat.Rows.uptoSmall) rfl own started (by kernel_rfl) Tryz.func3
    (OpenSpec.witness (enc := enc) (C := Tryz.checked) (s := YtimfcgdnogjlhaaGreat.Rows.OpenSpec.upto YtimfcgdnogjlhaaGreat.Rows.orderingSortedSpec) (k := YtimfcgdnogjlhaaGreat.Rows.uptoSmall) rfl false ⟨#[], #[.agg #[.int .u8 0, .int .u8 0, .slice none 0 0], .agg #[.slice none 0 0, .slice none 0 0]], []⟩ 8 (by kernel_rfl) (by kernel_rfl) (by kernel_rfl)
      (x := ([.agg [.lit (.int .u8 0), .lit (.int .u8 0), .nil], .agg [.nil, .nil]], [], [])) (by kernel_rfl) rfl (by kernel_rfl)) ?_
  intro W base args ds gs before hval hW _ hk _
  exact contract H enc W base args ds gs before hval hW hk
theorem proved : YtimfcgdnogjlhaaGreat.Rows.OrderingSortedUptoSaid :=
  OpenClaim.holds_of_cond 3 Tryz.f3 rfl rfl rfl rfl rfl rfl rfl ⟨rfl, rfl, rfl, rfl, rfl⟩ rfl rfl rfl rfl rfl (by kernel_rfl) Tryz.func3 (by kernel_rfl)
    (of_decide_eq_true (by kernel_rfl)) (by unfold Func.isWrapper; first | (rw [if_pos (by decide +kernel)]; kernel_rfl) | (rw [if_neg (by decide +kernel)]; exact ⟨rfl, rfl⟩))
    (fun os started H enc _ F => lifted os started H enc F)
end Go.Proofs.YtimfcgdnogjlhaaGreat.OrderingSorted
