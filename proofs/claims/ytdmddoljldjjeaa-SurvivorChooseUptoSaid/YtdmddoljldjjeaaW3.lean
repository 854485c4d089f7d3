/- Each function of the program computes what its Lean function says, where that has a value. -/
import Derived.Test.YtdmddoljldjjeaaW1
import Derived.Test.YtdmddoljldjjeaaW2
set_option linter.unusedVariables false
set_option linter.unusedSimpArgs false
namespace Go.Proofs.Ytdmddoljldjjeaa
open Go Go.Ab
set_option maxHeartbeats 4000000 in
theorem drossref55_times_con (rows_777 : List Row) (attr_778 : Int) (v_779 : Value) (r_810 : Int) (h : drossref55_times rows_777 attr_778 v_779 = some r_810) : Con Try.prog 79 [(.slc (List.map encRow rows_777)), (.int .i64 attr_778), (encValue v_779)] (.int .i64 r_810) := by
  refine ⟨Try.call79, ?_⟩
  refine pure_of_awp Try.func79 rfl Try.ntmps79 (by simp) fun X w => ?_
  show AWp _ _ _ ⟨[(0, .p (.slc (List.map encRow rows_777))), (1, .p (.int .i64 attr_778)), (2, .p (encValue v_779))], []⟩
  simp only [drossref55_times] at h
  refine awp_seq ?_
  refine awp_region ?_
  refine AL_upto (by exact rfl) (by simp only [go_sem, reduceIte, Nat.reduceAdd, Nat.reduceSub, Nat.reduceMul, Nat.reduceEqDiff, Nat.reduceLT, Nat.reduceLeDiff, Nat.reduceBEq, Int.reduceToNat, Int.reduceLT, Int.reduceLE, Int.reduceGT, Int.reduceGE, Int.reduceEq, Int.reduceBEq, Int.reduceBNe, Int.reduceNeg, reduceCtorEq]; exact rfl) ?_
  refine AL_nil ?_
  refine thenA_n ?_
  refine awp_seq ?_
  refine awp_region ?_
  refine AL_upto (by exact rfl) (by simp only [go_sem, reduceIte, Nat.reduceAdd, Nat.reduceSub, Nat.reduceMul, Nat.reduceEqDiff, Nat.reduceLT, Nat.reduceLeDiff, Nat.reduceBEq, Int.reduceToNat, Int.reduceLT, Int.reduceLE, Int.reduceGT, Int.reduceGE, Int.reduceEq, Int.reduceBEq, Int.reduceBNe, Int.reduceNeg, reduceCtorEq]; exact rfl) ?_
  refine AL_nil ?_
  refine thenA_n ?_
  refine awp_seq ?_
  refine awp_seq ?_
  refine awp_region ?_
  refine AL_upto (by exact rfl) (by simp only [go_sem, reduceIte, Nat.reduceAdd, Nat.reduceSub, Nat.reduceMul, Nat.reduceEqDiff, Nat.reduceLT, Nat.reduceLeDiff, Nat.reduceBEq, Int.reduceToNat, Int.reduceLT, Int.reduceLE, Int.reduceGT, Int.reduceGE, Int.reduceEq, Int.reduceBEq, Int.reduceBNe, Int.reduceNeg, reduceCtorEq]; exact rfl) ?_
  refine AL_nil ?_
  refine thenA_n ?_
  refine awp_block ?_
  obtain ⟨o_807, hL_808, h⟩ := Option.bind_eq_some_iff.1 h
  refine awp_loop_L (fun (s : Int × Int) => ⟨[(0, .p (.slc (List.map encRow rows_777))), (1, .p (.int .i64 attr_778)), (5, .loc 5 1 0 0), (7, .p (.int .i64 s.1)), (8, .p (.int .i64 s.2))], [(5, .arr 25 3 1 [.p (encValue v_779)])]⟩) (fun (o_809 : Int) (e : Exit) (s' : St) => e = (.exit 0) ∧ Le ⟨Try.prog, Try.f79.ntmps, 0, X, [], fun _ => none, w⟩ s' ⟨[(7, .p (.int .i64 o_809))], []⟩) (by intro o s hT; have hh := hT.1; cases hh) hL_808 (by simp only [go_sem, reduceIte, Nat.reduceAdd, Nat.reduceSub, Nat.reduceMul, Nat.reduceEqDiff, Nat.reduceLT, Nat.reduceLeDiff, Nat.reduceBEq, Int.reduceToNat, Int.reduceLT, Int.reduceLE, Int.reduceGT, Int.reduceGE, Int.reduceEq, Int.reduceBEq, Int.reduceBNe, Int.reduceNeg, reduceCtorEq]; all_goals ((repeat' refine And.intro ?_ ?_) <;> first | rfl | (simp; done) | (simp; rfl) | (simp [*]; done) | (simp [*]; rfl))) ?_ ?_
  · clear h
    intro s x h
    obtain ⟨n_788, i_789⟩ := s
    simp only [drossref55_times_l1] at h
    show AWp _ _ _ ⟨[(0, .p (.slc (List.map encRow rows_777))), (1, .p (.int .i64 attr_778)), (5, .loc 5 1 0 0), (7, .p (.int .i64 n_788)), (8, .p (.int .i64 i_789))], [(5, .arr 25 3 1 [.p (encValue v_779)])]⟩
    refine awp_seq ?_
    refine awp_seq ?_
    refine awp_region ?_
    refine AL_upto (by exact rfl) (by simp only [go_sem, reduceIte, Nat.reduceAdd, Nat.reduceSub, Nat.reduceMul, Nat.reduceEqDiff, Nat.reduceLT, Nat.reduceLeDiff, Nat.reduceBEq, Int.reduceToNat, Int.reduceLT, Int.reduceLE, Int.reduceGT, Int.reduceGE, Int.reduceEq, Int.reduceBEq, Int.reduceBNe, Int.reduceNeg, reduceCtorEq]; exact rfl) ?_
    refine AL_nil ?_
    refine thenA_n ?_
    by_cases hb_799 : i_789 < (rows_777.length : Int)
    · rw [if_pos hb_799] at h
      have hb_799T := eq_true hb_799
      refine awp_ct (by simp only [go_sem, reduceIte, Nat.reduceAdd, Nat.reduceSub, Nat.reduceMul, Nat.reduceEqDiff, Nat.reduceLT, Nat.reduceLeDiff, Nat.reduceBEq, Int.reduceToNat, Int.reduceLT, Int.reduceLE, Int.reduceGT, Int.reduceGE, Int.reduceEq, Int.reduceBEq, Int.reduceBNe, Int.reduceNeg, reduceCtorEq, hb_799T]) ?_
      refine awp_skip ?_
      refine thenA_n ?_
      refine awp_seq ?_
      refine awp_block ?_
      refine awp_seq ?_
      refine awp_drawn_walk mixed (by decide) ?_
      obtain ⟨x_800, hx_801, h⟩ := Option.bind_eq_some_iff.1 h
      obtain ⟨hx_801a, hx_801, hx_801b⟩ := idx_some hx_801
      have hx_801A := eq_true hx_801a
      have hx_801B := eq_true hx_801b
      obtain ⟨x_802, hx_803, h⟩ := Option.bind_eq_some_iff.1 h
      obtain ⟨hx_803a, hx_803, hx_803b⟩ := idx_some hx_803
      have hx_803A := eq_true hx_803a
      have hx_803B := eq_true hx_803b
      refine DGo.upto (by exact rfl) (by simp only [go_sem, reduceIte, Nat.reduceAdd, Nat.reduceSub, Nat.reduceMul, Nat.reduceEqDiff, Nat.reduceLT, Nat.reduceLeDiff, Nat.reduceBEq, Int.reduceToNat, Int.reduceLT, Int.reduceLE, Int.reduceGT, Int.reduceGE, Int.reduceEq, Int.reduceBEq, Int.reduceBNe, Int.reduceNeg, reduceCtorEq, hb_799T, hx_801, hx_801A, hx_801B, hx_803, hx_803A, hx_803B]; exact ⟨rfl, rfl⟩) ?_
      obtain ⟨r_804, hr_805, h⟩ := Option.bind_eq_some_iff.1 h
      refine DGo.con' rfl (guard_none rfl) rfl (by simp only [go_sem, reduceIte, Nat.reduceAdd, Nat.reduceSub, Nat.reduceMul, Nat.reduceEqDiff, Nat.reduceLT, Nat.reduceLeDiff, Nat.reduceBEq, Int.reduceToNat, Int.reduceLT, Int.reduceLE, Int.reduceGT, Int.reduceGE, Int.reduceEq, Int.reduceBEq, Int.reduceBNe, Int.reduceNeg, reduceCtorEq, hb_799T]; exact rfl) (by simp only [go_sem, reduceIte, Nat.reduceAdd, Nat.reduceSub, Nat.reduceMul, Nat.reduceEqDiff, Nat.reduceLT, Nat.reduceLeDiff, Nat.reduceBEq, Int.reduceToNat, Int.reduceLT, Int.reduceLE, Int.reduceGT, Int.reduceGE, Int.reduceEq, Int.reduceBEq, Int.reduceBNe, Int.reduceNeg, reduceCtorEq, hb_799T]; all_goals ((repeat' refine And.intro ?_ ?_) <;> first | rfl | (simp; done) | (simp; rfl) | (simp [*]; done) | (simp [*]; rfl))) (by simp only [go_sem, reduceIte, Nat.reduceAdd, Nat.reduceSub, Nat.reduceMul, Nat.reduceEqDiff, Nat.reduceLT, Nat.reduceLeDiff, Nat.reduceBEq, Int.reduceToNat, Int.reduceLT, Int.reduceLE, Int.reduceGT, Int.reduceGE, Int.reduceEq, Int.reduceBEq, Int.reduceBNe, Int.reduceNeg, reduceCtorEq, hb_799T]; exact rfl) (drossref01_Compare_con x_802 v_779 _ hr_805) (.inr rfl) rfl ?_
      refine DGo.upto (by exact rfl) (by simp only [go_sem, reduceIte, Nat.reduceAdd, Nat.reduceSub, Nat.reduceMul, Nat.reduceEqDiff, Nat.reduceLT, Nat.reduceLeDiff, Nat.reduceBEq, Int.reduceToNat, Int.reduceLT, Int.reduceLE, Int.reduceGT, Int.reduceGE, Int.reduceEq, Int.reduceBEq, Int.reduceBNe, Int.reduceNeg, reduceCtorEq, hb_799T]; exact ⟨rfl, rfl⟩) ?_
      refine DGo.fin rfl ?_
      refine thenA_n ?_
      by_cases hb_806 : (r_804 == 0) = true
      · rw [if_pos hb_806] at h
        refine awp_ct (by simp only [go_sem, reduceIte, Nat.reduceAdd, Nat.reduceSub, Nat.reduceMul, Nat.reduceEqDiff, Nat.reduceLT, Nat.reduceLeDiff, Nat.reduceBEq, Int.reduceToNat, Int.reduceLT, Int.reduceLE, Int.reduceGT, Int.reduceGE, Int.reduceEq, Int.reduceBEq, Int.reduceBNe, Int.reduceNeg, reduceCtorEq, hb_799T, hb_806]) ?_
        refine awp_region ?_
        refine AL_upto (by exact rfl) (by simp only [go_sem, reduceIte, Nat.reduceAdd, Nat.reduceSub, Nat.reduceMul, Nat.reduceEqDiff, Nat.reduceLT, Nat.reduceLeDiff, Nat.reduceBEq, Int.reduceToNat, Int.reduceLT, Int.reduceLE, Int.reduceGT, Int.reduceGE, Int.reduceEq, Int.reduceBEq, Int.reduceBNe, Int.reduceNeg, reduceCtorEq, hb_799T, hb_806]; exact rfl) ?_
        refine AL_nil ?_
        refine blockA_n ?_
        refine thenA_n ?_
        refine awp_region ?_
        refine AL_upto (by exact rfl) (by simp only [go_sem, reduceIte, Nat.reduceAdd, Nat.reduceSub, Nat.reduceMul, Nat.reduceEqDiff, Nat.reduceLT, Nat.reduceLeDiff, Nat.reduceBEq, Int.reduceToNat, Int.reduceLT, Int.reduceLE, Int.reduceGT, Int.reduceGE, Int.reduceEq, Int.reduceBEq, Int.reduceBNe, Int.reduceNeg, reduceCtorEq, hb_799T, hb_806]; exact rfl) ?_
        refine AL_nil ?_
        cases h
        refine ⟨rfl, ?_⟩
        simp only [go_sem, reduceIte, Nat.reduceAdd, Nat.reduceSub, Nat.reduceMul, Nat.reduceEqDiff, Nat.reduceLT, Nat.reduceLeDiff, Nat.reduceBEq, Int.reduceToNat, Int.reduceLT, Int.reduceLE, Int.reduceGT, Int.reduceGE, Int.reduceEq, Int.reduceBEq, Int.reduceBNe, Int.reduceNeg, reduceCtorEq, hb_799T, hb_806]
        all_goals ((repeat' refine And.intro ?_ ?_) <;> first | rfl | (simp; done) | (simp; rfl) | (simp [*]; done) | (simp [*]; rfl))
      · rw [if_neg hb_806] at h
        have hb_806F := Bool.eq_false_iff.2 hb_806
        refine awp_cf (by simp only [go_sem, reduceIte, Nat.reduceAdd, Nat.reduceSub, Nat.reduceMul, Nat.reduceEqDiff, Nat.reduceLT, Nat.reduceLeDiff, Nat.reduceBEq, Int.reduceToNat, Int.reduceLT, Int.reduceLE, Int.reduceGT, Int.reduceGE, Int.reduceEq, Int.reduceBEq, Int.reduceBNe, Int.reduceNeg, reduceCtorEq, hb_799T, hb_806F]) ?_
        refine awp_skip ?_
        refine blockA_n ?_
        refine thenA_n ?_
        refine awp_region ?_
        refine AL_upto (by exact rfl) (by simp only [go_sem, reduceIte, Nat.reduceAdd, Nat.reduceSub, Nat.reduceMul, Nat.reduceEqDiff, Nat.reduceLT, Nat.reduceLeDiff, Nat.reduceBEq, Int.reduceToNat, Int.reduceLT, Int.reduceLE, Int.reduceGT, Int.reduceGE, Int.reduceEq, Int.reduceBEq, Int.reduceBNe, Int.reduceNeg, reduceCtorEq, hb_799T, hb_806F]; exact rfl) ?_
        refine AL_nil ?_
        cases h
        refine ⟨rfl, ?_⟩
        simp only [go_sem, reduceIte, Nat.reduceAdd, Nat.reduceSub, Nat.reduceMul, Nat.reduceEqDiff, Nat.reduceLT, Nat.reduceLeDiff, Nat.reduceBEq, Int.reduceToNat, Int.reduceLT, Int.reduceLE, Int.reduceGT, Int.reduceGE, Int.reduceEq, Int.reduceBEq, Int.reduceBNe, Int.reduceNeg, reduceCtorEq, hb_799T, hb_806F]
        all_goals ((repeat' refine And.intro ?_ ?_) <;> first | rfl | (simp; done) | (simp; rfl) | (simp [*]; done) | (simp [*]; rfl))
    · rw [if_neg hb_799] at h
      have hb_799T := eq_false hb_799
      refine awp_cf (by simp only [go_sem, reduceIte, Nat.reduceAdd, Nat.reduceSub, Nat.reduceMul, Nat.reduceEqDiff, Nat.reduceLT, Nat.reduceLeDiff, Nat.reduceBEq, Int.reduceToNat, Int.reduceLT, Int.reduceLE, Int.reduceGT, Int.reduceGE, Int.reduceEq, Int.reduceBEq, Int.reduceBNe, Int.reduceNeg, reduceCtorEq, hb_799T]) ?_
      refine awp_exit ?_
      refine thenA_exit ?_
      cases h
      refine ⟨rfl, ?_⟩
      simp only [go_sem, reduceIte, Nat.reduceAdd, Nat.reduceSub, Nat.reduceMul, Nat.reduceEqDiff, Nat.reduceLT, Nat.reduceLeDiff, Nat.reduceBEq, Int.reduceToNat, Int.reduceLT, Int.reduceLE, Int.reduceGT, Int.reduceGE, Int.reduceEq, Int.reduceBEq, Int.reduceBNe, Int.reduceNeg, reduceCtorEq, hb_799T]
      all_goals ((repeat' refine And.intro ?_ ?_) <;> first | rfl | (simp; done) | (simp; rfl) | (simp [*]; done) | (simp [*]; rfl))
  · intro e s' hT
    obtain ⟨n_798, rfl⟩ : ∃ z, z = o_807 := ⟨_, rfl⟩
    try simp only at h
    try simp only at hT
    obtain ⟨rfl, hle⟩ := hT
    refine Wk.to hle ?_
    clear hle
    refine blockA_here ?_
    refine thenA_n ?_
    refine awp_seq ?_
    refine awp_region ?_
    refine AL_upto (by exact rfl) (by simp only [go_sem, reduceIte, Nat.reduceAdd, Nat.reduceSub, Nat.reduceMul, Nat.reduceEqDiff, Nat.reduceLT, Nat.reduceLeDiff, Nat.reduceBEq, Int.reduceToNat, Int.reduceLT, Int.reduceLE, Int.reduceGT, Int.reduceGE, Int.reduceEq, Int.reduceBEq, Int.reduceBNe, Int.reduceNeg, reduceCtorEq]; exact rfl) ?_
    refine AL_nil ?_
    refine thenA_n ?_
    refine awp_ret ?_
    cases h
    refine retQ_ret (by simp only [Try.results79]; simp only [go_sem, reduceIte, Nat.reduceAdd, Nat.reduceSub, Nat.reduceMul, Nat.reduceEqDiff, Nat.reduceLT, Nat.reduceLeDiff, Nat.reduceBEq, Int.reduceToNat, Int.reduceLT, Int.reduceLE, Int.reduceGT, Int.reduceGE, Int.reduceEq, Int.reduceBEq, Int.reduceBNe, Int.reduceNeg, reduceCtorEq]; exact rfl) ?_
    simp only [go_sem, reduceIte, Nat.reduceAdd, Nat.reduceSub, Nat.reduceMul, Nat.reduceEqDiff, Nat.reduceLT, Nat.reduceLeDiff, Nat.reduceBEq, Int.reduceToNat, Int.reduceLT, Int.reduceLE, Int.reduceGT, Int.reduceGE, Int.reduceEq, Int.reduceBEq, Int.reduceBNe, Int.reduceNeg, reduceCtorEq]
    all_goals ((repeat' refine And.intro ?_ ?_) <;> first | rfl | (simp; done) | (simp; rfl) | (simp [*]; done) | (simp [*]; rfl))
end Go.Proofs.Ytdmddoljldjjeaa
set_option linter.unusedVariables false
set_option linter.unusedSimpArgs false
namespace Go.Proofs.Ytdmddoljldjjeaa
open Go Go.Ab
set_option maxHeartbeats 4000000 in
theorem drossref55_better_con (rows_811 : List Row) (attr_812 : Int) (rule_813 : Int) (v_814 : Value) (old_815 : Value) (r_832 : Bool) (h : drossref55_better rows_811 attr_812 rule_813 v_814 old_815 = some r_832) : Con Try.prog 55 [(.slc (List.map encRow rows_811)), (.int .i64 attr_812), (.int .i64 rule_813), (encValue v_814), (encValue old_815)] (.bool r_832) := by
  refine ⟨Try.call55, ?_⟩
  refine pure_of_awp Try.func55 rfl Try.ntmps55 (by simp) fun X w => ?_
  show AWp _ _ _ ⟨[(0, .p (.slc (List.map encRow rows_811))), (1, .p (.int .i64 attr_812)), (2, .p (.int .i64 rule_813)), (3, .p (encValue v_814)), (4, .p (encValue old_815))], []⟩
  simp only [drossref55_better] at h
  refine awp_seq ?_
  refine awp_region ?_
  refine AL_upto (by exact rfl) (by simp only [go_sem, reduceIte, Nat.reduceAdd, Nat.reduceSub, Nat.reduceMul, Nat.reduceEqDiff, Nat.reduceLT, Nat.reduceLeDiff, Nat.reduceBEq, Int.reduceToNat, Int.reduceLT, Int.reduceLE, Int.reduceGT, Int.reduceGE, Int.reduceEq, Int.reduceBEq, Int.reduceBNe, Int.reduceNeg, reduceCtorEq]; exact rfl) ?_
  refine AL_nil ?_
  refine thenA_n ?_
  refine awp_seq ?_
  refine awp_seq ?_
  refine awp_region ?_
  refine AL_upto (by exact rfl) (by simp only [go_sem, reduceIte, Nat.reduceAdd, Nat.reduceSub, Nat.reduceMul, Nat.reduceEqDiff, Nat.reduceLT, Nat.reduceLeDiff, Nat.reduceBEq, Int.reduceToNat, Int.reduceLT, Int.reduceLE, Int.reduceGT, Int.reduceGE, Int.reduceEq, Int.reduceBEq, Int.reduceBNe, Int.reduceNeg, reduceCtorEq]; exact rfl) ?_
  refine AL_nil ?_
  refine thenA_n ?_
  by_cases hb_816 : (rule_813 == 2) = true
  · rw [if_pos hb_816] at h
    refine awp_ct (by simp only [go_sem, reduceIte, Nat.reduceAdd, Nat.reduceSub, Nat.reduceMul, Nat.reduceEqDiff, Nat.reduceLT, Nat.reduceLeDiff, Nat.reduceBEq, Int.reduceToNat, Int.reduceLT, Int.reduceLE, Int.reduceGT, Int.reduceGE, Int.reduceEq, Int.reduceBEq, Int.reduceBNe, Int.reduceNeg, reduceCtorEq, hb_816]) ?_
    refine awp_seq ?_
    refine awp_drawn_walk mixed (by decide) ?_
    refine DGo.upto (by exact rfl) (by simp only [go_sem, reduceIte, Nat.reduceAdd, Nat.reduceSub, Nat.reduceMul, Nat.reduceEqDiff, Nat.reduceLT, Nat.reduceLeDiff, Nat.reduceBEq, Int.reduceToNat, Int.reduceLT, Int.reduceLE, Int.reduceGT, Int.reduceGE, Int.reduceEq, Int.reduceBEq, Int.reduceBNe, Int.reduceNeg, reduceCtorEq, hb_816]; exact ⟨rfl, rfl⟩) ?_
    obtain ⟨r_817, hr_818, h⟩ := Option.bind_eq_some_iff.1 h
    refine DGo.con' rfl (guard_none rfl) rfl (by simp only [go_sem, reduceIte, Nat.reduceAdd, Nat.reduceSub, Nat.reduceMul, Nat.reduceEqDiff, Nat.reduceLT, Nat.reduceLeDiff, Nat.reduceBEq, Int.reduceToNat, Int.reduceLT, Int.reduceLE, Int.reduceGT, Int.reduceGE, Int.reduceEq, Int.reduceBEq, Int.reduceBNe, Int.reduceNeg, reduceCtorEq, hb_816]; exact rfl) (by simp only [go_sem, reduceIte, Nat.reduceAdd, Nat.reduceSub, Nat.reduceMul, Nat.reduceEqDiff, Nat.reduceLT, Nat.reduceLeDiff, Nat.reduceBEq, Int.reduceToNat, Int.reduceLT, Int.reduceLE, Int.reduceGT, Int.reduceGE, Int.reduceEq, Int.reduceBEq, Int.reduceBNe, Int.reduceNeg, reduceCtorEq, hb_816]; all_goals ((repeat' refine And.intro ?_ ?_) <;> first | rfl | (simp; done) | (simp; rfl) | (simp [*]; done) | (simp [*]; rfl))) (by simp only [go_sem, reduceIte, Nat.reduceAdd, Nat.reduceSub, Nat.reduceMul, Nat.reduceEqDiff, Nat.reduceLT, Nat.reduceLeDiff, Nat.reduceBEq, Int.reduceToNat, Int.reduceLT, Int.reduceLE, Int.reduceGT, Int.reduceGE, Int.reduceEq, Int.reduceBEq, Int.reduceBNe, Int.reduceNeg, reduceCtorEq, hb_816]; exact rfl) (drossref55_times_con rows_811 attr_812 v_814 _ hr_818) (.inr rfl) rfl ?_
    refine DGo.upto (by exact rfl) (by simp only [go_sem, reduceIte, Nat.reduceAdd, Nat.reduceSub, Nat.reduceMul, Nat.reduceEqDiff, Nat.reduceLT, Nat.reduceLeDiff, Nat.reduceBEq, Int.reduceToNat, Int.reduceLT, Int.reduceLE, Int.reduceGT, Int.reduceGE, Int.reduceEq, Int.reduceBEq, Int.reduceBNe, Int.reduceNeg, reduceCtorEq, hb_816]; exact ⟨rfl, rfl⟩) ?_
    obtain ⟨r_819, hr_820, h⟩ := Option.bind_eq_some_iff.1 h
    refine DGo.con' rfl (guard_none rfl) rfl (by simp only [go_sem, reduceIte, Nat.reduceAdd, Nat.reduceSub, Nat.reduceMul, Nat.reduceEqDiff, Nat.reduceLT, Nat.reduceLeDiff, Nat.reduceBEq, Int.reduceToNat, Int.reduceLT, Int.reduceLE, Int.reduceGT, Int.reduceGE, Int.reduceEq, Int.reduceBEq, Int.reduceBNe, Int.reduceNeg, reduceCtorEq, hb_816]; exact rfl) (by simp only [go_sem, reduceIte, Nat.reduceAdd, Nat.reduceSub, Nat.reduceMul, Nat.reduceEqDiff, Nat.reduceLT, Nat.reduceLeDiff, Nat.reduceBEq, Int.reduceToNat, Int.reduceLT, Int.reduceLE, Int.reduceGT, Int.reduceGE, Int.reduceEq, Int.reduceBEq, Int.reduceBNe, Int.reduceNeg, reduceCtorEq, hb_816]; all_goals ((repeat' refine And.intro ?_ ?_) <;> first | rfl | (simp; done) | (simp; rfl) | (simp [*]; done) | (simp [*]; rfl))) (by simp only [go_sem, reduceIte, Nat.reduceAdd, Nat.reduceSub, Nat.reduceMul, Nat.reduceEqDiff, Nat.reduceLT, Nat.reduceLeDiff, Nat.reduceBEq, Int.reduceToNat, Int.reduceLT, Int.reduceLE, Int.reduceGT, Int.reduceGE, Int.reduceEq, Int.reduceBEq, Int.reduceBNe, Int.reduceNeg, reduceCtorEq, hb_816]; exact rfl) (drossref55_times_con rows_811 attr_812 old_815 _ hr_820) (.inr rfl) rfl ?_
    refine DGo.upto (by exact rfl) (by simp only [go_sem, reduceIte, Nat.reduceAdd, Nat.reduceSub, Nat.reduceMul, Nat.reduceEqDiff, Nat.reduceLT, Nat.reduceLeDiff, Nat.reduceBEq, Int.reduceToNat, Int.reduceLT, Int.reduceLE, Int.reduceGT, Int.reduceGE, Int.reduceEq, Int.reduceBEq, Int.reduceBNe, Int.reduceNeg, reduceCtorEq, hb_816]; exact ⟨rfl, rfl⟩) ?_
    refine DGo.fin rfl ?_
    refine thenA_n ?_
    refine awp_ret ?_
    refine thenA_ret ?_
    cases h
    refine retQ_ret (by simp only [Try.results55]; simp only [go_sem, reduceIte, Nat.reduceAdd, Nat.reduceSub, Nat.reduceMul, Nat.reduceEqDiff, Nat.reduceLT, Nat.reduceLeDiff, Nat.reduceBEq, Int.reduceToNat, Int.reduceLT, Int.reduceLE, Int.reduceGT, Int.reduceGE, Int.reduceEq, Int.reduceBEq, Int.reduceBNe, Int.reduceNeg, reduceCtorEq, hb_816]; exact rfl) ?_
    simp only [go_sem, reduceIte, Nat.reduceAdd, Nat.reduceSub, Nat.reduceMul, Nat.reduceEqDiff, Nat.reduceLT, Nat.reduceLeDiff, Nat.reduceBEq, Int.reduceToNat, Int.reduceLT, Int.reduceLE, Int.reduceGT, Int.reduceGE, Int.reduceEq, Int.reduceBEq, Int.reduceBNe, Int.reduceNeg, reduceCtorEq, hb_816]
    all_goals ((repeat' refine And.intro ?_ ?_) <;> first | rfl | (simp; done) | (simp; rfl) | (simp [*]; done) | (simp [*]; rfl))
  · rw [if_neg hb_816] at h
    have hb_816F := Bool.eq_false_iff.2 hb_816
    refine awp_cf (by simp only [go_sem, reduceIte, Nat.reduceAdd, Nat.reduceSub, Nat.reduceMul, Nat.reduceEqDiff, Nat.reduceLT, Nat.reduceLeDiff, Nat.reduceBEq, Int.reduceToNat, Int.reduceLT, Int.reduceLE, Int.reduceGT, Int.reduceGE, Int.reduceEq, Int.reduceBEq, Int.reduceBNe, Int.reduceNeg, reduceCtorEq, hb_816F]) ?_
    refine awp_skip ?_
    refine thenA_n ?_
    refine awp_seq ?_
    refine awp_seq ?_
    refine awp_region ?_
    refine AL_upto (by exact rfl) (by simp only [go_sem, reduceIte, Nat.reduceAdd, Nat.reduceSub, Nat.reduceMul, Nat.reduceEqDiff, Nat.reduceLT, Nat.reduceLeDiff, Nat.reduceBEq, Int.reduceToNat, Int.reduceLT, Int.reduceLE, Int.reduceGT, Int.reduceGE, Int.reduceEq, Int.reduceBEq, Int.reduceBNe, Int.reduceNeg, reduceCtorEq, hb_816F]; exact rfl) ?_
    refine AL_nil ?_
    refine thenA_n ?_
    by_cases hb_821 : (rule_813 == 3) = true
    · rw [if_pos hb_821] at h
      refine awp_ct (by simp only [go_sem, reduceIte, Nat.reduceAdd, Nat.reduceSub, Nat.reduceMul, Nat.reduceEqDiff, Nat.reduceLT, Nat.reduceLeDiff, Nat.reduceBEq, Int.reduceToNat, Int.reduceLT, Int.reduceLE, Int.reduceGT, Int.reduceGE, Int.reduceEq, Int.reduceBEq, Int.reduceBNe, Int.reduceNeg, reduceCtorEq, hb_816F, hb_821]) ?_
      refine awp_seq ?_
      refine awp_region ?_
      refine AL_upto (by exact rfl) (by simp only [go_sem, reduceIte, Nat.reduceAdd, Nat.reduceSub, Nat.reduceMul, Nat.reduceEqDiff, Nat.reduceLT, Nat.reduceLeDiff, Nat.reduceBEq, Int.reduceToNat, Int.reduceLT, Int.reduceLE, Int.reduceGT, Int.reduceGE, Int.reduceEq, Int.reduceBEq, Int.reduceBNe, Int.reduceNeg, reduceCtorEq, hb_816F, hb_821]; exact rfl) ?_
      by_cases hb_822 : (v_814.Kind == 2) = true
      · rw [if_pos hb_822] at h
        refine AL_known (d := 28) (v := .p (.bool true)) (by simp only [go_sem, reduceIte, Nat.reduceAdd, Nat.reduceSub, Nat.reduceMul, Nat.reduceEqDiff, Nat.reduceLT, Nat.reduceLeDiff, Nat.reduceBEq, Int.reduceToNat, Int.reduceLT, Int.reduceLE, Int.reduceGT, Int.reduceGE, Int.reduceEq, Int.reduceBEq, Int.reduceBNe, Int.reduceNeg, reduceCtorEq, hb_816F, hb_821, hb_822]) ?_
        refine AL_gt' (guard_true' rfl rfl (by exact rfl) (by exact rfl)) rfl (by simp only [go_sem, reduceIte, Nat.reduceAdd, Nat.reduceSub, Nat.reduceMul, Nat.reduceEqDiff, Nat.reduceLT, Nat.reduceLeDiff, Nat.reduceBEq, Int.reduceToNat, Int.reduceLT, Int.reduceLE, Int.reduceGT, Int.reduceGE, Int.reduceEq, Int.reduceBEq, Int.reduceBNe, Int.reduceNeg, reduceCtorEq, hb_816F, hb_821, hb_822]; exact rfl) ?_
        refine AL_gt' (guard_true' rfl rfl (by exact rfl) (by exact rfl)) rfl (by simp only [go_sem, reduceIte, Nat.reduceAdd, Nat.reduceSub, Nat.reduceMul, Nat.reduceEqDiff, Nat.reduceLT, Nat.reduceLeDiff, Nat.reduceBEq, Int.reduceToNat, Int.reduceLT, Int.reduceLE, Int.reduceGT, Int.reduceGE, Int.reduceEq, Int.reduceBEq, Int.reduceBNe, Int.reduceNeg, reduceCtorEq, hb_816F, hb_821, hb_822]; exact rfl) ?_
        refine AL_gt' (guard_true' rfl rfl (by exact rfl) (by exact rfl)) rfl (by simp only [go_sem, reduceIte, Nat.reduceAdd, Nat.reduceSub, Nat.reduceMul, Nat.reduceEqDiff, Nat.reduceLT, Nat.reduceLeDiff, Nat.reduceBEq, Int.reduceToNat, Int.reduceLT, Int.reduceLE, Int.reduceGT, Int.reduceGE, Int.reduceEq, Int.reduceBEq, Int.reduceBNe, Int.reduceNeg, reduceCtorEq, hb_816F, hb_821, hb_822]; exact rfl) ?_
        refine AL_gt' (guard_true' rfl rfl (by exact rfl) (by exact rfl)) rfl (by simp only [go_sem, reduceIte, Nat.reduceAdd, Nat.reduceSub, Nat.reduceMul, Nat.reduceEqDiff, Nat.reduceLT, Nat.reduceLeDiff, Nat.reduceBEq, Int.reduceToNat, Int.reduceLT, Int.reduceLE, Int.reduceGT, Int.reduceGE, Int.reduceEq, Int.reduceBEq, Int.reduceBNe, Int.reduceNeg, reduceCtorEq, hb_816F, hb_821, hb_822]; exact rfl) ?_
        by_cases hb_823 : (old_815.Kind != 2) = true
        · rw [if_pos hb_823] at h
          refine AL_known (d := 32) (v := .p (.bool true)) (by simp only [go_sem, reduceIte, Nat.reduceAdd, Nat.reduceSub, Nat.reduceMul, Nat.reduceEqDiff, Nat.reduceLT, Nat.reduceLeDiff, Nat.reduceBEq, Int.reduceToNat, Int.reduceLT, Int.reduceLE, Int.reduceGT, Int.reduceGE, Int.reduceEq, Int.reduceBEq, Int.reduceBNe, Int.reduceNeg, reduceCtorEq, hb_816F, hb_821, hb_822, hb_823]) ?_
          refine AL_skips (by exact rfl) ?_
          refine AL_gt' (guard_true' rfl rfl (by exact rfl) (by exact rfl)) rfl (by simp only [go_sem, reduceIte, Nat.reduceAdd, Nat.reduceSub, Nat.reduceMul, Nat.reduceEqDiff, Nat.reduceLT, Nat.reduceLeDiff, Nat.reduceBEq, Int.reduceToNat, Int.reduceLT, Int.reduceLE, Int.reduceGT, Int.reduceGE, Int.reduceEq, Int.reduceBEq, Int.reduceBNe, Int.reduceNeg, reduceCtorEq, hb_816F, hb_821, hb_822, hb_823]; exact rfl) ?_
          refine AL_upto (by exact rfl) (by simp only [go_sem, reduceIte, Nat.reduceAdd, Nat.reduceSub, Nat.reduceMul, Nat.reduceEqDiff, Nat.reduceLT, Nat.reduceLeDiff, Nat.reduceBEq, Int.reduceToNat, Int.reduceLT, Int.reduceLE, Int.reduceGT, Int.reduceGE, Int.reduceEq, Int.reduceBEq, Int.reduceBNe, Int.reduceNeg, reduceCtorEq, hb_816F, hb_821, hb_822, hb_823]; exact rfl) ?_
          refine AL_nil ?_
          refine thenA_n ?_
          refine awp_ret ?_
          refine thenA_ret ?_
          cases h
          refine retQ_ret (by simp only [Try.results55]; simp only [go_sem, reduceIte, Nat.reduceAdd, Nat.reduceSub, Nat.reduceMul, Nat.reduceEqDiff, Nat.reduceLT, Nat.reduceLeDiff, Nat.reduceBEq, Int.reduceToNat, Int.reduceLT, Int.reduceLE, Int.reduceGT, Int.reduceGE, Int.reduceEq, Int.reduceBEq, Int.reduceBNe, Int.reduceNeg, reduceCtorEq, hb_816F, hb_821, hb_822, hb_823]; exact rfl) ?_
          simp only [go_sem, reduceIte, Nat.reduceAdd, Nat.reduceSub, Nat.reduceMul, Nat.reduceEqDiff, Nat.reduceLT, Nat.reduceLeDiff, Nat.reduceBEq, Int.reduceToNat, Int.reduceLT, Int.reduceLE, Int.reduceGT, Int.reduceGE, Int.reduceEq, Int.reduceBEq, Int.reduceBNe, Int.reduceNeg, reduceCtorEq, hb_816F, hb_821, hb_822, hb_823]
          all_goals ((repeat' refine And.intro ?_ ?_) <;> first | rfl | (simp; done) | (simp; rfl) | (simp [*]; done) | (simp [*]; rfl))
        · rw [if_neg hb_823] at h
          have hb_823F := Bool.eq_false_iff.2 hb_823
          refine AL_known (d := 32) (v := .p (.bool false)) (by simp only [go_sem, reduceIte, Nat.reduceAdd, Nat.reduceSub, Nat.reduceMul, Nat.reduceEqDiff, Nat.reduceLT, Nat.reduceLeDiff, Nat.reduceBEq, Int.reduceToNat, Int.reduceLT, Int.reduceLE, Int.reduceGT, Int.reduceGE, Int.reduceEq, Int.reduceBEq, Int.reduceBNe, Int.reduceNeg, reduceCtorEq, hb_816F, hb_821, hb_822, hb_823F]) ?_
          refine AL_gt' (guard_true' rfl rfl (by exact rfl) (by exact rfl)) rfl (by simp only [go_sem, reduceIte, Nat.reduceAdd, Nat.reduceSub, Nat.reduceMul, Nat.reduceEqDiff, Nat.reduceLT, Nat.reduceLeDiff, Nat.reduceBEq, Int.reduceToNat, Int.reduceLT, Int.reduceLE, Int.reduceGT, Int.reduceGE, Int.reduceEq, Int.reduceBEq, Int.reduceBNe, Int.reduceNeg, reduceCtorEq, hb_816F, hb_821, hb_822, hb_823F]; exact rfl) ?_
          refine AL_gt' (guard_true' rfl rfl (by exact rfl) (by exact rfl)) rfl (by simp only [go_sem, reduceIte, Nat.reduceAdd, Nat.reduceSub, Nat.reduceMul, Nat.reduceEqDiff, Nat.reduceLT, Nat.reduceLeDiff, Nat.reduceBEq, Int.reduceToNat, Int.reduceLT, Int.reduceLE, Int.reduceGT, Int.reduceGE, Int.reduceEq, Int.reduceBEq, Int.reduceBNe, Int.reduceNeg, reduceCtorEq, hb_816F, hb_821, hb_822, hb_823F]; exact rfl) ?_
          refine AL_gt' (guard_true' rfl rfl (by exact rfl) (by exact rfl)) rfl (by simp only [go_sem, reduceIte, Nat.reduceAdd, Nat.reduceSub, Nat.reduceMul, Nat.reduceEqDiff, Nat.reduceLT, Nat.reduceLeDiff, Nat.reduceBEq, Int.reduceToNat, Int.reduceLT, Int.reduceLE, Int.reduceGT, Int.reduceGE, Int.reduceEq, Int.reduceBEq, Int.reduceBNe, Int.reduceNeg, reduceCtorEq, hb_816F, hb_821, hb_822, hb_823F]; exact rfl) ?_
          refine AL_gt' (guard_true' rfl rfl (by exact rfl) (by exact rfl)) rfl (by simp only [go_sem, reduceIte, Nat.reduceAdd, Nat.reduceSub, Nat.reduceMul, Nat.reduceEqDiff, Nat.reduceLT, Nat.reduceLeDiff, Nat.reduceBEq, Int.reduceToNat, Int.reduceLT, Int.reduceLE, Int.reduceGT, Int.reduceGE, Int.reduceEq, Int.reduceBEq, Int.reduceBNe, Int.reduceNeg, reduceCtorEq, hb_816F, hb_821, hb_822, hb_823F]; exact rfl) ?_
          refine AL_gt' (guard_true' rfl rfl (by exact rfl) (by exact rfl)) rfl (by simp only [go_sem, reduceIte, Nat.reduceAdd, Nat.reduceSub, Nat.reduceMul, Nat.reduceEqDiff, Nat.reduceLT, Nat.reduceLeDiff, Nat.reduceBEq, Int.reduceToNat, Int.reduceLT, Int.reduceLE, Int.reduceGT, Int.reduceGE, Int.reduceEq, Int.reduceBEq, Int.reduceBNe, Int.reduceNeg, reduceCtorEq, hb_816F, hb_821, hb_822, hb_823F]; exact rfl) ?_
          refine AL_gt' (guard_true' rfl rfl (by exact rfl) (by exact rfl)) rfl (by simp only [go_sem, reduceIte, Nat.reduceAdd, Nat.reduceSub, Nat.reduceMul, Nat.reduceEqDiff, Nat.reduceLT, Nat.reduceLeDiff, Nat.reduceBEq, Int.reduceToNat, Int.reduceLT, Int.reduceLE, Int.reduceGT, Int.reduceGE, Int.reduceEq, Int.reduceBEq, Int.reduceBNe, Int.reduceNeg, reduceCtorEq, hb_816F, hb_821, hb_822, hb_823F]; exact rfl) ?_
          refine AL_gt' (guard_true' rfl rfl (by exact rfl) (by exact rfl)) rfl (by simp only [go_sem, reduceIte, Nat.reduceAdd, Nat.reduceSub, Nat.reduceMul, Nat.reduceEqDiff, Nat.reduceLT, Nat.reduceLeDiff, Nat.reduceBEq, Int.reduceToNat, Int.reduceLT, Int.reduceLE, Int.reduceGT, Int.reduceGE, Int.reduceEq, Int.reduceBEq, Int.reduceBNe, Int.reduceNeg, reduceCtorEq, hb_816F, hb_821, hb_822, hb_823F]; exact rfl) ?_
          refine AL_gt' (guard_true' rfl rfl (by exact rfl) (by exact rfl)) rfl (by simp only [go_sem, reduceIte, Nat.reduceAdd, Nat.reduceSub, Nat.reduceMul, Nat.reduceEqDiff, Nat.reduceLT, Nat.reduceLeDiff, Nat.reduceBEq, Int.reduceToNat, Int.reduceLT, Int.reduceLE, Int.reduceGT, Int.reduceGE, Int.reduceEq, Int.reduceBEq, Int.reduceBNe, Int.reduceNeg, reduceCtorEq, hb_816F, hb_821, hb_822, hb_823F]; exact rfl) ?_
          refine AL_upto (by exact rfl) (by simp only [go_sem, reduceIte, Nat.reduceAdd, Nat.reduceSub, Nat.reduceMul, Nat.reduceEqDiff, Nat.reduceLT, Nat.reduceLeDiff, Nat.reduceBEq, Int.reduceToNat, Int.reduceLT, Int.reduceLE, Int.reduceGT, Int.reduceGE, Int.reduceEq, Int.reduceBEq, Int.reduceBNe, Int.reduceNeg, reduceCtorEq, hb_816F, hb_821, hb_822, hb_823F]; exact rfl) ?_
          refine AL_nil ?_
          refine thenA_n ?_
          refine awp_ret ?_
          refine thenA_ret ?_
          cases h
          refine retQ_ret (by simp only [Try.results55]; simp only [go_sem, reduceIte, Nat.reduceAdd, Nat.reduceSub, Nat.reduceMul, Nat.reduceEqDiff, Nat.reduceLT, Nat.reduceLeDiff, Nat.reduceBEq, Int.reduceToNat, Int.reduceLT, Int.reduceLE, Int.reduceGT, Int.reduceGE, Int.reduceEq, Int.reduceBEq, Int.reduceBNe, Int.reduceNeg, reduceCtorEq, hb_816F, hb_821, hb_822, hb_823F]; exact rfl) ?_
          simp only [go_sem, reduceIte, Nat.reduceAdd, Nat.reduceSub, Nat.reduceMul, Nat.reduceEqDiff, Nat.reduceLT, Nat.reduceLeDiff, Nat.reduceBEq, Int.reduceToNat, Int.reduceLT, Int.reduceLE, Int.reduceGT, Int.reduceGE, Int.reduceEq, Int.reduceBEq, Int.reduceBNe, Int.reduceNeg, reduceCtorEq, hb_816F, hb_821, hb_822, hb_823F]
          all_goals ((repeat' refine And.intro ?_ ?_) <;> first | rfl | (simp; done) | (simp; rfl) | (simp [*]; done) | (simp [*]; rfl))
      · rw [if_neg hb_822] at h
        have hb_822F := Bool.eq_false_iff.2 hb_822
        refine AL_known (d := 28) (v := .p (.bool false)) (by simp only [go_sem, reduceIte, Nat.reduceAdd, Nat.reduceSub, Nat.reduceMul, Nat.reduceEqDiff, Nat.reduceLT, Nat.reduceLeDiff, Nat.reduceBEq, Int.reduceToNat, Int.reduceLT, Int.reduceLE, Int.reduceGT, Int.reduceGE, Int.reduceEq, Int.reduceBEq, Int.reduceBNe, Int.reduceNeg, reduceCtorEq, hb_816F, hb_821, hb_822F]) ?_
        refine AL_skips (by exact rfl) ?_
        refine AL_upto (by exact rfl) (by simp only [go_sem, reduceIte, Nat.reduceAdd, Nat.reduceSub, Nat.reduceMul, Nat.reduceEqDiff, Nat.reduceLT, Nat.reduceLeDiff, Nat.reduceBEq, Int.reduceToNat, Int.reduceLT, Int.reduceLE, Int.reduceGT, Int.reduceGE, Int.reduceEq, Int.reduceBEq, Int.reduceBNe, Int.reduceNeg, reduceCtorEq, hb_816F, hb_821, hb_822F]; exact rfl) ?_
        refine AL_nil ?_
        refine thenA_n ?_
        refine awp_ret ?_
        refine thenA_ret ?_
        cases h
        refine retQ_ret (by simp only [Try.results55]; simp only [go_sem, reduceIte, Nat.reduceAdd, Nat.reduceSub, Nat.reduceMul, Nat.reduceEqDiff, Nat.reduceLT, Nat.reduceLeDiff, Nat.reduceBEq, Int.reduceToNat, Int.reduceLT, Int.reduceLE, Int.reduceGT, Int.reduceGE, Int.reduceEq, Int.reduceBEq, Int.reduceBNe, Int.reduceNeg, reduceCtorEq, hb_816F, hb_821, hb_822F]; exact rfl) ?_
        simp only [go_sem, reduceIte, Nat.reduceAdd, Nat.reduceSub, Nat.reduceMul, Nat.reduceEqDiff, Nat.reduceLT, Nat.reduceLeDiff, Nat.reduceBEq, Int.reduceToNat, Int.reduceLT, Int.reduceLE, Int.reduceGT, Int.reduceGE, Int.reduceEq, Int.reduceBEq, Int.reduceBNe, Int.reduceNeg, reduceCtorEq, hb_816F, hb_821, hb_822F]
        all_goals ((repeat' refine And.intro ?_ ?_) <;> first | rfl | (simp; done) | (simp; rfl) | (simp [*]; done) | (simp [*]; rfl))
    · rw [if_neg hb_821] at h
      have hb_821F := Bool.eq_false_iff.2 hb_821
      refine awp_cf (by simp only [go_sem, reduceIte, Nat.reduceAdd, Nat.reduceSub, Nat.reduceMul, Nat.reduceEqDiff, Nat.reduceLT, Nat.reduceLeDiff, Nat.reduceBEq, Int.reduceToNat, Int.reduceLT, Int.reduceLE, Int.reduceGT, Int.reduceGE, Int.reduceEq, Int.reduceBEq, Int.reduceBNe, Int.reduceNeg, reduceCtorEq, hb_816F, hb_821F]) ?_
      refine awp_skip ?_
      refine thenA_n ?_
      refine awp_seq ?_
      refine awp_region ?_
      refine AL_upto (by exact rfl) (by simp only [go_sem, reduceIte, Nat.reduceAdd, Nat.reduceSub, Nat.reduceMul, Nat.reduceEqDiff, Nat.reduceLT, Nat.reduceLeDiff, Nat.reduceBEq, Int.reduceToNat, Int.reduceLT, Int.reduceLE, Int.reduceGT, Int.reduceGE, Int.reduceEq, Int.reduceBEq, Int.reduceBNe, Int.reduceNeg, reduceCtorEq, hb_816F, hb_821F]; exact rfl) ?_
      obtain ⟨r_826, hr_827, h⟩ := Option.bind_eq_some_iff.1 h
      refine AL_con' rfl (guard_none rfl) rfl (by simp only [go_sem, reduceIte, Nat.reduceAdd, Nat.reduceSub, Nat.reduceMul, Nat.reduceEqDiff, Nat.reduceLT, Nat.reduceLeDiff, Nat.reduceBEq, Int.reduceToNat, Int.reduceLT, Int.reduceLE, Int.reduceGT, Int.reduceGE, Int.reduceEq, Int.reduceBEq, Int.reduceBNe, Int.reduceNeg, reduceCtorEq, hb_816F, hb_821F]; exact rfl) (by simp only [go_sem, reduceIte, Nat.reduceAdd, Nat.reduceSub, Nat.reduceMul, Nat.reduceEqDiff, Nat.reduceLT, Nat.reduceLeDiff, Nat.reduceBEq, Int.reduceToNat, Int.reduceLT, Int.reduceLE, Int.reduceGT, Int.reduceGE, Int.reduceEq, Int.reduceBEq, Int.reduceBNe, Int.reduceNeg, reduceCtorEq, hb_816F, hb_821F]; all_goals ((repeat' refine And.intro ?_ ?_) <;> first | rfl | (simp; done) | (simp; rfl) | (simp [*]; done) | (simp [*]; rfl))) (drossref01_Compare_con v_814 old_815 _ hr_827) (.inr rfl) rfl ?_
      refine AL_upto (by exact rfl) (by simp only [go_sem, reduceIte, Nat.reduceAdd, Nat.reduceSub, Nat.reduceMul, Nat.reduceEqDiff, Nat.reduceLT, Nat.reduceLeDiff, Nat.reduceBEq, Int.reduceToNat, Int.reduceLT, Int.reduceLE, Int.reduceGT, Int.reduceGE, Int.reduceEq, Int.reduceBEq, Int.reduceBNe, Int.reduceNeg, reduceCtorEq, hb_816F, hb_821F]; exact rfl) ?_
      refine AL_nil ?_
      refine thenA_n ?_
      refine awp_seq ?_
      refine awp_region ?_
      refine AL_upto (by exact rfl) (by simp only [go_sem, reduceIte, Nat.reduceAdd, Nat.reduceSub, Nat.reduceMul, Nat.reduceEqDiff, Nat.reduceLT, Nat.reduceLeDiff, Nat.reduceBEq, Int.reduceToNat, Int.reduceLT, Int.reduceLE, Int.reduceGT, Int.reduceGE, Int.reduceEq, Int.reduceBEq, Int.reduceBNe, Int.reduceNeg, reduceCtorEq, hb_816F, hb_821F]; exact rfl) ?_
      by_cases hb_828 : (rule_813 == 4) = true
      · rw [if_pos hb_828] at h
        refine AL_known (d := 47) (v := .p (.bool true)) (by simp only [go_sem, reduceIte, Nat.reduceAdd, Nat.reduceSub, Nat.reduceMul, Nat.reduceEqDiff, Nat.reduceLT, Nat.reduceLeDiff, Nat.reduceBEq, Int.reduceToNat, Int.reduceLT, Int.reduceLE, Int.reduceGT, Int.reduceGE, Int.reduceEq, Int.reduceBEq, Int.reduceBNe, Int.reduceNeg, reduceCtorEq, hb_816F, hb_821F, hb_828]) ?_
        refine AL_gt' (guard_true' rfl rfl (by exact rfl) (by exact rfl)) rfl (by simp only [go_sem, reduceIte, Nat.reduceAdd, Nat.reduceSub, Nat.reduceMul, Nat.reduceEqDiff, Nat.reduceLT, Nat.reduceLeDiff, Nat.reduceBEq, Int.reduceToNat, Int.reduceLT, Int.reduceLE, Int.reduceGT, Int.reduceGE, Int.reduceEq, Int.reduceBEq, Int.reduceBNe, Int.reduceNeg, reduceCtorEq, hb_816F, hb_821F, hb_828]; exact rfl) ?_
        refine AL_gt' (guard_true' rfl rfl (by exact rfl) (by exact rfl)) rfl (by simp only [go_sem, reduceIte, Nat.reduceAdd, Nat.reduceSub, Nat.reduceMul, Nat.reduceEqDiff, Nat.reduceLT, Nat.reduceLeDiff, Nat.reduceBEq, Int.reduceToNat, Int.reduceLT, Int.reduceLE, Int.reduceGT, Int.reduceGE, Int.reduceEq, Int.reduceBEq, Int.reduceBNe, Int.reduceNeg, reduceCtorEq, hb_816F, hb_821F, hb_828]; exact rfl) ?_
        refine AL_upto (by exact rfl) (by simp only [go_sem, reduceIte, Nat.reduceAdd, Nat.reduceSub, Nat.reduceMul, Nat.reduceEqDiff, Nat.reduceLT, Nat.reduceLeDiff, Nat.reduceBEq, Int.reduceToNat, Int.reduceLT, Int.reduceLE, Int.reduceGT, Int.reduceGE, Int.reduceEq, Int.reduceBEq, Int.reduceBNe, Int.reduceNeg, reduceCtorEq, hb_816F, hb_821F, hb_828]; exact rfl) ?_
        by_cases hb_829 : r_826 < 0
        · rw [if_pos hb_829] at h
          have hb_829T := eq_true hb_829
          refine AL_known (d := 51) (v := .p (.bool true)) (by simp only [go_sem, reduceIte, Nat.reduceAdd, Nat.reduceSub, Nat.reduceMul, Nat.reduceEqDiff, Nat.reduceLT, Nat.reduceLeDiff, Nat.reduceBEq, Int.reduceToNat, Int.reduceLT, Int.reduceLE, Int.reduceGT, Int.reduceGE, Int.reduceEq, Int.reduceBEq, Int.reduceBNe, Int.reduceNeg, reduceCtorEq, hb_816F, hb_821F, hb_828, hb_829T]) ?_
          refine AL_skips (by exact rfl) ?_
          refine AL_upto (by exact rfl) (by simp only [go_sem, reduceIte, Nat.reduceAdd, Nat.reduceSub, Nat.reduceMul, Nat.reduceEqDiff, Nat.reduceLT, Nat.reduceLeDiff, Nat.reduceBEq, Int.reduceToNat, Int.reduceLT, Int.reduceLE, Int.reduceGT, Int.reduceGE, Int.reduceEq, Int.reduceBEq, Int.reduceBNe, Int.reduceNeg, reduceCtorEq, hb_816F, hb_821F, hb_828, hb_829T]; exact rfl) ?_
          refine AL_nil ?_
          refine thenA_n ?_
          refine awp_ret ?_
          cases h
          refine retQ_ret (by simp only [Try.results55]; simp only [go_sem, reduceIte, Nat.reduceAdd, Nat.reduceSub, Nat.reduceMul, Nat.reduceEqDiff, Nat.reduceLT, Nat.reduceLeDiff, Nat.reduceBEq, Int.reduceToNat, Int.reduceLT, Int.reduceLE, Int.reduceGT, Int.reduceGE, Int.reduceEq, Int.reduceBEq, Int.reduceBNe, Int.reduceNeg, reduceCtorEq, hb_816F, hb_821F, hb_828, hb_829T]; exact rfl) ?_
          simp only [go_sem, reduceIte, Nat.reduceAdd, Nat.reduceSub, Nat.reduceMul, Nat.reduceEqDiff, Nat.reduceLT, Nat.reduceLeDiff, Nat.reduceBEq, Int.reduceToNat, Int.reduceLT, Int.reduceLE, Int.reduceGT, Int.reduceGE, Int.reduceEq, Int.reduceBEq, Int.reduceBNe, Int.reduceNeg, reduceCtorEq, hb_816F, hb_821F, hb_828, hb_829T]
          all_goals ((repeat' refine And.intro ?_ ?_) <;> first | rfl | (simp; done) | (simp; rfl) | (simp [*]; done) | (simp [*]; rfl))
        · rw [if_neg hb_829] at h
          have hb_829T := eq_false hb_829
          refine AL_known (d := 51) (v := .p (.bool false)) (by simp only [go_sem, reduceIte, Nat.reduceAdd, Nat.reduceSub, Nat.reduceMul, Nat.reduceEqDiff, Nat.reduceLT, Nat.reduceLeDiff, Nat.reduceBEq, Int.reduceToNat, Int.reduceLT, Int.reduceLE, Int.reduceGT, Int.reduceGE, Int.reduceEq, Int.reduceBEq, Int.reduceBNe, Int.reduceNeg, reduceCtorEq, hb_816F, hb_821F, hb_828, hb_829T]) ?_
          refine AL_gt' (guard_true' rfl rfl (by exact rfl) (by exact rfl)) rfl (by simp only [go_sem, reduceIte, Nat.reduceAdd, Nat.reduceSub, Nat.reduceMul, Nat.reduceEqDiff, Nat.reduceLT, Nat.reduceLeDiff, Nat.reduceBEq, Int.reduceToNat, Int.reduceLT, Int.reduceLE, Int.reduceGT, Int.reduceGE, Int.reduceEq, Int.reduceBEq, Int.reduceBNe, Int.reduceNeg, reduceCtorEq, hb_816F, hb_821F, hb_828, hb_829T]; exact rfl) ?_
          refine AL_gt' (guard_true' rfl rfl (by exact rfl) (by exact rfl)) rfl (by simp only [go_sem, reduceIte, Nat.reduceAdd, Nat.reduceSub, Nat.reduceMul, Nat.reduceEqDiff, Nat.reduceLT, Nat.reduceLeDiff, Nat.reduceBEq, Int.reduceToNat, Int.reduceLT, Int.reduceLE, Int.reduceGT, Int.reduceGE, Int.reduceEq, Int.reduceBEq, Int.reduceBNe, Int.reduceNeg, reduceCtorEq, hb_816F, hb_821F, hb_828, hb_829T]; exact rfl) ?_
          refine AL_gt' (guard_true' rfl rfl (by exact rfl) (by exact rfl)) rfl (by simp only [go_sem, reduceIte, Nat.reduceAdd, Nat.reduceSub, Nat.reduceMul, Nat.reduceEqDiff, Nat.reduceLT, Nat.reduceLeDiff, Nat.reduceBEq, Int.reduceToNat, Int.reduceLT, Int.reduceLE, Int.reduceGT, Int.reduceGE, Int.reduceEq, Int.reduceBEq, Int.reduceBNe, Int.reduceNeg, reduceCtorEq, hb_816F, hb_821F, hb_828, hb_829T]; exact rfl) ?_
          by_cases hb_830 : (rule_813 == 5) = true
          · rw [if_pos hb_830] at h
            refine AL_known (d := 54) (v := .p (.bool true)) (by simp only [go_sem, reduceIte, Nat.reduceAdd, Nat.reduceSub, Nat.reduceMul, Nat.reduceEqDiff, Nat.reduceLT, Nat.reduceLeDiff, Nat.reduceBEq, Int.reduceToNat, Int.reduceLT, Int.reduceLE, Int.reduceGT, Int.reduceGE, Int.reduceEq, Int.reduceBEq, Int.reduceBNe, Int.reduceNeg, reduceCtorEq, hb_816F, hb_821F, hb_828, hb_829T, hb_830]) ?_
            refine AL_gt' (guard_true' rfl rfl (by exact rfl) (by exact rfl)) rfl (by simp only [go_sem, reduceIte, Nat.reduceAdd, Nat.reduceSub, Nat.reduceMul, Nat.reduceEqDiff, Nat.reduceLT, Nat.reduceLeDiff, Nat.reduceBEq, Int.reduceToNat, Int.reduceLT, Int.reduceLE, Int.reduceGT, Int.reduceGE, Int.reduceEq, Int.reduceBEq, Int.reduceBNe, Int.reduceNeg, reduceCtorEq, hb_816F, hb_821F, hb_828, hb_829T, hb_830]; exact rfl) ?_
            refine AL_gt' (guard_true' rfl rfl (by exact rfl) (by exact rfl)) rfl (by simp only [go_sem, reduceIte, Nat.reduceAdd, Nat.reduceSub, Nat.reduceMul, Nat.reduceEqDiff, Nat.reduceLT, Nat.reduceLeDiff, Nat.reduceBEq, Int.reduceToNat, Int.reduceLT, Int.reduceLE, Int.reduceGT, Int.reduceGE, Int.reduceEq, Int.reduceBEq, Int.reduceBNe, Int.reduceNeg, reduceCtorEq, hb_816F, hb_821F, hb_828, hb_829T, hb_830]; exact rfl) ?_
            refine AL_gt' (guard_true' rfl rfl (by exact rfl) (by exact rfl)) rfl (by simp only [go_sem, reduceIte, Nat.reduceAdd, Nat.reduceSub, Nat.reduceMul, Nat.reduceEqDiff, Nat.reduceLT, Nat.reduceLeDiff, Nat.reduceBEq, Int.reduceToNat, Int.reduceLT, Int.reduceLE, Int.reduceGT, Int.reduceGE, Int.reduceEq, Int.reduceBEq, Int.reduceBNe, Int.reduceNeg, reduceCtorEq, hb_816F, hb_821F, hb_828, hb_829T, hb_830]; exact rfl) ?_
            refine AL_upto (by exact rfl) (by simp only [go_sem, reduceIte, Nat.reduceAdd, Nat.reduceSub, Nat.reduceMul, Nat.reduceEqDiff, Nat.reduceLT, Nat.reduceLeDiff, Nat.reduceBEq, Int.reduceToNat, Int.reduceLT, Int.reduceLE, Int.reduceGT, Int.reduceGE, Int.reduceEq, Int.reduceBEq, Int.reduceBNe, Int.reduceNeg, reduceCtorEq, hb_816F, hb_821F, hb_828, hb_829T, hb_830]; exact rfl) ?_
            refine AL_nil ?_
            refine thenA_n ?_
            refine awp_ret ?_
            cases h
            refine retQ_ret (by simp only [Try.results55]; simp only [go_sem, reduceIte, Nat.reduceAdd, Nat.reduceSub, Nat.reduceMul, Nat.reduceEqDiff, Nat.reduceLT, Nat.reduceLeDiff, Nat.reduceBEq, Int.reduceToNat, Int.reduceLT, Int.reduceLE, Int.reduceGT, Int.reduceGE, Int.reduceEq, Int.reduceBEq, Int.reduceBNe, Int.reduceNeg, reduceCtorEq, hb_816F, hb_821F, hb_828, hb_829T, hb_830]; exact rfl) ?_
            simp only [go_sem, reduceIte, Nat.reduceAdd, Nat.reduceSub, Nat.reduceMul, Nat.reduceEqDiff, Nat.reduceLT, Nat.reduceLeDiff, Nat.reduceBEq, Int.reduceToNat, Int.reduceLT, Int.reduceLE, Int.reduceGT, Int.reduceGE, Int.reduceEq, Int.reduceBEq, Int.reduceBNe, Int.reduceNeg, reduceCtorEq, hb_816F, hb_821F, hb_828, hb_829T, hb_830]
            all_goals ((repeat' refine And.intro ?_ ?_) <;> first | rfl | (simp; done) | (simp; rfl) | (simp [*]; done) | (simp [*]; rfl))
          · rw [if_neg hb_830] at h
            have hb_830F := Bool.eq_false_iff.2 hb_830
            refine AL_known (d := 54) (v := .p (.bool false)) (by simp only [go_sem, reduceIte, Nat.reduceAdd, Nat.reduceSub, Nat.reduceMul, Nat.reduceEqDiff, Nat.reduceLT, Nat.reduceLeDiff, Nat.reduceBEq, Int.reduceToNat, Int.reduceLT, Int.reduceLE, Int.reduceGT, Int.reduceGE, Int.reduceEq, Int.reduceBEq, Int.reduceBNe, Int.reduceNeg, reduceCtorEq, hb_816F, hb_821F, hb_828, hb_829T, hb_830F]) ?_
            refine AL_skips (by exact rfl) ?_
            refine AL_gt' (guard_true' rfl rfl (by exact rfl) (by exact rfl)) rfl (by simp only [go_sem, reduceIte, Nat.reduceAdd, Nat.reduceSub, Nat.reduceMul, Nat.reduceEqDiff, Nat.reduceLT, Nat.reduceLeDiff, Nat.reduceBEq, Int.reduceToNat, Int.reduceLT, Int.reduceLE, Int.reduceGT, Int.reduceGE, Int.reduceEq, Int.reduceBEq, Int.reduceBNe, Int.reduceNeg, reduceCtorEq, hb_816F, hb_821F, hb_828, hb_829T, hb_830F]; exact rfl) ?_
            refine AL_upto (by exact rfl) (by simp only [go_sem, reduceIte, Nat.reduceAdd, Nat.reduceSub, Nat.reduceMul, Nat.reduceEqDiff, Nat.reduceLT, Nat.reduceLeDiff, Nat.reduceBEq, Int.reduceToNat, Int.reduceLT, Int.reduceLE, Int.reduceGT, Int.reduceGE, Int.reduceEq, Int.reduceBEq, Int.reduceBNe, Int.reduceNeg, reduceCtorEq, hb_816F, hb_821F, hb_828, hb_829T, hb_830F]; exact rfl) ?_
            refine AL_nil ?_
            refine thenA_n ?_
            refine awp_ret ?_
            cases h
            refine retQ_ret (by simp only [Try.results55]; simp only [go_sem, reduceIte, Nat.reduceAdd, Nat.reduceSub, Nat.reduceMul, Nat.reduceEqDiff, Nat.reduceLT, Nat.reduceLeDiff, Nat.reduceBEq, Int.reduceToNat, Int.reduceLT, Int.reduceLE, Int.reduceGT, Int.reduceGE, Int.reduceEq, Int.reduceBEq, Int.reduceBNe, Int.reduceNeg, reduceCtorEq, hb_816F, hb_821F, hb_828, hb_829T, hb_830F]; exact rfl) ?_
            simp only [go_sem, reduceIte, Nat.reduceAdd, Nat.reduceSub, Nat.reduceMul, Nat.reduceEqDiff, Nat.reduceLT, Nat.reduceLeDiff, Nat.reduceBEq, Int.reduceToNat, Int.reduceLT, Int.reduceLE, Int.reduceGT, Int.reduceGE, Int.reduceEq, Int.reduceBEq, Int.reduceBNe, Int.reduceNeg, reduceCtorEq, hb_816F, hb_821F, hb_828, hb_829T, hb_830F]
            all_goals ((repeat' refine And.intro ?_ ?_) <;> first | rfl | (simp; done) | (simp; rfl) | (simp [*]; done) | (simp [*]; rfl))
      · rw [if_neg hb_828] at h
        have hb_828F := Bool.eq_false_iff.2 hb_828
        refine AL_known (d := 47) (v := .p (.bool false)) (by simp only [go_sem, reduceIte, Nat.reduceAdd, Nat.reduceSub, Nat.reduceMul, Nat.reduceEqDiff, Nat.reduceLT, Nat.reduceLeDiff, Nat.reduceBEq, Int.reduceToNat, Int.reduceLT, Int.reduceLE, Int.reduceGT, Int.reduceGE, Int.reduceEq, Int.reduceBEq, Int.reduceBNe, Int.reduceNeg, reduceCtorEq, hb_816F, hb_821F, hb_828F]) ?_
        refine AL_skips (by exact rfl) ?_
        refine AL_upto (by exact rfl) (by simp only [go_sem, reduceIte, Nat.reduceAdd, Nat.reduceSub, Nat.reduceMul, Nat.reduceEqDiff, Nat.reduceLT, Nat.reduceLeDiff, Nat.reduceBEq, Int.reduceToNat, Int.reduceLT, Int.reduceLE, Int.reduceGT, Int.reduceGE, Int.reduceEq, Int.reduceBEq, Int.reduceBNe, Int.reduceNeg, reduceCtorEq, hb_816F, hb_821F, hb_828F]; exact rfl) ?_
        refine AL_gt' (guard_true' rfl rfl (by exact rfl) (by exact rfl)) rfl (by simp only [go_sem, reduceIte, Nat.reduceAdd, Nat.reduceSub, Nat.reduceMul, Nat.reduceEqDiff, Nat.reduceLT, Nat.reduceLeDiff, Nat.reduceBEq, Int.reduceToNat, Int.reduceLT, Int.reduceLE, Int.reduceGT, Int.reduceGE, Int.reduceEq, Int.reduceBEq, Int.reduceBNe, Int.reduceNeg, reduceCtorEq, hb_816F, hb_821F, hb_828F]; exact rfl) ?_
        refine AL_gt' (guard_true' rfl rfl (by exact rfl) (by exact rfl)) rfl (by simp only [go_sem, reduceIte, Nat.reduceAdd, Nat.reduceSub, Nat.reduceMul, Nat.reduceEqDiff, Nat.reduceLT, Nat.reduceLeDiff, Nat.reduceBEq, Int.reduceToNat, Int.reduceLT, Int.reduceLE, Int.reduceGT, Int.reduceGE, Int.reduceEq, Int.reduceBEq, Int.reduceBNe, Int.reduceNeg, reduceCtorEq, hb_816F, hb_821F, hb_828F]; exact rfl) ?_
        refine AL_gt' (guard_true' rfl rfl (by exact rfl) (by exact rfl)) rfl (by simp only [go_sem, reduceIte, Nat.reduceAdd, Nat.reduceSub, Nat.reduceMul, Nat.reduceEqDiff, Nat.reduceLT, Nat.reduceLeDiff, Nat.reduceBEq, Int.reduceToNat, Int.reduceLT, Int.reduceLE, Int.reduceGT, Int.reduceGE, Int.reduceEq, Int.reduceBEq, Int.reduceBNe, Int.reduceNeg, reduceCtorEq, hb_816F, hb_821F, hb_828F]; exact rfl) ?_
        by_cases hb_831 : (rule_813 == 5) = true
        · rw [if_pos hb_831] at h
          refine AL_known (d := 54) (v := .p (.bool true)) (by simp only [go_sem, reduceIte, Nat.reduceAdd, Nat.reduceSub, Nat.reduceMul, Nat.reduceEqDiff, Nat.reduceLT, Nat.reduceLeDiff, Nat.reduceBEq, Int.reduceToNat, Int.reduceLT, Int.reduceLE, Int.reduceGT, Int.reduceGE, Int.reduceEq, Int.reduceBEq, Int.reduceBNe, Int.reduceNeg, reduceCtorEq, hb_816F, hb_821F, hb_828F, hb_831]) ?_
          refine AL_gt' (guard_true' rfl rfl (by exact rfl) (by exact rfl)) rfl (by simp only [go_sem, reduceIte, Nat.reduceAdd, Nat.reduceSub, Nat.reduceMul, Nat.reduceEqDiff, Nat.reduceLT, Nat.reduceLeDiff, Nat.reduceBEq, Int.reduceToNat, Int.reduceLT, Int.reduceLE, Int.reduceGT, Int.reduceGE, Int.reduceEq, Int.reduceBEq, Int.reduceBNe, Int.reduceNeg, reduceCtorEq, hb_816F, hb_821F, hb_828F, hb_831]; exact rfl) ?_
          refine AL_gt' (guard_true' rfl rfl (by exact rfl) (by exact rfl)) rfl (by simp only [go_sem, reduceIte, Nat.reduceAdd, Nat.reduceSub, Nat.reduceMul, Nat.reduceEqDiff, Nat.reduceLT, Nat.reduceLeDiff, Nat.reduceBEq, Int.reduceToNat, Int.reduceLT, Int.reduceLE, Int.reduceGT, Int.reduceGE, Int.reduceEq, Int.reduceBEq, Int.reduceBNe, Int.reduceNeg, reduceCtorEq, hb_816F, hb_821F, hb_828F, hb_831]; exact rfl) ?_
          refine AL_gt' (guard_true' rfl rfl (by exact rfl) (by exact rfl)) rfl (by simp only [go_sem, reduceIte, Nat.reduceAdd, Nat.reduceSub, Nat.reduceMul, Nat.reduceEqDiff, Nat.reduceLT, Nat.reduceLeDiff, Nat.reduceBEq, Int.reduceToNat, Int.reduceLT, Int.reduceLE, Int.reduceGT, Int.reduceGE, Int.reduceEq, Int.reduceBEq, Int.reduceBNe, Int.reduceNeg, reduceCtorEq, hb_816F, hb_821F, hb_828F, hb_831]; exact rfl) ?_
          refine AL_upto (by exact rfl) (by simp only [go_sem, reduceIte, Nat.reduceAdd, Nat.reduceSub, Nat.reduceMul, Nat.reduceEqDiff, Nat.reduceLT, Nat.reduceLeDiff, Nat.reduceBEq, Int.reduceToNat, Int.reduceLT, Int.reduceLE, Int.reduceGT, Int.reduceGE, Int.reduceEq, Int.reduceBEq, Int.reduceBNe, Int.reduceNeg, reduceCtorEq, hb_816F, hb_821F, hb_828F, hb_831]; exact rfl) ?_
          refine AL_nil ?_
          refine thenA_n ?_
          refine awp_ret ?_
          cases h
          refine retQ_ret (by simp only [Try.results55]; simp only [go_sem, reduceIte, Nat.reduceAdd, Nat.reduceSub, Nat.reduceMul, Nat.reduceEqDiff, Nat.reduceLT, Nat.reduceLeDiff, Nat.reduceBEq, Int.reduceToNat, Int.reduceLT, Int.reduceLE, Int.reduceGT, Int.reduceGE, Int.reduceEq, Int.reduceBEq, Int.reduceBNe, Int.reduceNeg, reduceCtorEq, hb_816F, hb_821F, hb_828F, hb_831]; exact rfl) ?_
          simp only [go_sem, reduceIte, Nat.reduceAdd, Nat.reduceSub, Nat.reduceMul, Nat.reduceEqDiff, Nat.reduceLT, Nat.reduceLeDiff, Nat.reduceBEq, Int.reduceToNat, Int.reduceLT, Int.reduceLE, Int.reduceGT, Int.reduceGE, Int.reduceEq, Int.reduceBEq, Int.reduceBNe, Int.reduceNeg, reduceCtorEq, hb_816F, hb_821F, hb_828F, hb_831]
          all_goals ((repeat' refine And.intro ?_ ?_) <;> first | rfl | (simp; done) | (simp; rfl) | (simp [*]; done) | (simp [*]; rfl))
        · rw [if_neg hb_831] at h
          have hb_831F := Bool.eq_false_iff.2 hb_831
          refine AL_known (d := 54) (v := .p (.bool false)) (by simp only [go_sem, reduceIte, Nat.reduceAdd, Nat.reduceSub, Nat.reduceMul, Nat.reduceEqDiff, Nat.reduceLT, Nat.reduceLeDiff, Nat.reduceBEq, Int.reduceToNat, Int.reduceLT, Int.reduceLE, Int.reduceGT, Int.reduceGE, Int.reduceEq, Int.reduceBEq, Int.reduceBNe, Int.reduceNeg, reduceCtorEq, hb_816F, hb_821F, hb_828F, hb_831F]) ?_
          refine AL_skips (by exact rfl) ?_
          refine AL_gt' (guard_true' rfl rfl (by exact rfl) (by exact rfl)) rfl (by simp only [go_sem, reduceIte, Nat.reduceAdd, Nat.reduceSub, Nat.reduceMul, Nat.reduceEqDiff, Nat.reduceLT, Nat.reduceLeDiff, Nat.reduceBEq, Int.reduceToNat, Int.reduceLT, Int.reduceLE, Int.reduceGT, Int.reduceGE, Int.reduceEq, Int.reduceBEq, Int.reduceBNe, Int.reduceNeg, reduceCtorEq, hb_816F, hb_821F, hb_828F, hb_831F]; exact rfl) ?_
          refine AL_upto (by exact rfl) (by simp only [go_sem, reduceIte, Nat.reduceAdd, Nat.reduceSub, Nat.reduceMul, Nat.reduceEqDiff, Nat.reduceLT, Nat.reduceLeDiff, Nat.reduceBEq, Int.reduceToNat, Int.reduceLT, Int.reduceLE, Int.reduceGT, Int.reduceGE, Int.reduceEq, Int.reduceBEq, Int.reduceBNe, Int.reduceNeg, reduceCtorEq, hb_816F, hb_821F, hb_828F, hb_831F]; exact rfl) ?_
          refine AL_nil ?_
          refine thenA_n ?_
          refine awp_ret ?_
          cases h
          refine retQ_ret (by simp only [Try.results55]; simp only [go_sem, reduceIte, Nat.reduceAdd, Nat.reduceSub, Nat.reduceMul, Nat.reduceEqDiff, Nat.reduceLT, Nat.reduceLeDiff, Nat.reduceBEq, Int.reduceToNat, Int.reduceLT, Int.reduceLE, Int.reduceGT, Int.reduceGE, Int.reduceEq, Int.reduceBEq, Int.reduceBNe, Int.reduceNeg, reduceCtorEq, hb_816F, hb_821F, hb_828F, hb_831F]; exact rfl) ?_
          simp only [go_sem, reduceIte, Nat.reduceAdd, Nat.reduceSub, Nat.reduceMul, Nat.reduceEqDiff, Nat.reduceLT, Nat.reduceLeDiff, Nat.reduceBEq, Int.reduceToNat, Int.reduceLT, Int.reduceLE, Int.reduceGT, Int.reduceGE, Int.reduceEq, Int.reduceBEq, Int.reduceBNe, Int.reduceNeg, reduceCtorEq, hb_816F, hb_821F, hb_828F, hb_831F]
          all_goals ((repeat' refine And.intro ?_ ?_) <;> first | rfl | (simp; done) | (simp; rfl) | (simp [*]; done) | (simp [*]; rfl))
end Go.Proofs.Ytdmddoljldjjeaa
set_option linter.unusedVariables false
set_option linter.unusedSimpArgs false
namespace Go.Proofs.Ytdmddoljldjjeaa
open Go Go.Ab
set_option maxHeartbeats 4000000 in
theorem drossref55_Pick_con (rows_833 : List Row) (attr_834 : Int) (rule_835 : Int) (r_905 : Drossref55_Result) (h : drossref55_Pick rows_833 attr_834 rule_835 = some r_905) : Con Try.prog 30 [(.slc (List.map encRow rows_833)), (.int .i64 attr_834), (.int .i64 rule_835)] (encDrossref55_Result r_905) := by
  refine ⟨Try.call30, ?_⟩
  refine pure_of_awp Try.func30 rfl Try.ntmps30 (by simp) fun X w => ?_
  show AWp _ _ _ ⟨[(0, .p (.slc (List.map encRow rows_833))), (1, .p (.int .i64 attr_834)), (2, .p (.int .i64 rule_835))], []⟩
  simp only [drossref55_Pick] at h
  refine awp_seq ?_
  refine awp_region ?_
  refine AL_upto (by exact rfl) (by simp only [go_sem, reduceIte, Nat.reduceAdd, Nat.reduceSub, Nat.reduceMul, Nat.reduceEqDiff, Nat.reduceLT, Nat.reduceLeDiff, Nat.reduceBEq, Int.reduceToNat, Int.reduceLT, Int.reduceLE, Int.reduceGT, Int.reduceGE, Int.reduceEq, Int.reduceBEq, Int.reduceBNe, Int.reduceNeg, reduceCtorEq]; exact rfl) ?_
  refine AL_nil ?_
  refine thenA_n ?_
  refine awp_seq ?_
  refine awp_region ?_
  refine AL_upto (by exact rfl) (by simp only [go_sem, reduceIte, Nat.reduceAdd, Nat.reduceSub, Nat.reduceMul, Nat.reduceEqDiff, Nat.reduceLT, Nat.reduceLeDiff, Nat.reduceBEq, Int.reduceToNat, Int.reduceLT, Int.reduceLE, Int.reduceGT, Int.reduceGE, Int.reduceEq, Int.reduceBEq, Int.reduceBNe, Int.reduceNeg, reduceCtorEq]; exact rfl) ?_
  refine AL_nil ?_
  refine thenA_n ?_
  refine awp_seq ?_
  refine awp_seq ?_
  refine awp_region ?_
  refine AL_upto (by exact rfl) (by simp only [go_sem, reduceIte, Nat.reduceAdd, Nat.reduceSub, Nat.reduceMul, Nat.reduceEqDiff, Nat.reduceLT, Nat.reduceLeDiff, Nat.reduceBEq, Int.reduceToNat, Int.reduceLT, Int.reduceLE, Int.reduceGT, Int.reduceGE, Int.reduceEq, Int.reduceBEq, Int.reduceBNe, Int.reduceNeg, reduceCtorEq]; exact rfl) ?_
  refine AL_nil ?_
  refine thenA_n ?_
  refine awp_block ?_
  obtain ⟨o_899, hL_900, h⟩ := Option.bind_eq_some_iff.1 h
  refine awp_loop_L (fun (s : Drossref55_Result × Int) => ⟨[(0, .p (.slc (List.map encRow rows_833))), (1, .p (.int .i64 attr_834)), (2, .p (.int .i64 rule_835)), (6, .loc 6 1 0 0), (7, .loc 7 1 0 0), (8, .p (.int .i64 s.2))], [(6, .arr 34 4 1 [.p (.agg [.int .i64 0, .int .i64 0, .str [], .int .i64 0])]), (7, .arr 34 4 1 [.p (encDrossref55_Result s.1)])]⟩) (fun (o_904 : Drossref55_Result) (e : Exit) (s' : St) => e = (.exit 0) ∧ Le ⟨Try.prog, Try.f30.ntmps, 0, X, [], fun _ => none, w⟩ s' ⟨[(0, .p (.slc (List.map encRow rows_833))), (6, .loc 6 1 0 0), (7, .loc 7 1 0 0)], [(6, .arr 34 4 1 [.p (.agg [.int .i64 0, .int .i64 0, .str [], .int .i64 0])]), (7, .arr 34 4 1 [.p (encDrossref55_Result o_904)])]⟩) (by intro o s hT; have hh := hT.1; cases hh) hL_900 (by simp only [go_sem, reduceIte, Nat.reduceAdd, Nat.reduceSub, Nat.reduceMul, Nat.reduceEqDiff, Nat.reduceLT, Nat.reduceLeDiff, Nat.reduceBEq, Int.reduceToNat, Int.reduceLT, Int.reduceLE, Int.reduceGT, Int.reduceGE, Int.reduceEq, Int.reduceBEq, Int.reduceBNe, Int.reduceNeg, reduceCtorEq]; all_goals ((repeat' refine And.intro ?_ ?_) <;> first | rfl | (simp; done) | (simp; rfl) | (simp [*]; done) | (simp [*]; rfl))) ?_ ?_
  · clear h
    intro s x h
    obtain ⟨out_852, i_853⟩ := s
    simp only [drossref55_Pick_l1] at h
    show AWp _ _ _ ⟨[(0, .p (.slc (List.map encRow rows_833))), (1, .p (.int .i64 attr_834)), (2, .p (.int .i64 rule_835)), (6, .loc 6 1 0 0), (7, .loc 7 1 0 0), (8, .p (.int .i64 i_853))], [(6, .arr 34 4 1 [.p (.agg [.int .i64 0, .int .i64 0, .str [], .int .i64 0])]), (7, .arr 34 4 1 [.p (encDrossref55_Result out_852)])]⟩
    refine awp_seq ?_
    refine awp_seq ?_
    refine awp_region ?_
    refine AL_upto (by exact rfl) (by simp only [go_sem, reduceIte, Nat.reduceAdd, Nat.reduceSub, Nat.reduceMul, Nat.reduceEqDiff, Nat.reduceLT, Nat.reduceLeDiff, Nat.reduceBEq, Int.reduceToNat, Int.reduceLT, Int.reduceLE, Int.reduceGT, Int.reduceGE, Int.reduceEq, Int.reduceBEq, Int.reduceBNe, Int.reduceNeg, reduceCtorEq]; exact rfl) ?_
    refine AL_nil ?_
    refine thenA_n ?_
    by_cases hb_877 : i_853 < (rows_833.length : Int)
    · rw [if_pos hb_877] at h
      have hb_877T := eq_true hb_877
      refine awp_ct (by simp only [go_sem, reduceIte, Nat.reduceAdd, Nat.reduceSub, Nat.reduceMul, Nat.reduceEqDiff, Nat.reduceLT, Nat.reduceLeDiff, Nat.reduceBEq, Int.reduceToNat, Int.reduceLT, Int.reduceLE, Int.reduceGT, Int.reduceGE, Int.reduceEq, Int.reduceBEq, Int.reduceBNe, Int.reduceNeg, reduceCtorEq, hb_877T]) ?_
      refine awp_skip ?_
      refine thenA_n ?_
      refine awp_seq ?_
      refine awp_block ?_
      refine awp_seq ?_
      refine awp_region ?_
      obtain ⟨x_882, hx_883, h⟩ := Option.bind_eq_some_iff.1 h
      obtain ⟨hx_883a, hx_883, hx_883b⟩ := idx_some hx_883
      have hx_883A := eq_true hx_883a
      have hx_883B := eq_true hx_883b
      obtain ⟨x_884, hx_885, h⟩ := Option.bind_eq_some_iff.1 h
      obtain ⟨hx_885a, hx_885, hx_885b⟩ := idx_some hx_885
      have hx_885A := eq_true hx_885a
      have hx_885B := eq_true hx_885b
      refine AL_upto (by exact rfl) (by simp only [go_sem, reduceIte, Nat.reduceAdd, Nat.reduceSub, Nat.reduceMul, Nat.reduceEqDiff, Nat.reduceLT, Nat.reduceLeDiff, Nat.reduceBEq, Int.reduceToNat, Int.reduceLT, Int.reduceLE, Int.reduceGT, Int.reduceGE, Int.reduceEq, Int.reduceBEq, Int.reduceBNe, Int.reduceNeg, reduceCtorEq, hb_877T, hx_883, hx_883A, hx_883B, hx_885, hx_885A, hx_885B]; exact rfl) ?_
      refine AL_nil ?_
      refine thenA_n ?_
      obtain ⟨o_891, hA_892, h⟩ := Option.bind_eq_some_iff.1 h
      refine awp_join (T := (fun (o_898 : Bool) (e : Exit) (s' : St) => e = .normal ∧ Le ⟨Try.prog, Try.f30.ntmps, 0, X, [], fun _ => none, w⟩ s' ⟨[(0, .p (.slc (List.map encRow rows_833))), (1, .p (.int .i64 attr_834)), (2, .p (.int .i64 rule_835)), (6, .loc 6 1 0 0), (7, .loc 7 1 0 0), (8, .p (.int .i64 i_853)), (9, .loc 9 1 0 0), (40, .p (.bool o_898))], [(6, .arr 34 4 1 [.p (.agg [.int .i64 0, .int .i64 0, .str [], .int .i64 0])]), (7, .arr 34 4 1 [.p (encDrossref55_Result out_852)]), (9, .arr 25 3 1 [.p (encValue x_884)])]⟩) o_891) ?_ ?_
      · replace h := hA_892
        clear hA_892
        refine awp_region ?_
        refine AL_upto (by exact rfl) (by simp only [go_sem, reduceIte, Nat.reduceAdd, Nat.reduceSub, Nat.reduceMul, Nat.reduceEqDiff, Nat.reduceLT, Nat.reduceLeDiff, Nat.reduceBEq, Int.reduceToNat, Int.reduceLT, Int.reduceLE, Int.reduceGT, Int.reduceGE, Int.reduceEq, Int.reduceBEq, Int.reduceBNe, Int.reduceNeg, reduceCtorEq, hb_877T]; exact rfl) ?_
        by_cases hb_893 : (x_884.Kind != 0) = true
        · rw [if_pos hb_893] at h
          refine AL_known (d := 27) (v := .p (.bool true)) (by simp only [go_sem, reduceIte, Nat.reduceAdd, Nat.reduceSub, Nat.reduceMul, Nat.reduceEqDiff, Nat.reduceLT, Nat.reduceLeDiff, Nat.reduceBEq, Int.reduceToNat, Int.reduceLT, Int.reduceLE, Int.reduceGT, Int.reduceGE, Int.reduceEq, Int.reduceBEq, Int.reduceBNe, Int.reduceNeg, reduceCtorEq, hb_877T, hb_893]) ?_
          refine AL_gt' (guard_true' rfl rfl (by exact rfl) (by exact rfl)) rfl (by simp only [go_sem, reduceIte, Nat.reduceAdd, Nat.reduceSub, Nat.reduceMul, Nat.reduceEqDiff, Nat.reduceLT, Nat.reduceLeDiff, Nat.reduceBEq, Int.reduceToNat, Int.reduceLT, Int.reduceLE, Int.reduceGT, Int.reduceGE, Int.reduceEq, Int.reduceBEq, Int.reduceBNe, Int.reduceNeg, reduceCtorEq, hb_877T, hb_893]; exact rfl) ?_
          refine AL_gt' (guard_true' rfl rfl (by exact rfl) (by exact rfl)) rfl (by simp only [go_sem, reduceIte, Nat.reduceAdd, Nat.reduceSub, Nat.reduceMul, Nat.reduceEqDiff, Nat.reduceLT, Nat.reduceLeDiff, Nat.reduceBEq, Int.reduceToNat, Int.reduceLT, Int.reduceLE, Int.reduceGT, Int.reduceGE, Int.reduceEq, Int.reduceBEq, Int.reduceBNe, Int.reduceNeg, reduceCtorEq, hb_877T, hb_893]; exact rfl) ?_
          refine AL_gt' (guard_true' rfl rfl (by exact rfl) (by exact rfl)) rfl (by simp only [go_sem, reduceIte, Nat.reduceAdd, Nat.reduceSub, Nat.reduceMul, Nat.reduceEqDiff, Nat.reduceLT, Nat.reduceLeDiff, Nat.reduceBEq, Int.reduceToNat, Int.reduceLT, Int.reduceLE, Int.reduceGT, Int.reduceGE, Int.reduceEq, Int.reduceBEq, Int.reduceBNe, Int.reduceNeg, reduceCtorEq, hb_877T, hb_893]; exact rfl) ?_
          refine AL_gt' (guard_true' rfl rfl (by exact rfl) (by exact rfl)) rfl (by simp only [go_sem, reduceIte, Nat.reduceAdd, Nat.reduceSub, Nat.reduceMul, Nat.reduceEqDiff, Nat.reduceLT, Nat.reduceLeDiff, Nat.reduceBEq, Int.reduceToNat, Int.reduceLT, Int.reduceLE, Int.reduceGT, Int.reduceGE, Int.reduceEq, Int.reduceBEq, Int.reduceBNe, Int.reduceNeg, reduceCtorEq, hb_877T, hb_893]; exact rfl) ?_
          by_cases hb_894 : (out_852.Origin == 0) = true
          · rw [if_pos hb_894] at h
            refine AL_known (d := 31) (v := .p (.bool true)) (by simp only [go_sem, reduceIte, Nat.reduceAdd, Nat.reduceSub, Nat.reduceMul, Nat.reduceEqDiff, Nat.reduceLT, Nat.reduceLeDiff, Nat.reduceBEq, Int.reduceToNat, Int.reduceLT, Int.reduceLE, Int.reduceGT, Int.reduceGE, Int.reduceEq, Int.reduceBEq, Int.reduceBNe, Int.reduceNeg, reduceCtorEq, hb_877T, hb_893, hb_894]) ?_
            refine AL_skips (by exact rfl) ?_
            refine AL_gt' (guard_true' rfl rfl (by exact rfl) (by exact rfl)) rfl (by simp only [go_sem, reduceIte, Nat.reduceAdd, Nat.reduceSub, Nat.reduceMul, Nat.reduceEqDiff, Nat.reduceLT, Nat.reduceLeDiff, Nat.reduceBEq, Int.reduceToNat, Int.reduceLT, Int.reduceLE, Int.reduceGT, Int.reduceGE, Int.reduceEq, Int.reduceBEq, Int.reduceBNe, Int.reduceNeg, reduceCtorEq, hb_877T, hb_893, hb_894]; exact rfl) ?_
            refine AL_upto (by exact rfl) (by simp only [go_sem, reduceIte, Nat.reduceAdd, Nat.reduceSub, Nat.reduceMul, Nat.reduceEqDiff, Nat.reduceLT, Nat.reduceLeDiff, Nat.reduceBEq, Int.reduceToNat, Int.reduceLT, Int.reduceLE, Int.reduceGT, Int.reduceGE, Int.reduceEq, Int.reduceBEq, Int.reduceBNe, Int.reduceNeg, reduceCtorEq, hb_877T, hb_893, hb_894]; exact rfl) ?_
            refine AL_nil ?_
            cases h
            refine ⟨rfl, ?_⟩
            simp only [go_sem, reduceIte, Nat.reduceAdd, Nat.reduceSub, Nat.reduceMul, Nat.reduceEqDiff, Nat.reduceLT, Nat.reduceLeDiff, Nat.reduceBEq, Int.reduceToNat, Int.reduceLT, Int.reduceLE, Int.reduceGT, Int.reduceGE, Int.reduceEq, Int.reduceBEq, Int.reduceBNe, Int.reduceNeg, reduceCtorEq, hb_877T, hb_893, hb_894]
            all_goals ((repeat' refine And.intro ?_ ?_) <;> first | rfl | (simp; done) | (simp; rfl) | (simp [*]; done) | (simp [*]; rfl))
          · rw [if_neg hb_894] at h
            have hb_894F := Bool.eq_false_iff.2 hb_894
            refine AL_known (d := 31) (v := .p (.bool false)) (by simp only [go_sem, reduceIte, Nat.reduceAdd, Nat.reduceSub, Nat.reduceMul, Nat.reduceEqDiff, Nat.reduceLT, Nat.reduceLeDiff, Nat.reduceBEq, Int.reduceToNat, Int.reduceLT, Int.reduceLE, Int.reduceGT, Int.reduceGE, Int.reduceEq, Int.reduceBEq, Int.reduceBNe, Int.reduceNeg, reduceCtorEq, hb_877T, hb_893, hb_894F]) ?_
            refine AL_gt' (guard_true' rfl rfl (by exact rfl) (by exact rfl)) rfl (by simp only [go_sem, reduceIte, Nat.reduceAdd, Nat.reduceSub, Nat.reduceMul, Nat.reduceEqDiff, Nat.reduceLT, Nat.reduceLeDiff, Nat.reduceBEq, Int.reduceToNat, Int.reduceLT, Int.reduceLE, Int.reduceGT, Int.reduceGE, Int.reduceEq, Int.reduceBEq, Int.reduceBNe, Int.reduceNeg, reduceCtorEq, hb_877T, hb_893, hb_894F]; exact rfl) ?_
            refine AL_gt' (guard_true' rfl rfl (by exact rfl) (by exact rfl)) rfl (by simp only [go_sem, reduceIte, Nat.reduceAdd, Nat.reduceSub, Nat.reduceMul, Nat.reduceEqDiff, Nat.reduceLT, Nat.reduceLeDiff, Nat.reduceBEq, Int.reduceToNat, Int.reduceLT, Int.reduceLE, Int.reduceGT, Int.reduceGE, Int.reduceEq, Int.reduceBEq, Int.reduceBNe, Int.reduceNeg, reduceCtorEq, hb_877T, hb_893, hb_894F]; exact rfl) ?_
            refine AL_gt' (guard_true' rfl rfl (by exact rfl) (by exact rfl)) rfl (by simp only [go_sem, reduceIte, Nat.reduceAdd, Nat.reduceSub, Nat.reduceMul, Nat.reduceEqDiff, Nat.reduceLT, Nat.reduceLeDiff, Nat.reduceBEq, Int.reduceToNat, Int.reduceLT, Int.reduceLE, Int.reduceGT, Int.reduceGE, Int.reduceEq, Int.reduceBEq, Int.reduceBNe, Int.reduceNeg, reduceCtorEq, hb_877T, hb_893, hb_894F]; exact rfl) ?_
            refine AL_gt' (guard_true' rfl rfl (by exact rfl) (by exact rfl)) rfl (by simp only [go_sem, reduceIte, Nat.reduceAdd, Nat.reduceSub, Nat.reduceMul, Nat.reduceEqDiff, Nat.reduceLT, Nat.reduceLeDiff, Nat.reduceBEq, Int.reduceToNat, Int.reduceLT, Int.reduceLE, Int.reduceGT, Int.reduceGE, Int.reduceEq, Int.reduceBEq, Int.reduceBNe, Int.reduceNeg, reduceCtorEq, hb_877T, hb_893, hb_894F]; exact rfl) ?_
            refine AL_gt' (guard_true' rfl rfl (by exact rfl) (by exact rfl)) rfl (by simp only [go_sem, reduceIte, Nat.reduceAdd, Nat.reduceSub, Nat.reduceMul, Nat.reduceEqDiff, Nat.reduceLT, Nat.reduceLeDiff, Nat.reduceBEq, Int.reduceToNat, Int.reduceLT, Int.reduceLE, Int.reduceGT, Int.reduceGE, Int.reduceEq, Int.reduceBEq, Int.reduceBNe, Int.reduceNeg, reduceCtorEq, hb_877T, hb_893, hb_894F]; exact rfl) ?_
            refine AL_gt' (guard_true' rfl rfl (by exact rfl) (by exact rfl)) rfl (by simp only [go_sem, reduceIte, Nat.reduceAdd, Nat.reduceSub, Nat.reduceMul, Nat.reduceEqDiff, Nat.reduceLT, Nat.reduceLeDiff, Nat.reduceBEq, Int.reduceToNat, Int.reduceLT, Int.reduceLE, Int.reduceGT, Int.reduceGE, Int.reduceEq, Int.reduceBEq, Int.reduceBNe, Int.reduceNeg, reduceCtorEq, hb_877T, hb_893, hb_894F]; exact rfl) ?_
            obtain ⟨r_895, hr_896, h⟩ := Option.bind_eq_some_iff.1 h
            refine AL_con' rfl (guard_true' rfl rfl (by exact rfl) (by exact rfl)) rfl (by simp only [go_sem, reduceIte, Nat.reduceAdd, Nat.reduceSub, Nat.reduceMul, Nat.reduceEqDiff, Nat.reduceLT, Nat.reduceLeDiff, Nat.reduceBEq, Int.reduceToNat, Int.reduceLT, Int.reduceLE, Int.reduceGT, Int.reduceGE, Int.reduceEq, Int.reduceBEq, Int.reduceBNe, Int.reduceNeg, reduceCtorEq, hb_877T, hb_893, hb_894F]; exact rfl) (by simp only [go_sem, reduceIte, Nat.reduceAdd, Nat.reduceSub, Nat.reduceMul, Nat.reduceEqDiff, Nat.reduceLT, Nat.reduceLeDiff, Nat.reduceBEq, Int.reduceToNat, Int.reduceLT, Int.reduceLE, Int.reduceGT, Int.reduceGE, Int.reduceEq, Int.reduceBEq, Int.reduceBNe, Int.reduceNeg, reduceCtorEq, hb_877T, hb_893, hb_894F]; all_goals ((repeat' refine And.intro ?_ ?_) <;> first | rfl | (simp; done) | (simp; rfl) | (simp [*]; done) | (simp [*]; rfl))) (drossref55_better_con rows_833 attr_834 rule_835 x_884 out_852.Value _ hr_896) (.inr rfl) rfl ?_
            refine AL_gt' (guard_true' rfl rfl (by exact rfl) (by exact rfl)) rfl (by simp only [go_sem, reduceIte, Nat.reduceAdd, Nat.reduceSub, Nat.reduceMul, Nat.reduceEqDiff, Nat.reduceLT, Nat.reduceLeDiff, Nat.reduceBEq, Int.reduceToNat, Int.reduceLT, Int.reduceLE, Int.reduceGT, Int.reduceGE, Int.reduceEq, Int.reduceBEq, Int.reduceBNe, Int.reduceNeg, reduceCtorEq, hb_877T, hb_893, hb_894F]; exact rfl) ?_
            refine AL_upto (by exact rfl) (by simp only [go_sem, reduceIte, Nat.reduceAdd, Nat.reduceSub, Nat.reduceMul, Nat.reduceEqDiff, Nat.reduceLT, Nat.reduceLeDiff, Nat.reduceBEq, Int.reduceToNat, Int.reduceLT, Int.reduceLE, Int.reduceGT, Int.reduceGE, Int.reduceEq, Int.reduceBEq, Int.reduceBNe, Int.reduceNeg, reduceCtorEq, hb_877T, hb_893, hb_894F]; exact rfl) ?_
            refine AL_nil ?_
            cases h
            refine ⟨rfl, ?_⟩
            simp only [go_sem, reduceIte, Nat.reduceAdd, Nat.reduceSub, Nat.reduceMul, Nat.reduceEqDiff, Nat.reduceLT, Nat.reduceLeDiff, Nat.reduceBEq, Int.reduceToNat, Int.reduceLT, Int.reduceLE, Int.reduceGT, Int.reduceGE, Int.reduceEq, Int.reduceBEq, Int.reduceBNe, Int.reduceNeg, reduceCtorEq, hb_877T, hb_893, hb_894F]
            all_goals ((repeat' refine And.intro ?_ ?_) <;> first | rfl | (simp; done) | (simp; rfl) | (simp [*]; done) | (simp [*]; rfl))
        · rw [if_neg hb_893] at h
          have hb_893F := Bool.eq_false_iff.2 hb_893
          refine AL_known (d := 27) (v := .p (.bool false)) (by simp only [go_sem, reduceIte, Nat.reduceAdd, Nat.reduceSub, Nat.reduceMul, Nat.reduceEqDiff, Nat.reduceLT, Nat.reduceLeDiff, Nat.reduceBEq, Int.reduceToNat, Int.reduceLT, Int.reduceLE, Int.reduceGT, Int.reduceGE, Int.reduceEq, Int.reduceBEq, Int.reduceBNe, Int.reduceNeg, reduceCtorEq, hb_877T, hb_893F]) ?_
          refine AL_skips (by exact rfl) ?_
          refine AL_upto (by exact rfl) (by simp only [go_sem, reduceIte, Nat.reduceAdd, Nat.reduceSub, Nat.reduceMul, Nat.reduceEqDiff, Nat.reduceLT, Nat.reduceLeDiff, Nat.reduceBEq, Int.reduceToNat, Int.reduceLT, Int.reduceLE, Int.reduceGT, Int.reduceGE, Int.reduceEq, Int.reduceBEq, Int.reduceBNe, Int.reduceNeg, reduceCtorEq, hb_877T, hb_893F]; exact rfl) ?_
          refine AL_nil ?_
          cases h
          refine ⟨rfl, ?_⟩
          simp only [go_sem, reduceIte, Nat.reduceAdd, Nat.reduceSub, Nat.reduceMul, Nat.reduceEqDiff, Nat.reduceLT, Nat.reduceLeDiff, Nat.reduceBEq, Int.reduceToNat, Int.reduceLT, Int.reduceLE, Int.reduceGT, Int.reduceGE, Int.reduceEq, Int.reduceBEq, Int.reduceBNe, Int.reduceNeg, reduceCtorEq, hb_877T, hb_893F]
          all_goals ((repeat' refine And.intro ?_ ?_) <;> first | rfl | (simp; done) | (simp; rfl) | (simp [*]; done) | (simp [*]; rfl))
      · intro e s' hT
        obtain ⟨t40_890, rfl⟩ : ∃ z, z = o_891 := ⟨_, rfl⟩
        try simp only at h
        try simp only at hT
        obtain ⟨rfl, hle⟩ := hT
        refine Wk.to hle ?_
        clear hle
        refine thenA_n ?_
        by_cases hb_897 : t40_890 = true
        · rw [if_pos hb_897] at h
          refine awp_ct (by simp only [go_sem, reduceIte, Nat.reduceAdd, Nat.reduceSub, Nat.reduceMul, Nat.reduceEqDiff, Nat.reduceLT, Nat.reduceLeDiff, Nat.reduceBEq, Int.reduceToNat, Int.reduceLT, Int.reduceLE, Int.reduceGT, Int.reduceGE, Int.reduceEq, Int.reduceBEq, Int.reduceBNe, Int.reduceNeg, reduceCtorEq, hb_877T, hb_897]) ?_
          refine awp_drawn_walk mixed (by decide) ?_
          refine DGo.upto (by exact rfl) (by simp only [go_sem, reduceIte, Nat.reduceAdd, Nat.reduceSub, Nat.reduceMul, Nat.reduceEqDiff, Nat.reduceLT, Nat.reduceLeDiff, Nat.reduceBEq, Int.reduceToNat, Int.reduceLT, Int.reduceLE, Int.reduceGT, Int.reduceGE, Int.reduceEq, Int.reduceBEq, Int.reduceBNe, Int.reduceNeg, reduceCtorEq, hb_877T, hb_897, hx_883, hx_883A, hx_883B]; exact ⟨rfl, rfl⟩) ?_
          refine DGo.fin rfl ?_
          refine blockA_n ?_
          refine thenA_n ?_
          refine awp_region ?_
          refine AL_upto (by exact rfl) (by simp only [go_sem, reduceIte, Nat.reduceAdd, Nat.reduceSub, Nat.reduceMul, Nat.reduceEqDiff, Nat.reduceLT, Nat.reduceLeDiff, Nat.reduceBEq, Int.reduceToNat, Int.reduceLT, Int.reduceLE, Int.reduceGT, Int.reduceGE, Int.reduceEq, Int.reduceBEq, Int.reduceBNe, Int.reduceNeg, reduceCtorEq, hb_877T, hb_897]; exact rfl) ?_
          refine AL_nil ?_
          cases h
          refine ⟨rfl, ?_⟩
          simp only [go_sem, reduceIte, Nat.reduceAdd, Nat.reduceSub, Nat.reduceMul, Nat.reduceEqDiff, Nat.reduceLT, Nat.reduceLeDiff, Nat.reduceBEq, Int.reduceToNat, Int.reduceLT, Int.reduceLE, Int.reduceGT, Int.reduceGE, Int.reduceEq, Int.reduceBEq, Int.reduceBNe, Int.reduceNeg, reduceCtorEq, hb_877T, hb_897]
          all_goals ((repeat' refine And.intro ?_ ?_) <;> first | rfl | (simp; done) | (simp; rfl) | (simp [*]; done) | (simp [*]; rfl))
        · rw [if_neg hb_897] at h
          have hb_897F := Bool.eq_false_iff.2 hb_897
          refine awp_cf (by simp only [go_sem, reduceIte, Nat.reduceAdd, Nat.reduceSub, Nat.reduceMul, Nat.reduceEqDiff, Nat.reduceLT, Nat.reduceLeDiff, Nat.reduceBEq, Int.reduceToNat, Int.reduceLT, Int.reduceLE, Int.reduceGT, Int.reduceGE, Int.reduceEq, Int.reduceBEq, Int.reduceBNe, Int.reduceNeg, reduceCtorEq, hb_877T, hb_897F]) ?_
          refine awp_skip ?_
          refine blockA_n ?_
          refine thenA_n ?_
          refine awp_region ?_
          refine AL_upto (by exact rfl) (by simp only [go_sem, reduceIte, Nat.reduceAdd, Nat.reduceSub, Nat.reduceMul, Nat.reduceEqDiff, Nat.reduceLT, Nat.reduceLeDiff, Nat.reduceBEq, Int.reduceToNat, Int.reduceLT, Int.reduceLE, Int.reduceGT, Int.reduceGE, Int.reduceEq, Int.reduceBEq, Int.reduceBNe, Int.reduceNeg, reduceCtorEq, hb_877T, hb_897F]; exact rfl) ?_
          refine AL_nil ?_
          cases h
          refine ⟨rfl, ?_⟩
          simp only [go_sem, reduceIte, Nat.reduceAdd, Nat.reduceSub, Nat.reduceMul, Nat.reduceEqDiff, Nat.reduceLT, Nat.reduceLeDiff, Nat.reduceBEq, Int.reduceToNat, Int.reduceLT, Int.reduceLE, Int.reduceGT, Int.reduceGE, Int.reduceEq, Int.reduceBEq, Int.reduceBNe, Int.reduceNeg, reduceCtorEq, hb_877T, hb_897F]
          all_goals ((repeat' refine And.intro ?_ ?_) <;> first | rfl | (simp; done) | (simp; rfl) | (simp [*]; done) | (simp [*]; rfl))
    · rw [if_neg hb_877] at h
      have hb_877T := eq_false hb_877
      refine awp_cf (by simp only [go_sem, reduceIte, Nat.reduceAdd, Nat.reduceSub, Nat.reduceMul, Nat.reduceEqDiff, Nat.reduceLT, Nat.reduceLeDiff, Nat.reduceBEq, Int.reduceToNat, Int.reduceLT, Int.reduceLE, Int.reduceGT, Int.reduceGE, Int.reduceEq, Int.reduceBEq, Int.reduceBNe, Int.reduceNeg, reduceCtorEq, hb_877T]) ?_
      refine awp_exit ?_
      refine thenA_exit ?_
      cases h
      refine ⟨rfl, ?_⟩
      simp only [go_sem, reduceIte, Nat.reduceAdd, Nat.reduceSub, Nat.reduceMul, Nat.reduceEqDiff, Nat.reduceLT, Nat.reduceLeDiff, Nat.reduceBEq, Int.reduceToNat, Int.reduceLT, Int.reduceLE, Int.reduceGT, Int.reduceGE, Int.reduceEq, Int.reduceBEq, Int.reduceBNe, Int.reduceNeg, reduceCtorEq, hb_877T]
      all_goals ((repeat' refine And.intro ?_ ?_) <;> first | rfl | (simp; done) | (simp; rfl) | (simp [*]; done) | (simp [*]; rfl))
  · intro e s' hT
    obtain ⟨out_876, rfl⟩ : ∃ z, z = o_899 := ⟨_, rfl⟩
    try simp only at h
    try simp only at hT
    obtain ⟨rfl, hle⟩ := hT
    refine Wk.to hle ?_
    clear hle
    refine blockA_here ?_
    refine thenA_n ?_
    refine awp_seq ?_
    refine awp_seq ?_
    refine awp_region ?_
    refine AL_upto (by exact rfl) (by simp only [go_sem, reduceIte, Nat.reduceAdd, Nat.reduceSub, Nat.reduceMul, Nat.reduceEqDiff, Nat.reduceLT, Nat.reduceLeDiff, Nat.reduceBEq, Int.reduceToNat, Int.reduceLT, Int.reduceLE, Int.reduceGT, Int.reduceGE, Int.reduceEq, Int.reduceBEq, Int.reduceBNe, Int.reduceNeg, reduceCtorEq]; exact rfl) ?_
    refine AL_nil ?_
    refine thenA_n ?_
    by_cases hb_901 : (out_876.Origin == 0) = true
    · rw [if_pos hb_901] at h
      refine awp_ct (by simp only [go_sem, reduceIte, Nat.reduceAdd, Nat.reduceSub, Nat.reduceMul, Nat.reduceEqDiff, Nat.reduceLT, Nat.reduceLeDiff, Nat.reduceBEq, Int.reduceToNat, Int.reduceLT, Int.reduceLE, Int.reduceGT, Int.reduceGE, Int.reduceEq, Int.reduceBEq, Int.reduceBNe, Int.reduceNeg, reduceCtorEq, hb_901]) ?_
      refine awp_region ?_
      obtain ⟨x_902, hx_903, h⟩ := Option.bind_eq_some_iff.1 h
      have hx_903l := eq_true (lt_of_get hx_903)
      have hx_903L : ((0 : Int) < (rows_833.length : Int)) = True := eq_true (by have := lt_of_get hx_903; omega)
      refine AL_upto (by exact rfl) (by simp only [go_sem, reduceIte, Nat.reduceAdd, Nat.reduceSub, Nat.reduceMul, Nat.reduceEqDiff, Nat.reduceLT, Nat.reduceLeDiff, Nat.reduceBEq, Int.reduceToNat, Int.reduceLT, Int.reduceLE, Int.reduceGT, Int.reduceGE, Int.reduceEq, Int.reduceBEq, Int.reduceBNe, Int.reduceNeg, reduceCtorEq, hb_901, hx_903, hx_903l, hx_903L]; exact rfl) ?_
      refine AL_nil ?_
      refine thenA_n ?_
      refine awp_seq ?_
      refine awp_region ?_
      refine AL_upto (by exact rfl) (by simp only [go_sem, reduceIte, Nat.reduceAdd, Nat.reduceSub, Nat.reduceMul, Nat.reduceEqDiff, Nat.reduceLT, Nat.reduceLeDiff, Nat.reduceBEq, Int.reduceToNat, Int.reduceLT, Int.reduceLE, Int.reduceGT, Int.reduceGE, Int.reduceEq, Int.reduceBEq, Int.reduceBNe, Int.reduceNeg, reduceCtorEq, hb_901]; exact rfl) ?_
      refine AL_nil ?_
      refine thenA_n ?_
      refine awp_ret ?_
      cases h
      refine retQ_ret (by simp only [Try.results30]; simp only [go_sem, reduceIte, Nat.reduceAdd, Nat.reduceSub, Nat.reduceMul, Nat.reduceEqDiff, Nat.reduceLT, Nat.reduceLeDiff, Nat.reduceBEq, Int.reduceToNat, Int.reduceLT, Int.reduceLE, Int.reduceGT, Int.reduceGE, Int.reduceEq, Int.reduceBEq, Int.reduceBNe, Int.reduceNeg, reduceCtorEq, hb_901]; exact rfl) ?_
      simp only [go_sem, reduceIte, Nat.reduceAdd, Nat.reduceSub, Nat.reduceMul, Nat.reduceEqDiff, Nat.reduceLT, Nat.reduceLeDiff, Nat.reduceBEq, Int.reduceToNat, Int.reduceLT, Int.reduceLE, Int.reduceGT, Int.reduceGE, Int.reduceEq, Int.reduceBEq, Int.reduceBNe, Int.reduceNeg, reduceCtorEq, hb_901]
      all_goals ((repeat' refine And.intro ?_ ?_) <;> first | rfl | (simp; done) | (simp; rfl) | (simp [*]; done) | (simp [*]; rfl))
    · rw [if_neg hb_901] at h
      have hb_901F := Bool.eq_false_iff.2 hb_901
      refine awp_cf (by simp only [go_sem, reduceIte, Nat.reduceAdd, Nat.reduceSub, Nat.reduceMul, Nat.reduceEqDiff, Nat.reduceLT, Nat.reduceLeDiff, Nat.reduceBEq, Int.reduceToNat, Int.reduceLT, Int.reduceLE, Int.reduceGT, Int.reduceGE, Int.reduceEq, Int.reduceBEq, Int.reduceBNe, Int.reduceNeg, reduceCtorEq, hb_901F]) ?_
      refine awp_skip ?_
      refine thenA_n ?_
      refine awp_seq ?_
      refine awp_region ?_
      refine AL_upto (by exact rfl) (by simp only [go_sem, reduceIte, Nat.reduceAdd, Nat.reduceSub, Nat.reduceMul, Nat.reduceEqDiff, Nat.reduceLT, Nat.reduceLeDiff, Nat.reduceBEq, Int.reduceToNat, Int.reduceLT, Int.reduceLE, Int.reduceGT, Int.reduceGE, Int.reduceEq, Int.reduceBEq, Int.reduceBNe, Int.reduceNeg, reduceCtorEq, hb_901F]; exact rfl) ?_
      refine AL_nil ?_
      refine thenA_n ?_
      refine awp_ret ?_
      cases h
      refine retQ_ret (by simp only [Try.results30]; simp only [go_sem, reduceIte, Nat.reduceAdd, Nat.reduceSub, Nat.reduceMul, Nat.reduceEqDiff, Nat.reduceLT, Nat.reduceLeDiff, Nat.reduceBEq, Int.reduceToNat, Int.reduceLT, Int.reduceLE, Int.reduceGT, Int.reduceGE, Int.reduceEq, Int.reduceBEq, Int.reduceBNe, Int.reduceNeg, reduceCtorEq, hb_901F]; exact rfl) ?_
      simp only [go_sem, reduceIte, Nat.reduceAdd, Nat.reduceSub, Nat.reduceMul, Nat.reduceEqDiff, Nat.reduceLT, Nat.reduceLeDiff, Nat.reduceBEq, Int.reduceToNat, Int.reduceLT, Int.reduceLE, Int.reduceGT, Int.reduceGE, Int.reduceEq, Int.reduceBEq, Int.reduceBNe, Int.reduceNeg, reduceCtorEq, hb_901F]
      all_goals ((repeat' refine And.intro ?_ ?_) <;> first | rfl | (simp; done) | (simp; rfl) | (simp [*]; done) | (simp [*]; rfl))
end Go.Proofs.Ytdmddoljldjjeaa
set_option linter.unusedVariables false
set_option linter.unusedSimpArgs false
namespace Go.Proofs.Ytdmddoljldjjeaa
open Go Go.Ab
set_option maxHeartbeats 4000000 in
theorem drossref55_Choose_con (rows_906 : List Row) (attr_907 : Int) (rule_908 : Int) (r_927 : Drossref55_Result × Int) (h : drossref55_Choose rows_906 attr_907 rule_908 = some r_927) : Con Try.prog 10 [(.slc (List.map encRow rows_906)), (.int .i64 attr_907), (.int .i64 rule_908)] (.tup [(encDrossref55_Result r_927.1), (.int .i64 r_927.2)]) := by
  refine ⟨Try.call10, ?_⟩
  refine pure_of_awp Try.func10 rfl Try.ntmps10 (by simp) fun X w => ?_
  show AWp _ _ _ ⟨[(0, .p (.slc (List.map encRow rows_906))), (1, .p (.int .i64 attr_907)), (2, .p (.int .i64 rule_908))], []⟩
  simp only [drossref55_Choose] at h
  refine awp_seq ?_
  refine awp_region ?_
  refine AL_upto (by exact rfl) (by simp only [go_sem, reduceIte, Nat.reduceAdd, Nat.reduceSub, Nat.reduceMul, Nat.reduceEqDiff, Nat.reduceLT, Nat.reduceLeDiff, Nat.reduceBEq, Int.reduceToNat, Int.reduceLT, Int.reduceLE, Int.reduceGT, Int.reduceGE, Int.reduceEq, Int.reduceBEq, Int.reduceBNe, Int.reduceNeg, reduceCtorEq]; exact rfl) ?_
  refine AL_nil ?_
  refine thenA_n ?_
  refine awp_seq ?_
  refine awp_seq ?_
  refine awp_region ?_
  refine AL_upto (by exact rfl) (by simp only [go_sem, reduceIte, Nat.reduceAdd, Nat.reduceSub, Nat.reduceMul, Nat.reduceEqDiff, Nat.reduceLT, Nat.reduceLeDiff, Nat.reduceBEq, Int.reduceToNat, Int.reduceLT, Int.reduceLE, Int.reduceGT, Int.reduceGE, Int.reduceEq, Int.reduceBEq, Int.reduceBNe, Int.reduceNeg, reduceCtorEq]; exact rfl) ?_
  obtain ⟨r_911, hr_912, h⟩ := Option.bind_eq_some_iff.1 h
  refine AL_con' rfl (guard_none rfl) rfl (by simp only [go_sem, reduceIte, Nat.reduceAdd, Nat.reduceSub, Nat.reduceMul, Nat.reduceEqDiff, Nat.reduceLT, Nat.reduceLeDiff, Nat.reduceBEq, Int.reduceToNat, Int.reduceLT, Int.reduceLE, Int.reduceGT, Int.reduceGE, Int.reduceEq, Int.reduceBEq, Int.reduceBNe, Int.reduceNeg, reduceCtorEq]; exact rfl) (by simp only [go_sem, reduceIte, Nat.reduceAdd, Nat.reduceSub, Nat.reduceMul, Nat.reduceEqDiff, Nat.reduceLT, Nat.reduceLeDiff, Nat.reduceBEq, Int.reduceToNat, Int.reduceLT, Int.reduceLE, Int.reduceGT, Int.reduceGE, Int.reduceEq, Int.reduceBEq, Int.reduceBNe, Int.reduceNeg, reduceCtorEq]; all_goals ((repeat' refine And.intro ?_ ?_) <;> first | rfl | (simp; done) | (simp; rfl) | (simp [*]; done) | (simp [*]; rfl))) (drossref55_rowsError_con rows_906 _ hr_912) (.inr rfl) rfl ?_
  refine AL_upto (by exact rfl) (by simp only [go_sem, reduceIte, Nat.reduceAdd, Nat.reduceSub, Nat.reduceMul, Nat.reduceEqDiff, Nat.reduceLT, Nat.reduceLeDiff, Nat.reduceBEq, Int.reduceToNat, Int.reduceLT, Int.reduceLE, Int.reduceGT, Int.reduceGE, Int.reduceEq, Int.reduceBEq, Int.reduceBNe, Int.reduceNeg, reduceCtorEq]; exact rfl) ?_
  refine AL_nil ?_
  refine thenA_n ?_
  refine awp_seq ?_
  refine awp_region ?_
  refine AL_upto (by exact rfl) (by simp only [go_sem, reduceIte, Nat.reduceAdd, Nat.reduceSub, Nat.reduceMul, Nat.reduceEqDiff, Nat.reduceLT, Nat.reduceLeDiff, Nat.reduceBEq, Int.reduceToNat, Int.reduceLT, Int.reduceLE, Int.reduceGT, Int.reduceGE, Int.reduceEq, Int.reduceBEq, Int.reduceBNe, Int.reduceNeg, reduceCtorEq]; exact rfl) ?_
  refine AL_nil ?_
  refine thenA_n ?_
  by_cases hb_913 : (r_911 != 0) = true
  · rw [if_pos hb_913] at h
    refine awp_ct (by simp only [go_sem, reduceIte, Nat.reduceAdd, Nat.reduceSub, Nat.reduceMul, Nat.reduceEqDiff, Nat.reduceLT, Nat.reduceLeDiff, Nat.reduceBEq, Int.reduceToNat, Int.reduceLT, Int.reduceLE, Int.reduceGT, Int.reduceGE, Int.reduceEq, Int.reduceBEq, Int.reduceBNe, Int.reduceNeg, reduceCtorEq, hb_913]) ?_
    refine awp_seq ?_
    refine awp_region ?_
    refine AL_upto (by exact rfl) (by simp only [go_sem, reduceIte, Nat.reduceAdd, Nat.reduceSub, Nat.reduceMul, Nat.reduceEqDiff, Nat.reduceLT, Nat.reduceLeDiff, Nat.reduceBEq, Int.reduceToNat, Int.reduceLT, Int.reduceLE, Int.reduceGT, Int.reduceGE, Int.reduceEq, Int.reduceBEq, Int.reduceBNe, Int.reduceNeg, reduceCtorEq, hb_913]; exact rfl) ?_
    refine AL_nil ?_
    refine thenA_n ?_
    refine awp_ret ?_
    refine thenA_ret ?_
    cases h
    refine retQ_ret (by simp only [Try.results10]; simp only [go_sem, reduceIte, Nat.reduceAdd, Nat.reduceSub, Nat.reduceMul, Nat.reduceEqDiff, Nat.reduceLT, Nat.reduceLeDiff, Nat.reduceBEq, Int.reduceToNat, Int.reduceLT, Int.reduceLE, Int.reduceGT, Int.reduceGE, Int.reduceEq, Int.reduceBEq, Int.reduceBNe, Int.reduceNeg, reduceCtorEq, hb_913]; exact rfl) ?_
    simp only [go_sem, reduceIte, Nat.reduceAdd, Nat.reduceSub, Nat.reduceMul, Nat.reduceEqDiff, Nat.reduceLT, Nat.reduceLeDiff, Nat.reduceBEq, Int.reduceToNat, Int.reduceLT, Int.reduceLE, Int.reduceGT, Int.reduceGE, Int.reduceEq, Int.reduceBEq, Int.reduceBNe, Int.reduceNeg, reduceCtorEq, hb_913]
    all_goals ((repeat' refine And.intro ?_ ?_) <;> first | rfl | (simp; done) | (simp; rfl) | (simp [*]; done) | (simp [*]; rfl))
  · rw [if_neg hb_913] at h
    have hb_913F := Bool.eq_false_iff.2 hb_913
    refine awp_cf (by simp only [go_sem, reduceIte, Nat.reduceAdd, Nat.reduceSub, Nat.reduceMul, Nat.reduceEqDiff, Nat.reduceLT, Nat.reduceLeDiff, Nat.reduceBEq, Int.reduceToNat, Int.reduceLT, Int.reduceLE, Int.reduceGT, Int.reduceGE, Int.reduceEq, Int.reduceBEq, Int.reduceBNe, Int.reduceNeg, reduceCtorEq, hb_913F]) ?_
    refine awp_skip ?_
    refine thenA_n ?_
    refine awp_seq ?_
    refine awp_seq ?_
    refine awp_region ?_
    refine AL_upto (by exact rfl) (by simp only [go_sem, reduceIte, Nat.reduceAdd, Nat.reduceSub, Nat.reduceMul, Nat.reduceEqDiff, Nat.reduceLT, Nat.reduceLeDiff, Nat.reduceBEq, Int.reduceToNat, Int.reduceLT, Int.reduceLE, Int.reduceGT, Int.reduceGE, Int.reduceEq, Int.reduceBEq, Int.reduceBNe, Int.reduceNeg, reduceCtorEq, hb_913F]; exact rfl) ?_
    by_cases hb_914 : attr_907 < 0
    · rw [if_pos hb_914] at h
      have hb_914T := eq_true hb_914
      refine AL_known (d := 17) (v := .p (.bool true)) (by simp only [go_sem, reduceIte, Nat.reduceAdd, Nat.reduceSub, Nat.reduceMul, Nat.reduceEqDiff, Nat.reduceLT, Nat.reduceLeDiff, Nat.reduceBEq, Int.reduceToNat, Int.reduceLT, Int.reduceLE, Int.reduceGT, Int.reduceGE, Int.reduceEq, Int.reduceBEq, Int.reduceBNe, Int.reduceNeg, reduceCtorEq, hb_913F, hb_914T]) ?_
      refine AL_skips (by exact rfl) ?_
      refine AL_upto (by exact rfl) (by simp only [go_sem, reduceIte, Nat.reduceAdd, Nat.reduceSub, Nat.reduceMul, Nat.reduceEqDiff, Nat.reduceLT, Nat.reduceLeDiff, Nat.reduceBEq, Int.reduceToNat, Int.reduceLT, Int.reduceLE, Int.reduceGT, Int.reduceGE, Int.reduceEq, Int.reduceBEq, Int.reduceBNe, Int.reduceNeg, reduceCtorEq, hb_913F, hb_914T]; exact rfl) ?_
      refine AL_nil ?_
      refine thenA_n ?_
      refine awp_ct (by simp only [go_sem, reduceIte, Nat.reduceAdd, Nat.reduceSub, Nat.reduceMul, Nat.reduceEqDiff, Nat.reduceLT, Nat.reduceLeDiff, Nat.reduceBEq, Int.reduceToNat, Int.reduceLT, Int.reduceLE, Int.reduceGT, Int.reduceGE, Int.reduceEq, Int.reduceBEq, Int.reduceBNe, Int.reduceNeg, reduceCtorEq, hb_913F, hb_914T]) ?_
      refine awp_seq ?_
      refine awp_region ?_
      refine AL_upto (by exact rfl) (by simp only [go_sem, reduceIte, Nat.reduceAdd, Nat.reduceSub, Nat.reduceMul, Nat.reduceEqDiff, Nat.reduceLT, Nat.reduceLeDiff, Nat.reduceBEq, Int.reduceToNat, Int.reduceLT, Int.reduceLE, Int.reduceGT, Int.reduceGE, Int.reduceEq, Int.reduceBEq, Int.reduceBNe, Int.reduceNeg, reduceCtorEq, hb_913F, hb_914T]; exact rfl) ?_
      refine AL_nil ?_
      refine thenA_n ?_
      refine awp_ret ?_
      refine thenA_ret ?_
      cases h
      refine retQ_ret (by simp only [Try.results10]; simp only [go_sem, reduceIte, Nat.reduceAdd, Nat.reduceSub, Nat.reduceMul, Nat.reduceEqDiff, Nat.reduceLT, Nat.reduceLeDiff, Nat.reduceBEq, Int.reduceToNat, Int.reduceLT, Int.reduceLE, Int.reduceGT, Int.reduceGE, Int.reduceEq, Int.reduceBEq, Int.reduceBNe, Int.reduceNeg, reduceCtorEq, hb_913F, hb_914T]; exact rfl) ?_
      simp only [go_sem, reduceIte, Nat.reduceAdd, Nat.reduceSub, Nat.reduceMul, Nat.reduceEqDiff, Nat.reduceLT, Nat.reduceLeDiff, Nat.reduceBEq, Int.reduceToNat, Int.reduceLT, Int.reduceLE, Int.reduceGT, Int.reduceGE, Int.reduceEq, Int.reduceBEq, Int.reduceBNe, Int.reduceNeg, reduceCtorEq, hb_913F, hb_914T]
      all_goals ((repeat' refine And.intro ?_ ?_) <;> first | rfl | (simp; done) | (simp; rfl) | (simp [*]; done) | (simp [*]; rfl))
    · rw [if_neg hb_914] at h
      have hb_914T := eq_false hb_914
      refine AL_known (d := 17) (v := .p (.bool false)) (by simp only [go_sem, reduceIte, Nat.reduceAdd, Nat.reduceSub, Nat.reduceMul, Nat.reduceEqDiff, Nat.reduceLT, Nat.reduceLeDiff, Nat.reduceBEq, Int.reduceToNat, Int.reduceLT, Int.reduceLE, Int.reduceGT, Int.reduceGE, Int.reduceEq, Int.reduceBEq, Int.reduceBNe, Int.reduceNeg, reduceCtorEq, hb_913F, hb_914T]) ?_
      refine AL_gt' (guard_true' rfl rfl (by exact rfl) (by exact rfl)) rfl (by simp only [go_sem, reduceIte, Nat.reduceAdd, Nat.reduceSub, Nat.reduceMul, Nat.reduceEqDiff, Nat.reduceLT, Nat.reduceLeDiff, Nat.reduceBEq, Int.reduceToNat, Int.reduceLT, Int.reduceLE, Int.reduceGT, Int.reduceGE, Int.reduceEq, Int.reduceBEq, Int.reduceBNe, Int.reduceNeg, reduceCtorEq, hb_913F, hb_914T]; exact rfl) ?_
      refine AL_gt' (guard_true' rfl rfl (by exact rfl) (by exact rfl)) rfl (by simp only [go_sem, reduceIte, Nat.reduceAdd, Nat.reduceSub, Nat.reduceMul, Nat.reduceEqDiff, Nat.reduceLT, Nat.reduceLeDiff, Nat.reduceBEq, Int.reduceToNat, Int.reduceLT, Int.reduceLE, Int.reduceGT, Int.reduceGE, Int.reduceEq, Int.reduceBEq, Int.reduceBNe, Int.reduceNeg, reduceCtorEq, hb_913F, hb_914T]; exact rfl) ?_
      obtain ⟨x_917, hx_918, h⟩ := Option.bind_eq_some_iff.1 h
      have hx_918l := eq_true (lt_of_get hx_918)
      have hx_918L : ((0 : Int) < (rows_906.length : Int)) = True := eq_true (by have := lt_of_get hx_918; omega)
      refine AL_gt' (guard_true' rfl rfl (by exact rfl) (by exact rfl)) rfl (by simp only [go_sem, reduceIte, Nat.reduceAdd, Nat.reduceSub, Nat.reduceMul, Nat.reduceEqDiff, Nat.reduceLT, Nat.reduceLeDiff, Nat.reduceBEq, Int.reduceToNat, Int.reduceLT, Int.reduceLE, Int.reduceGT, Int.reduceGE, Int.reduceEq, Int.reduceBEq, Int.reduceBNe, Int.reduceNeg, reduceCtorEq, hb_913F, hb_914T, hx_918, hx_918l, hx_918L]; exact rfl) ?_
      refine AL_gt' (guard_true' rfl rfl (by exact rfl) (by exact rfl)) rfl (by simp only [go_sem, reduceIte, Nat.reduceAdd, Nat.reduceSub, Nat.reduceMul, Nat.reduceEqDiff, Nat.reduceLT, Nat.reduceLeDiff, Nat.reduceBEq, Int.reduceToNat, Int.reduceLT, Int.reduceLE, Int.reduceGT, Int.reduceGE, Int.reduceEq, Int.reduceBEq, Int.reduceBNe, Int.reduceNeg, reduceCtorEq, hb_913F, hb_914T]; exact rfl) ?_
      refine AL_gt' (guard_true' rfl rfl (by exact rfl) (by exact rfl)) rfl (by simp only [go_sem, reduceIte, Nat.reduceAdd, Nat.reduceSub, Nat.reduceMul, Nat.reduceEqDiff, Nat.reduceLT, Nat.reduceLeDiff, Nat.reduceBEq, Int.reduceToNat, Int.reduceLT, Int.reduceLE, Int.reduceGT, Int.reduceGE, Int.reduceEq, Int.reduceBEq, Int.reduceBNe, Int.reduceNeg, reduceCtorEq, hb_913F, hb_914T]; exact rfl) ?_
      refine AL_gt' (guard_true' rfl rfl (by exact rfl) (by exact rfl)) rfl (by simp only [go_sem, reduceIte, Nat.reduceAdd, Nat.reduceSub, Nat.reduceMul, Nat.reduceEqDiff, Nat.reduceLT, Nat.reduceLeDiff, Nat.reduceBEq, Int.reduceToNat, Int.reduceLT, Int.reduceLE, Int.reduceGT, Int.reduceGE, Int.reduceEq, Int.reduceBEq, Int.reduceBNe, Int.reduceNeg, reduceCtorEq, hb_913F, hb_914T]; exact rfl) ?_
      refine AL_gt' (guard_true' rfl rfl (by exact rfl) (by exact rfl)) rfl (by simp only [go_sem, reduceIte, Nat.reduceAdd, Nat.reduceSub, Nat.reduceMul, Nat.reduceEqDiff, Nat.reduceLT, Nat.reduceLeDiff, Nat.reduceBEq, Int.reduceToNat, Int.reduceLT, Int.reduceLE, Int.reduceGT, Int.reduceGE, Int.reduceEq, Int.reduceBEq, Int.reduceBNe, Int.reduceNeg, reduceCtorEq, hb_913F, hb_914T]; exact rfl) ?_
      refine AL_upto (by exact rfl) (by simp only [go_sem, reduceIte, Nat.reduceAdd, Nat.reduceSub, Nat.reduceMul, Nat.reduceEqDiff, Nat.reduceLT, Nat.reduceLeDiff, Nat.reduceBEq, Int.reduceToNat, Int.reduceLT, Int.reduceLE, Int.reduceGT, Int.reduceGE, Int.reduceEq, Int.reduceBEq, Int.reduceBNe, Int.reduceNeg, reduceCtorEq, hb_913F, hb_914T]; exact rfl) ?_
      refine AL_nil ?_
      refine thenA_n ?_
      by_cases hb_919 : attr_907 ≥ (x_917.Values.length : Int)
      · rw [if_pos hb_919] at h
        have hb_919T := eq_true hb_919
        refine awp_ct (by simp only [go_sem, reduceIte, Nat.reduceAdd, Nat.reduceSub, Nat.reduceMul, Nat.reduceEqDiff, Nat.reduceLT, Nat.reduceLeDiff, Nat.reduceBEq, Int.reduceToNat, Int.reduceLT, Int.reduceLE, Int.reduceGT, Int.reduceGE, Int.reduceEq, Int.reduceBEq, Int.reduceBNe, Int.reduceNeg, reduceCtorEq, hb_913F, hb_914T, hb_919T]) ?_
        refine awp_seq ?_
        refine awp_region ?_
        refine AL_upto (by exact rfl) (by simp only [go_sem, reduceIte, Nat.reduceAdd, Nat.reduceSub, Nat.reduceMul, Nat.reduceEqDiff, Nat.reduceLT, Nat.reduceLeDiff, Nat.reduceBEq, Int.reduceToNat, Int.reduceLT, Int.reduceLE, Int.reduceGT, Int.reduceGE, Int.reduceEq, Int.reduceBEq, Int.reduceBNe, Int.reduceNeg, reduceCtorEq, hb_913F, hb_914T, hb_919T]; exact rfl) ?_
        refine AL_nil ?_
        refine thenA_n ?_
        refine awp_ret ?_
        refine thenA_ret ?_
        cases h
        refine retQ_ret (by simp only [Try.results10]; simp only [go_sem, reduceIte, Nat.reduceAdd, Nat.reduceSub, Nat.reduceMul, Nat.reduceEqDiff, Nat.reduceLT, Nat.reduceLeDiff, Nat.reduceBEq, Int.reduceToNat, Int.reduceLT, Int.reduceLE, Int.reduceGT, Int.reduceGE, Int.reduceEq, Int.reduceBEq, Int.reduceBNe, Int.reduceNeg, reduceCtorEq, hb_913F, hb_914T, hb_919T]; exact rfl) ?_
        simp only [go_sem, reduceIte, Nat.reduceAdd, Nat.reduceSub, Nat.reduceMul, Nat.reduceEqDiff, Nat.reduceLT, Nat.reduceLeDiff, Nat.reduceBEq, Int.reduceToNat, Int.reduceLT, Int.reduceLE, Int.reduceGT, Int.reduceGE, Int.reduceEq, Int.reduceBEq, Int.reduceBNe, Int.reduceNeg, reduceCtorEq, hb_913F, hb_914T, hb_919T]
        all_goals ((repeat' refine And.intro ?_ ?_) <;> first | rfl | (simp; done) | (simp; rfl) | (simp [*]; done) | (simp [*]; rfl))
      · rw [if_neg hb_919] at h
        have hb_919T := eq_false hb_919
        refine awp_cf (by simp only [go_sem, reduceIte, Nat.reduceAdd, Nat.reduceSub, Nat.reduceMul, Nat.reduceEqDiff, Nat.reduceLT, Nat.reduceLeDiff, Nat.reduceBEq, Int.reduceToNat, Int.reduceLT, Int.reduceLE, Int.reduceGT, Int.reduceGE, Int.reduceEq, Int.reduceBEq, Int.reduceBNe, Int.reduceNeg, reduceCtorEq, hb_913F, hb_914T, hb_919T]) ?_
        refine awp_skip ?_
        refine thenA_n ?_
        refine awp_seq ?_
        refine awp_seq ?_
        refine awp_region ?_
        refine AL_upto (by exact rfl) (by simp only [go_sem, reduceIte, Nat.reduceAdd, Nat.reduceSub, Nat.reduceMul, Nat.reduceEqDiff, Nat.reduceLT, Nat.reduceLeDiff, Nat.reduceBEq, Int.reduceToNat, Int.reduceLT, Int.reduceLE, Int.reduceGT, Int.reduceGE, Int.reduceEq, Int.reduceBEq, Int.reduceBNe, Int.reduceNeg, reduceCtorEq, hb_913F, hb_914T, hb_919T]; exact rfl) ?_
        obtain ⟨r_920, hr_921, h⟩ := Option.bind_eq_some_iff.1 h
        refine AL_con' rfl (guard_none rfl) rfl (by simp only [go_sem, reduceIte, Nat.reduceAdd, Nat.reduceSub, Nat.reduceMul, Nat.reduceEqDiff, Nat.reduceLT, Nat.reduceLeDiff, Nat.reduceBEq, Int.reduceToNat, Int.reduceLT, Int.reduceLE, Int.reduceGT, Int.reduceGE, Int.reduceEq, Int.reduceBEq, Int.reduceBNe, Int.reduceNeg, reduceCtorEq, hb_913F, hb_914T, hb_919T]; exact rfl) (by simp only [go_sem, reduceIte, Nat.reduceAdd, Nat.reduceSub, Nat.reduceMul, Nat.reduceEqDiff, Nat.reduceLT, Nat.reduceLeDiff, Nat.reduceBEq, Int.reduceToNat, Int.reduceLT, Int.reduceLE, Int.reduceGT, Int.reduceGE, Int.reduceEq, Int.reduceBEq, Int.reduceBNe, Int.reduceNeg, reduceCtorEq, hb_913F, hb_914T, hb_919T]; all_goals ((repeat' refine And.intro ?_ ?_) <;> first | rfl | (simp; done) | (simp; rfl) | (simp [*]; done) | (simp [*]; rfl))) (drossref55_valid_con rows_906 _ hr_921) (.inr rfl) rfl ?_
        refine AL_upto (by exact rfl) (by simp only [go_sem, reduceIte, Nat.reduceAdd, Nat.reduceSub, Nat.reduceMul, Nat.reduceEqDiff, Nat.reduceLT, Nat.reduceLeDiff, Nat.reduceBEq, Int.reduceToNat, Int.reduceLT, Int.reduceLE, Int.reduceGT, Int.reduceGE, Int.reduceEq, Int.reduceBEq, Int.reduceBNe, Int.reduceNeg, reduceCtorEq, hb_913F, hb_914T, hb_919T]; exact rfl) ?_
        by_cases hb_922 : r_920 = true
        · rw [if_pos hb_922] at h
          refine AL_known (d := 30) (v := .p (.bool false)) (by simp only [go_sem, reduceIte, Nat.reduceAdd, Nat.reduceSub, Nat.reduceMul, Nat.reduceEqDiff, Nat.reduceLT, Nat.reduceLeDiff, Nat.reduceBEq, Int.reduceToNat, Int.reduceLT, Int.reduceLE, Int.reduceGT, Int.reduceGE, Int.reduceEq, Int.reduceBEq, Int.reduceBNe, Int.reduceNeg, reduceCtorEq, hb_913F, hb_914T, hb_919T, hb_922]) ?_
          refine AL_gt' (guard_true' rfl rfl (by exact rfl) (by exact rfl)) rfl (by simp only [go_sem, reduceIte, Nat.reduceAdd, Nat.reduceSub, Nat.reduceMul, Nat.reduceEqDiff, Nat.reduceLT, Nat.reduceLeDiff, Nat.reduceBEq, Int.reduceToNat, Int.reduceLT, Int.reduceLE, Int.reduceGT, Int.reduceGE, Int.reduceEq, Int.reduceBEq, Int.reduceBNe, Int.reduceNeg, reduceCtorEq, hb_913F, hb_914T, hb_919T, hb_922]; exact rfl) ?_
          refine AL_gt' (guard_true' rfl rfl (by exact rfl) (by exact rfl)) rfl (by simp only [go_sem, reduceIte, Nat.reduceAdd, Nat.reduceSub, Nat.reduceMul, Nat.reduceEqDiff, Nat.reduceLT, Nat.reduceLeDiff, Nat.reduceBEq, Int.reduceToNat, Int.reduceLT, Int.reduceLE, Int.reduceGT, Int.reduceGE, Int.reduceEq, Int.reduceBEq, Int.reduceBNe, Int.reduceNeg, reduceCtorEq, hb_913F, hb_914T, hb_919T, hb_922]; exact rfl) ?_
          refine AL_upto (by exact rfl) (by simp only [go_sem, reduceIte, Nat.reduceAdd, Nat.reduceSub, Nat.reduceMul, Nat.reduceEqDiff, Nat.reduceLT, Nat.reduceLeDiff, Nat.reduceBEq, Int.reduceToNat, Int.reduceLT, Int.reduceLE, Int.reduceGT, Int.reduceGE, Int.reduceEq, Int.reduceBEq, Int.reduceBNe, Int.reduceNeg, reduceCtorEq, hb_913F, hb_914T, hb_919T, hb_922]; exact rfl) ?_
          by_cases hb_923 : rule_908 < 1
          · rw [if_pos hb_923] at h
            have hb_923T := eq_true hb_923
            refine AL_known (d := 34) (v := .p (.bool true)) (by simp only [go_sem, reduceIte, Nat.reduceAdd, Nat.reduceSub, Nat.reduceMul, Nat.reduceEqDiff, Nat.reduceLT, Nat.reduceLeDiff, Nat.reduceBEq, Int.reduceToNat, Int.reduceLT, Int.reduceLE, Int.reduceGT, Int.reduceGE, Int.reduceEq, Int.reduceBEq, Int.reduceBNe, Int.reduceNeg, reduceCtorEq, hb_913F, hb_914T, hb_919T, hb_922, hb_923T]) ?_
            refine AL_skips (by exact rfl) ?_
            refine AL_upto (by exact rfl) (by simp only [go_sem, reduceIte, Nat.reduceAdd, Nat.reduceSub, Nat.reduceMul, Nat.reduceEqDiff, Nat.reduceLT, Nat.reduceLeDiff, Nat.reduceBEq, Int.reduceToNat, Int.reduceLT, Int.reduceLE, Int.reduceGT, Int.reduceGE, Int.reduceEq, Int.reduceBEq, Int.reduceBNe, Int.reduceNeg, reduceCtorEq, hb_913F, hb_914T, hb_919T, hb_922, hb_923T]; exact rfl) ?_
            refine AL_nil ?_
            refine thenA_n ?_
            refine awp_ct (by simp only [go_sem, reduceIte, Nat.reduceAdd, Nat.reduceSub, Nat.reduceMul, Nat.reduceEqDiff, Nat.reduceLT, Nat.reduceLeDiff, Nat.reduceBEq, Int.reduceToNat, Int.reduceLT, Int.reduceLE, Int.reduceGT, Int.reduceGE, Int.reduceEq, Int.reduceBEq, Int.reduceBNe, Int.reduceNeg, reduceCtorEq, hb_913F, hb_914T, hb_919T, hb_922, hb_923T]) ?_
            refine awp_seq ?_
            refine awp_region ?_
            refine AL_upto (by exact rfl) (by simp only [go_sem, reduceIte, Nat.reduceAdd, Nat.reduceSub, Nat.reduceMul, Nat.reduceEqDiff, Nat.reduceLT, Nat.reduceLeDiff, Nat.reduceBEq, Int.reduceToNat, Int.reduceLT, Int.reduceLE, Int.reduceGT, Int.reduceGE, Int.reduceEq, Int.reduceBEq, Int.reduceBNe, Int.reduceNeg, reduceCtorEq, hb_913F, hb_914T, hb_919T, hb_922, hb_923T]; exact rfl) ?_
            refine AL_nil ?_
            refine thenA_n ?_
            refine awp_ret ?_
            refine thenA_ret ?_
            cases h
            refine retQ_ret (by simp only [Try.results10]; simp only [go_sem, reduceIte, Nat.reduceAdd, Nat.reduceSub, Nat.reduceMul, Nat.reduceEqDiff, Nat.reduceLT, Nat.reduceLeDiff, Nat.reduceBEq, Int.reduceToNat, Int.reduceLT, Int.reduceLE, Int.reduceGT, Int.reduceGE, Int.reduceEq, Int.reduceBEq, Int.reduceBNe, Int.reduceNeg, reduceCtorEq, hb_913F, hb_914T, hb_919T, hb_922, hb_923T]; exact rfl) ?_
            simp only [go_sem, reduceIte, Nat.reduceAdd, Nat.reduceSub, Nat.reduceMul, Nat.reduceEqDiff, Nat.reduceLT, Nat.reduceLeDiff, Nat.reduceBEq, Int.reduceToNat, Int.reduceLT, Int.reduceLE, Int.reduceGT, Int.reduceGE, Int.reduceEq, Int.reduceBEq, Int.reduceBNe, Int.reduceNeg, reduceCtorEq, hb_913F, hb_914T, hb_919T, hb_922, hb_923T]
            all_goals ((repeat' refine And.intro ?_ ?_) <;> first | rfl | (simp; done) | (simp; rfl) | (simp [*]; done) | (simp [*]; rfl))
          · rw [if_neg hb_923] at h
            have hb_923T := eq_false hb_923
            refine AL_known (d := 34) (v := .p (.bool false)) (by simp only [go_sem, reduceIte, Nat.reduceAdd, Nat.reduceSub, Nat.reduceMul, Nat.reduceEqDiff, Nat.reduceLT, Nat.reduceLeDiff, Nat.reduceBEq, Int.reduceToNat, Int.reduceLT, Int.reduceLE, Int.reduceGT, Int.reduceGE, Int.reduceEq, Int.reduceBEq, Int.reduceBNe, Int.reduceNeg, reduceCtorEq, hb_913F, hb_914T, hb_919T, hb_922, hb_923T]) ?_
            refine AL_gt' (guard_true' rfl rfl (by exact rfl) (by exact rfl)) rfl (by simp only [go_sem, reduceIte, Nat.reduceAdd, Nat.reduceSub, Nat.reduceMul, Nat.reduceEqDiff, Nat.reduceLT, Nat.reduceLeDiff, Nat.reduceBEq, Int.reduceToNat, Int.reduceLT, Int.reduceLE, Int.reduceGT, Int.reduceGE, Int.reduceEq, Int.reduceBEq, Int.reduceBNe, Int.reduceNeg, reduceCtorEq, hb_913F, hb_914T, hb_919T, hb_922, hb_923T]; exact rfl) ?_
            refine AL_gt' (guard_true' rfl rfl (by exact rfl) (by exact rfl)) rfl (by simp only [go_sem, reduceIte, Nat.reduceAdd, Nat.reduceSub, Nat.reduceMul, Nat.reduceEqDiff, Nat.reduceLT, Nat.reduceLeDiff, Nat.reduceBEq, Int.reduceToNat, Int.reduceLT, Int.reduceLE, Int.reduceGT, Int.reduceGE, Int.reduceEq, Int.reduceBEq, Int.reduceBNe, Int.reduceNeg, reduceCtorEq, hb_913F, hb_914T, hb_919T, hb_922, hb_923T]; exact rfl) ?_
            refine AL_upto (by exact rfl) (by simp only [go_sem, reduceIte, Nat.reduceAdd, Nat.reduceSub, Nat.reduceMul, Nat.reduceEqDiff, Nat.reduceLT, Nat.reduceLeDiff, Nat.reduceBEq, Int.reduceToNat, Int.reduceLT, Int.reduceLE, Int.reduceGT, Int.reduceGE, Int.reduceEq, Int.reduceBEq, Int.reduceBNe, Int.reduceNeg, reduceCtorEq, hb_913F, hb_914T, hb_919T, hb_922, hb_923T]; exact rfl) ?_
            refine AL_nil ?_
            refine thenA_n ?_
            by_cases hb_924 : rule_908 > 5
            · rw [if_pos hb_924] at h
              have hb_924T := eq_true hb_924
              refine awp_ct (by simp only [go_sem, reduceIte, Nat.reduceAdd, Nat.reduceSub, Nat.reduceMul, Nat.reduceEqDiff, Nat.reduceLT, Nat.reduceLeDiff, Nat.reduceBEq, Int.reduceToNat, Int.reduceLT, Int.reduceLE, Int.reduceGT, Int.reduceGE, Int.reduceEq, Int.reduceBEq, Int.reduceBNe, Int.reduceNeg, reduceCtorEq, hb_913F, hb_914T, hb_919T, hb_922, hb_923T, hb_924T]) ?_
              refine awp_seq ?_
              refine awp_region ?_
              refine AL_upto (by exact rfl) (by simp only [go_sem, reduceIte, Nat.reduceAdd, Nat.reduceSub, Nat.reduceMul, Nat.reduceEqDiff, Nat.reduceLT, Nat.reduceLeDiff, Nat.reduceBEq, Int.reduceToNat, Int.reduceLT, Int.reduceLE, Int.reduceGT, Int.reduceGE, Int.reduceEq, Int.reduceBEq, Int.reduceBNe, Int.reduceNeg, reduceCtorEq, hb_913F, hb_914T, hb_919T, hb_922, hb_923T, hb_924T]; exact rfl) ?_
              refine AL_nil ?_
              refine thenA_n ?_
              refine awp_ret ?_
              refine thenA_ret ?_
              cases h
              refine retQ_ret (by simp only [Try.results10]; simp only [go_sem, reduceIte, Nat.reduceAdd, Nat.reduceSub, Nat.reduceMul, Nat.reduceEqDiff, Nat.reduceLT, Nat.reduceLeDiff, Nat.reduceBEq, Int.reduceToNat, Int.reduceLT, Int.reduceLE, Int.reduceGT, Int.reduceGE, Int.reduceEq, Int.reduceBEq, Int.reduceBNe, Int.reduceNeg, reduceCtorEq, hb_913F, hb_914T, hb_919T, hb_922, hb_923T, hb_924T]; exact rfl) ?_
              simp only [go_sem, reduceIte, Nat.reduceAdd, Nat.reduceSub, Nat.reduceMul, Nat.reduceEqDiff, Nat.reduceLT, Nat.reduceLeDiff, Nat.reduceBEq, Int.reduceToNat, Int.reduceLT, Int.reduceLE, Int.reduceGT, Int.reduceGE, Int.reduceEq, Int.reduceBEq, Int.reduceBNe, Int.reduceNeg, reduceCtorEq, hb_913F, hb_914T, hb_919T, hb_922, hb_923T, hb_924T]
              all_goals ((repeat' refine And.intro ?_ ?_) <;> first | rfl | (simp; done) | (simp; rfl) | (simp [*]; done) | (simp [*]; rfl))
            · rw [if_neg hb_924] at h
              have hb_924T := eq_false hb_924
              refine awp_cf (by simp only [go_sem, reduceIte, Nat.reduceAdd, Nat.reduceSub, Nat.reduceMul, Nat.reduceEqDiff, Nat.reduceLT, Nat.reduceLeDiff, Nat.reduceBEq, Int.reduceToNat, Int.reduceLT, Int.reduceLE, Int.reduceGT, Int.reduceGE, Int.reduceEq, Int.reduceBEq, Int.reduceBNe, Int.reduceNeg, reduceCtorEq, hb_913F, hb_914T, hb_919T, hb_922, hb_923T, hb_924T]) ?_
              refine awp_skip ?_
              refine thenA_n ?_
              refine awp_seq ?_
              refine awp_region ?_
              refine AL_upto (by exact rfl) (by simp only [go_sem, reduceIte, Nat.reduceAdd, Nat.reduceSub, Nat.reduceMul, Nat.reduceEqDiff, Nat.reduceLT, Nat.reduceLeDiff, Nat.reduceBEq, Int.reduceToNat, Int.reduceLT, Int.reduceLE, Int.reduceGT, Int.reduceGE, Int.reduceEq, Int.reduceBEq, Int.reduceBNe, Int.reduceNeg, reduceCtorEq, hb_913F, hb_914T, hb_919T, hb_922, hb_923T, hb_924T]; exact rfl) ?_
              obtain ⟨r_925, hr_926, h⟩ := Option.bind_eq_some_iff.1 h
              refine AL_con' rfl (guard_none rfl) rfl (by simp only [go_sem, reduceIte, Nat.reduceAdd, Nat.reduceSub, Nat.reduceMul, Nat.reduceEqDiff, Nat.reduceLT, Nat.reduceLeDiff, Nat.reduceBEq, Int.reduceToNat, Int.reduceLT, Int.reduceLE, Int.reduceGT, Int.reduceGE, Int.reduceEq, Int.reduceBEq, Int.reduceBNe, Int.reduceNeg, reduceCtorEq, hb_913F, hb_914T, hb_919T, hb_922, hb_923T, hb_924T]; exact rfl) (by simp only [go_sem, reduceIte, Nat.reduceAdd, Nat.reduceSub, Nat.reduceMul, Nat.reduceEqDiff, Nat.reduceLT, Nat.reduceLeDiff, Nat.reduceBEq, Int.reduceToNat, Int.reduceLT, Int.reduceLE, Int.reduceGT, Int.reduceGE, Int.reduceEq, Int.reduceBEq, Int.reduceBNe, Int.reduceNeg, reduceCtorEq, hb_913F, hb_914T, hb_919T, hb_922, hb_923T, hb_924T]; all_goals ((repeat' refine And.intro ?_ ?_) <;> first | rfl | (simp; done) | (simp; rfl) | (simp [*]; done) | (simp [*]; rfl))) (drossref55_Pick_con rows_906 attr_907 rule_908 _ hr_926) (.inr rfl) rfl ?_
              refine AL_upto (by exact rfl) (by simp only [go_sem, reduceIte, Nat.reduceAdd, Nat.reduceSub, Nat.reduceMul, Nat.reduceEqDiff, Nat.reduceLT, Nat.reduceLeDiff, Nat.reduceBEq, Int.reduceToNat, Int.reduceLT, Int.reduceLE, Int.reduceGT, Int.reduceGE, Int.reduceEq, Int.reduceBEq, Int.reduceBNe, Int.reduceNeg, reduceCtorEq, hb_913F, hb_914T, hb_919T, hb_922, hb_923T, hb_924T]; exact rfl) ?_
              refine AL_nil ?_
              refine thenA_n ?_
              refine awp_ret ?_
              cases h
              refine retQ_ret (by simp only [Try.results10]; simp only [go_sem, reduceIte, Nat.reduceAdd, Nat.reduceSub, Nat.reduceMul, Nat.reduceEqDiff, Nat.reduceLT, Nat.reduceLeDiff, Nat.reduceBEq, Int.reduceToNat, Int.reduceLT, Int.reduceLE, Int.reduceGT, Int.reduceGE, Int.reduceEq, Int.reduceBEq, Int.reduceBNe, Int.reduceNeg, reduceCtorEq, hb_913F, hb_914T, hb_919T, hb_922, hb_923T, hb_924T]; exact rfl) ?_
              simp only [go_sem, reduceIte, Nat.reduceAdd, Nat.reduceSub, Nat.reduceMul, Nat.reduceEqDiff, Nat.reduceLT, Nat.reduceLeDiff, Nat.reduceBEq, Int.reduceToNat, Int.reduceLT, Int.reduceLE, Int.reduceGT, Int.reduceGE, Int.reduceEq, Int.reduceBEq, Int.reduceBNe, Int.reduceNeg, reduceCtorEq, hb_913F, hb_914T, hb_919T, hb_922, hb_923T, hb_924T]
              all_goals ((repeat' refine And.intro ?_ ?_) <;> first | rfl | (simp; done) | (simp; rfl) | (simp [*]; done) | (simp [*]; rfl))
        · rw [if_neg hb_922] at h
          have hb_922F := Bool.eq_false_iff.2 hb_922
          refine AL_known (d := 30) (v := .p (.bool true)) (by simp only [go_sem, reduceIte, Nat.reduceAdd, Nat.reduceSub, Nat.reduceMul, Nat.reduceEqDiff, Nat.reduceLT, Nat.reduceLeDiff, Nat.reduceBEq, Int.reduceToNat, Int.reduceLT, Int.reduceLE, Int.reduceGT, Int.reduceGE, Int.reduceEq, Int.reduceBEq, Int.reduceBNe, Int.reduceNeg, reduceCtorEq, hb_913F, hb_914T, hb_919T, hb_922F]) ?_
          refine AL_skips (by exact rfl) ?_
          refine AL_upto (by exact rfl) (by simp only [go_sem, reduceIte, Nat.reduceAdd, Nat.reduceSub, Nat.reduceMul, Nat.reduceEqDiff, Nat.reduceLT, Nat.reduceLeDiff, Nat.reduceBEq, Int.reduceToNat, Int.reduceLT, Int.reduceLE, Int.reduceGT, Int.reduceGE, Int.reduceEq, Int.reduceBEq, Int.reduceBNe, Int.reduceNeg, reduceCtorEq, hb_913F, hb_914T, hb_919T, hb_922F]; exact rfl) ?_
          refine AL_skips (by exact rfl) ?_
          refine AL_upto (by exact rfl) (by simp only [go_sem, reduceIte, Nat.reduceAdd, Nat.reduceSub, Nat.reduceMul, Nat.reduceEqDiff, Nat.reduceLT, Nat.reduceLeDiff, Nat.reduceBEq, Int.reduceToNat, Int.reduceLT, Int.reduceLE, Int.reduceGT, Int.reduceGE, Int.reduceEq, Int.reduceBEq, Int.reduceBNe, Int.reduceNeg, reduceCtorEq, hb_913F, hb_914T, hb_919T, hb_922F]; exact rfl) ?_
          refine AL_nil ?_
          refine thenA_n ?_
          refine awp_ct (by simp only [go_sem, reduceIte, Nat.reduceAdd, Nat.reduceSub, Nat.reduceMul, Nat.reduceEqDiff, Nat.reduceLT, Nat.reduceLeDiff, Nat.reduceBEq, Int.reduceToNat, Int.reduceLT, Int.reduceLE, Int.reduceGT, Int.reduceGE, Int.reduceEq, Int.reduceBEq, Int.reduceBNe, Int.reduceNeg, reduceCtorEq, hb_913F, hb_914T, hb_919T, hb_922F]) ?_
          refine awp_seq ?_
          refine awp_region ?_
          refine AL_upto (by exact rfl) (by simp only [go_sem, reduceIte, Nat.reduceAdd, Nat.reduceSub, Nat.reduceMul, Nat.reduceEqDiff, Nat.reduceLT, Nat.reduceLeDiff, Nat.reduceBEq, Int.reduceToNat, Int.reduceLT, Int.reduceLE, Int.reduceGT, Int.reduceGE, Int.reduceEq, Int.reduceBEq, Int.reduceBNe, Int.reduceNeg, reduceCtorEq, hb_913F, hb_914T, hb_919T, hb_922F]; exact rfl) ?_
          refine AL_nil ?_
          refine thenA_n ?_
          refine awp_ret ?_
          refine thenA_ret ?_
          cases h
          refine retQ_ret (by simp only [Try.results10]; simp only [go_sem, reduceIte, Nat.reduceAdd, Nat.reduceSub, Nat.reduceMul, Nat.reduceEqDiff, Nat.reduceLT, Nat.reduceLeDiff, Nat.reduceBEq, Int.reduceToNat, Int.reduceLT, Int.reduceLE, Int.reduceGT, Int.reduceGE, Int.reduceEq, Int.reduceBEq, Int.reduceBNe, Int.reduceNeg, reduceCtorEq, hb_913F, hb_914T, hb_919T, hb_922F]; exact rfl) ?_
          simp only [go_sem, reduceIte, Nat.reduceAdd, Nat.reduceSub, Nat.reduceMul, Nat.reduceEqDiff, Nat.reduceLT, Nat.reduceLeDiff, Nat.reduceBEq, Int.reduceToNat, Int.reduceLT, Int.reduceLE, Int.reduceGT, Int.reduceGE, Int.reduceEq, Int.reduceBEq, Int.reduceBNe, Int.reduceNeg, reduceCtorEq, hb_913F, hb_914T, hb_919T, hb_922F]
          all_goals ((repeat' refine And.intro ?_ ?_) <;> first | rfl | (simp; done) | (simp; rfl) | (simp [*]; done) | (simp [*]; rfl))
end Go.Proofs.Ytdmddoljldjjeaa
set_option linter.unusedVariables false
set_option linter.unusedSimpArgs false
namespace Go.Proofs.Ytdmddoljldjjeaa
open Go Go.Ab
set_option maxHeartbeats 4000000 in
theorem drosslaw55_SurvivorChoose_con (rows_928 : List Row) (attr_929 : Int) (rule_930 : Int) (r_958 : Bool) (h : drosslaw55_SurvivorChoose rows_928 attr_929 rule_930 = some r_958) : Con Try.prog 3 [(.slc (List.map encRow rows_928)), (.int .i64 attr_929), (.int .i64 rule_930)] (.bool r_958) := by
  refine ⟨Try.call3, ?_⟩
  refine pure_of_awp Try.func3 rfl Try.ntmps3 (by simp) fun X w => ?_
  show AWp _ _ _ ⟨[(0, .p (.slc (List.map encRow rows_928))), (1, .p (.int .i64 attr_929)), (2, .p (.int .i64 rule_930))], []⟩
  simp only [drosslaw55_SurvivorChoose] at h
  refine awp_seq ?_
  refine awp_region ?_
  refine AL_upto (by exact rfl) (by simp only [go_sem, reduceIte, Nat.reduceAdd, Nat.reduceSub, Nat.reduceMul, Nat.reduceEqDiff, Nat.reduceLT, Nat.reduceLeDiff, Nat.reduceBEq, Int.reduceToNat, Int.reduceLT, Int.reduceLE, Int.reduceGT, Int.reduceGE, Int.reduceEq, Int.reduceBEq, Int.reduceBNe, Int.reduceNeg, reduceCtorEq]; exact rfl) ?_
  refine AL_nil ?_
  refine thenA_n ?_
  refine awp_seq ?_
  obtain ⟨o_935, hA_936, h⟩ := Option.bind_eq_some_iff.1 h
  refine awp_join (T := (fun (o_957 : Bool) (e : Exit) (s' : St) => e = .normal ∧ Le ⟨Try.prog, Try.f3.ntmps, 0, X, [], fun _ => none, w⟩ s' ⟨[(0, .p (.slc (List.map encRow rows_928))), (1, .p (.int .i64 attr_929)), (2, .p (.int .i64 rule_930)), (18, .p (.bool o_957))], []⟩) o_935) ?_ ?_
  · replace h := hA_936
    clear hA_936
    refine awp_region ?_
    obtain ⟨r_937, hr_938, h⟩ := Option.bind_eq_some_iff.1 h
    refine AL_con' rfl (guard_none rfl) rfl (by simp only [go_sem, reduceIte, Nat.reduceAdd, Nat.reduceSub, Nat.reduceMul, Nat.reduceEqDiff, Nat.reduceLT, Nat.reduceLeDiff, Nat.reduceBEq, Int.reduceToNat, Int.reduceLT, Int.reduceLE, Int.reduceGT, Int.reduceGE, Int.reduceEq, Int.reduceBEq, Int.reduceBNe, Int.reduceNeg, reduceCtorEq]; exact rfl) (by simp only [go_sem, reduceIte, Nat.reduceAdd, Nat.reduceSub, Nat.reduceMul, Nat.reduceEqDiff, Nat.reduceLT, Nat.reduceLeDiff, Nat.reduceBEq, Int.reduceToNat, Int.reduceLT, Int.reduceLE, Int.reduceGT, Int.reduceGE, Int.reduceEq, Int.reduceBEq, Int.reduceBNe, Int.reduceNeg, reduceCtorEq]; all_goals ((repeat' refine And.intro ?_ ?_) <;> first | rfl | (simp; done) | (simp; rfl) | (simp [*]; done) | (simp [*]; rfl))) (drosslaw55_awake_con  _ hr_938) (.inr rfl) rfl ?_
    refine AL_upto (by exact rfl) (by simp only [go_sem, reduceIte, Nat.reduceAdd, Nat.reduceSub, Nat.reduceMul, Nat.reduceEqDiff, Nat.reduceLT, Nat.reduceLeDiff, Nat.reduceBEq, Int.reduceToNat, Int.reduceLT, Int.reduceLE, Int.reduceGT, Int.reduceGE, Int.reduceEq, Int.reduceBEq, Int.reduceBNe, Int.reduceNeg, reduceCtorEq]; exact rfl) ?_
    by_cases hb_939 : r_937 = true
    · rw [if_pos hb_939] at h
      refine AL_known (d := 14) (v := .p (.bool false)) (by simp only [go_sem, reduceIte, Nat.reduceAdd, Nat.reduceSub, Nat.reduceMul, Nat.reduceEqDiff, Nat.reduceLT, Nat.reduceLeDiff, Nat.reduceBEq, Int.reduceToNat, Int.reduceLT, Int.reduceLE, Int.reduceGT, Int.reduceGE, Int.reduceEq, Int.reduceBEq, Int.reduceBNe, Int.reduceNeg, reduceCtorEq, hb_939]) ?_
      refine AL_gt' (guard_true' rfl rfl (by exact rfl) (by exact rfl)) rfl (by simp only [go_sem, reduceIte, Nat.reduceAdd, Nat.reduceSub, Nat.reduceMul, Nat.reduceEqDiff, Nat.reduceLT, Nat.reduceLeDiff, Nat.reduceBEq, Int.reduceToNat, Int.reduceLT, Int.reduceLE, Int.reduceGT, Int.reduceGE, Int.reduceEq, Int.reduceBEq, Int.reduceBNe, Int.reduceNeg, reduceCtorEq, hb_939]; exact rfl) ?_
      refine AL_gt' (guard_true' rfl rfl (by exact rfl) (by exact rfl)) rfl (by simp only [go_sem, reduceIte, Nat.reduceAdd, Nat.reduceSub, Nat.reduceMul, Nat.reduceEqDiff, Nat.reduceLT, Nat.reduceLeDiff, Nat.reduceBEq, Int.reduceToNat, Int.reduceLT, Int.reduceLE, Int.reduceGT, Int.reduceGE, Int.reduceEq, Int.reduceBEq, Int.reduceBNe, Int.reduceNeg, reduceCtorEq, hb_939]; exact rfl) ?_
      refine AL_gt' (guard_true' rfl rfl (by exact rfl) (by exact rfl)) rfl (by simp only [go_sem, reduceIte, Nat.reduceAdd, Nat.reduceSub, Nat.reduceMul, Nat.reduceEqDiff, Nat.reduceLT, Nat.reduceLeDiff, Nat.reduceBEq, Int.reduceToNat, Int.reduceLT, Int.reduceLE, Int.reduceGT, Int.reduceGE, Int.reduceEq, Int.reduceBEq, Int.reduceBNe, Int.reduceNeg, reduceCtorEq, hb_939]; exact rfl) ?_
      refine AL_upto (by exact rfl) (by simp only [go_sem, reduceIte, Nat.reduceAdd, Nat.reduceSub, Nat.reduceMul, Nat.reduceEqDiff, Nat.reduceLT, Nat.reduceLeDiff, Nat.reduceBEq, Int.reduceToNat, Int.reduceLT, Int.reduceLE, Int.reduceGT, Int.reduceGE, Int.reduceEq, Int.reduceBEq, Int.reduceBNe, Int.reduceNeg, reduceCtorEq, hb_939]; exact rfl) ?_
      refine AL_nil ?_
      cases h
      refine ⟨rfl, ?_⟩
      simp only [go_sem, reduceIte, Nat.reduceAdd, Nat.reduceSub, Nat.reduceMul, Nat.reduceEqDiff, Nat.reduceLT, Nat.reduceLeDiff, Nat.reduceBEq, Int.reduceToNat, Int.reduceLT, Int.reduceLE, Int.reduceGT, Int.reduceGE, Int.reduceEq, Int.reduceBEq, Int.reduceBNe, Int.reduceNeg, reduceCtorEq, hb_939]
      all_goals ((repeat' refine And.intro ?_ ?_) <;> first | rfl | (simp; done) | (simp; rfl) | (simp [*]; done) | (simp [*]; rfl))
    · rw [if_neg hb_939] at h
      have hb_939F := Bool.eq_false_iff.2 hb_939
      refine AL_known (d := 14) (v := .p (.bool true)) (by simp only [go_sem, reduceIte, Nat.reduceAdd, Nat.reduceSub, Nat.reduceMul, Nat.reduceEqDiff, Nat.reduceLT, Nat.reduceLeDiff, Nat.reduceBEq, Int.reduceToNat, Int.reduceLT, Int.reduceLE, Int.reduceGT, Int.reduceGE, Int.reduceEq, Int.reduceBEq, Int.reduceBNe, Int.reduceNeg, reduceCtorEq, hb_939F]) ?_
      refine AL_skips (by exact rfl) ?_
      refine AL_upto (by exact rfl) (by simp only [go_sem, reduceIte, Nat.reduceAdd, Nat.reduceSub, Nat.reduceMul, Nat.reduceEqDiff, Nat.reduceLT, Nat.reduceLeDiff, Nat.reduceBEq, Int.reduceToNat, Int.reduceLT, Int.reduceLE, Int.reduceGT, Int.reduceGE, Int.reduceEq, Int.reduceBEq, Int.reduceBNe, Int.reduceNeg, reduceCtorEq, hb_939F]; exact rfl) ?_
      refine AL_nil ?_
      cases h
      refine ⟨rfl, ?_⟩
      simp only [go_sem, reduceIte, Nat.reduceAdd, Nat.reduceSub, Nat.reduceMul, Nat.reduceEqDiff, Nat.reduceLT, Nat.reduceLeDiff, Nat.reduceBEq, Int.reduceToNat, Int.reduceLT, Int.reduceLE, Int.reduceGT, Int.reduceGE, Int.reduceEq, Int.reduceBEq, Int.reduceBNe, Int.reduceNeg, reduceCtorEq, hb_939F]
      all_goals ((repeat' refine And.intro ?_ ?_) <;> first | rfl | (simp; done) | (simp; rfl) | (simp [*]; done) | (simp [*]; rfl))
  · intro e s' hT
    obtain ⟨t18_934, rfl⟩ : ∃ z, z = o_935 := ⟨_, rfl⟩
    try simp only at h
    try simp only at hT
    obtain ⟨rfl, hle⟩ := hT
    refine Wk.to hle ?_
    clear hle
    refine thenA_n ?_
    by_cases hb_940 : t18_934 = true
    · rw [if_pos hb_940] at h
      refine awp_ct (by simp only [go_sem, reduceIte, Nat.reduceAdd, Nat.reduceSub, Nat.reduceMul, Nat.reduceEqDiff, Nat.reduceLT, Nat.reduceLeDiff, Nat.reduceBEq, Int.reduceToNat, Int.reduceLT, Int.reduceLE, Int.reduceGT, Int.reduceGE, Int.reduceEq, Int.reduceBEq, Int.reduceBNe, Int.reduceNeg, reduceCtorEq, hb_940]) ?_
      refine awp_seq ?_
      refine awp_region ?_
      obtain ⟨r_941, hr_942, h⟩ := Option.bind_eq_some_iff.1 h
      refine AL_con' rfl (guard_none rfl) rfl (by simp only [go_sem, reduceIte, Nat.reduceAdd, Nat.reduceSub, Nat.reduceMul, Nat.reduceEqDiff, Nat.reduceLT, Nat.reduceLeDiff, Nat.reduceBEq, Int.reduceToNat, Int.reduceLT, Int.reduceLE, Int.reduceGT, Int.reduceGE, Int.reduceEq, Int.reduceBEq, Int.reduceBNe, Int.reduceNeg, reduceCtorEq, hb_940]; exact rfl) (by simp only [go_sem, reduceIte, Nat.reduceAdd, Nat.reduceSub, Nat.reduceMul, Nat.reduceEqDiff, Nat.reduceLT, Nat.reduceLeDiff, Nat.reduceBEq, Int.reduceToNat, Int.reduceLT, Int.reduceLE, Int.reduceGT, Int.reduceGE, Int.reduceEq, Int.reduceBEq, Int.reduceBNe, Int.reduceNeg, reduceCtorEq, hb_940]; all_goals ((repeat' refine And.intro ?_ ?_) <;> first | rfl | (simp; done) | (simp; rfl) | (simp [*]; done) | (simp [*]; rfl))) (drosslaw55_awake_con  _ hr_942) (.inr rfl) rfl ?_
      refine AL_upto (by exact rfl) (by simp only [go_sem, reduceIte, Nat.reduceAdd, Nat.reduceSub, Nat.reduceMul, Nat.reduceEqDiff, Nat.reduceLT, Nat.reduceLeDiff, Nat.reduceBEq, Int.reduceToNat, Int.reduceLT, Int.reduceLE, Int.reduceGT, Int.reduceGE, Int.reduceEq, Int.reduceBEq, Int.reduceBNe, Int.reduceNeg, reduceCtorEq, hb_940]; exact rfl) ?_
      refine AL_nil ?_
      refine thenA_n ?_
      refine awp_ret ?_
      refine thenA_ret ?_
      cases h
      refine retQ_ret (by simp only [Try.results3]; simp only [go_sem, reduceIte, Nat.reduceAdd, Nat.reduceSub, Nat.reduceMul, Nat.reduceEqDiff, Nat.reduceLT, Nat.reduceLeDiff, Nat.reduceBEq, Int.reduceToNat, Int.reduceLT, Int.reduceLE, Int.reduceGT, Int.reduceGE, Int.reduceEq, Int.reduceBEq, Int.reduceBNe, Int.reduceNeg, reduceCtorEq, hb_940]; exact rfl) ?_
      simp only [go_sem, reduceIte, Nat.reduceAdd, Nat.reduceSub, Nat.reduceMul, Nat.reduceEqDiff, Nat.reduceLT, Nat.reduceLeDiff, Nat.reduceBEq, Int.reduceToNat, Int.reduceLT, Int.reduceLE, Int.reduceGT, Int.reduceGE, Int.reduceEq, Int.reduceBEq, Int.reduceBNe, Int.reduceNeg, reduceCtorEq, hb_940]
      all_goals ((repeat' refine And.intro ?_ ?_) <;> first | rfl | (simp; done) | (simp; rfl) | (simp [*]; done) | (simp [*]; rfl))
    · rw [if_neg hb_940] at h
      have hb_940F := Bool.eq_false_iff.2 hb_940
      refine awp_cf (by simp only [go_sem, reduceIte, Nat.reduceAdd, Nat.reduceSub, Nat.reduceMul, Nat.reduceEqDiff, Nat.reduceLT, Nat.reduceLeDiff, Nat.reduceBEq, Int.reduceToNat, Int.reduceLT, Int.reduceLE, Int.reduceGT, Int.reduceGE, Int.reduceEq, Int.reduceBEq, Int.reduceBNe, Int.reduceNeg, reduceCtorEq, hb_940F]) ?_
      refine awp_skip ?_
      refine thenA_n ?_
      refine awp_seq ?_
      refine awp_region ?_
      refine AL_upto (by exact rfl) (by simp only [go_sem, reduceIte, Nat.reduceAdd, Nat.reduceSub, Nat.reduceMul, Nat.reduceEqDiff, Nat.reduceLT, Nat.reduceLeDiff, Nat.reduceBEq, Int.reduceToNat, Int.reduceLT, Int.reduceLE, Int.reduceGT, Int.reduceGE, Int.reduceEq, Int.reduceBEq, Int.reduceBNe, Int.reduceNeg, reduceCtorEq, hb_940F]; exact rfl) ?_
      obtain ⟨r_947, hr_948, h⟩ := Option.bind_eq_some_iff.1 h
      refine AL_con' rfl (guard_none rfl) rfl (by simp only [go_sem, reduceIte, Nat.reduceAdd, Nat.reduceSub, Nat.reduceMul, Nat.reduceEqDiff, Nat.reduceLT, Nat.reduceLeDiff, Nat.reduceBEq, Int.reduceToNat, Int.reduceLT, Int.reduceLE, Int.reduceGT, Int.reduceGE, Int.reduceEq, Int.reduceBEq, Int.reduceBNe, Int.reduceNeg, reduceCtorEq, hb_940F]; exact rfl) (by simp only [go_sem, reduceIte, Nat.reduceAdd, Nat.reduceSub, Nat.reduceMul, Nat.reduceEqDiff, Nat.reduceLT, Nat.reduceLeDiff, Nat.reduceBEq, Int.reduceToNat, Int.reduceLT, Int.reduceLE, Int.reduceGT, Int.reduceGE, Int.reduceEq, Int.reduceBEq, Int.reduceBNe, Int.reduceNeg, reduceCtorEq, hb_940F]; all_goals ((repeat' refine And.intro ?_ ?_) <;> first | rfl | (simp; done) | (simp; rfl) | (simp [*]; done) | (simp [*]; rfl))) (slices_Clone_Row_con rows_928 _ hr_948) (by first | exact .inl rfl | exact .inl (by simp only [go_sem])) rfl ?_
      refine AL_upto (by exact rfl) (by simp only [go_sem, reduceIte, Nat.reduceAdd, Nat.reduceSub, Nat.reduceMul, Nat.reduceEqDiff, Nat.reduceLT, Nat.reduceLeDiff, Nat.reduceBEq, Int.reduceToNat, Int.reduceLT, Int.reduceLE, Int.reduceGT, Int.reduceGE, Int.reduceEq, Int.reduceBEq, Int.reduceBNe, Int.reduceNeg, reduceCtorEq, hb_940F]; exact rfl) ?_
      obtain ⟨r_949, hr_950, h⟩ := Option.bind_eq_some_iff.1 h
      refine AL_con' rfl (guard_none rfl) rfl (by simp only [go_sem, reduceIte, Nat.reduceAdd, Nat.reduceSub, Nat.reduceMul, Nat.reduceEqDiff, Nat.reduceLT, Nat.reduceLeDiff, Nat.reduceBEq, Int.reduceToNat, Int.reduceLT, Int.reduceLE, Int.reduceGT, Int.reduceGE, Int.reduceEq, Int.reduceBEq, Int.reduceBNe, Int.reduceNeg, reduceCtorEq, hb_940F]; exact rfl) (by simp only [go_sem, reduceIte, Nat.reduceAdd, Nat.reduceSub, Nat.reduceMul, Nat.reduceEqDiff, Nat.reduceLT, Nat.reduceLeDiff, Nat.reduceBEq, Int.reduceToNat, Int.reduceLT, Int.reduceLE, Int.reduceGT, Int.reduceGE, Int.reduceEq, Int.reduceBEq, Int.reduceBNe, Int.reduceNeg, reduceCtorEq, hb_940F]; all_goals ((repeat' refine And.intro ?_ ?_) <;> first | rfl | (simp; done) | (simp; rfl) | (simp [*]; done) | (simp [*]; rfl))) (survivor_Choose_con r_947 attr_929 rule_930 _ hr_950) (.inr rfl) rfl ?_
      refine AL_upto (by exact rfl) (by simp only [go_sem, reduceIte, Nat.reduceAdd, Nat.reduceSub, Nat.reduceMul, Nat.reduceEqDiff, Nat.reduceLT, Nat.reduceLeDiff, Nat.reduceBEq, Int.reduceToNat, Int.reduceLT, Int.reduceLE, Int.reduceGT, Int.reduceGE, Int.reduceEq, Int.reduceBEq, Int.reduceBNe, Int.reduceNeg, reduceCtorEq, hb_940F]; exact rfl) ?_
      refine AL_nil ?_
      refine thenA_n ?_
      refine awp_seq ?_
      refine awp_region ?_
      refine AL_upto (by exact rfl) (by simp only [go_sem, reduceIte, Nat.reduceAdd, Nat.reduceSub, Nat.reduceMul, Nat.reduceEqDiff, Nat.reduceLT, Nat.reduceLeDiff, Nat.reduceBEq, Int.reduceToNat, Int.reduceLT, Int.reduceLE, Int.reduceGT, Int.reduceGE, Int.reduceEq, Int.reduceBEq, Int.reduceBNe, Int.reduceNeg, reduceCtorEq, hb_940F]; exact rfl) ?_
      obtain ⟨r_953, hr_954, h⟩ := Option.bind_eq_some_iff.1 h
      refine AL_con' rfl (guard_none rfl) rfl (by simp only [go_sem, reduceIte, Nat.reduceAdd, Nat.reduceSub, Nat.reduceMul, Nat.reduceEqDiff, Nat.reduceLT, Nat.reduceLeDiff, Nat.reduceBEq, Int.reduceToNat, Int.reduceLT, Int.reduceLE, Int.reduceGT, Int.reduceGE, Int.reduceEq, Int.reduceBEq, Int.reduceBNe, Int.reduceNeg, reduceCtorEq, hb_940F]; exact rfl) (by simp only [go_sem, reduceIte, Nat.reduceAdd, Nat.reduceSub, Nat.reduceMul, Nat.reduceEqDiff, Nat.reduceLT, Nat.reduceLeDiff, Nat.reduceBEq, Int.reduceToNat, Int.reduceLT, Int.reduceLE, Int.reduceGT, Int.reduceGE, Int.reduceEq, Int.reduceBEq, Int.reduceBNe, Int.reduceNeg, reduceCtorEq, hb_940F]; all_goals ((repeat' refine And.intro ?_ ?_) <;> first | rfl | (simp; done) | (simp; rfl) | (simp [*]; done) | (simp [*]; rfl))) (drossref55_Choose_con rows_928 attr_929 rule_930 _ hr_954) (.inr rfl) rfl ?_
      refine AL_upto (by exact rfl) (by simp only [go_sem, reduceIte, Nat.reduceAdd, Nat.reduceSub, Nat.reduceMul, Nat.reduceEqDiff, Nat.reduceLT, Nat.reduceLeDiff, Nat.reduceBEq, Int.reduceToNat, Int.reduceLT, Int.reduceLE, Int.reduceGT, Int.reduceGE, Int.reduceEq, Int.reduceBEq, Int.reduceBNe, Int.reduceNeg, reduceCtorEq, hb_940F]; exact rfl) ?_
      refine AL_nil ?_
      refine thenA_n ?_
      refine awp_seq ?_
      refine awp_region ?_
      refine AL_upto (by exact rfl) (by simp only [go_sem, reduceIte, Nat.reduceAdd, Nat.reduceSub, Nat.reduceMul, Nat.reduceEqDiff, Nat.reduceLT, Nat.reduceLeDiff, Nat.reduceBEq, Int.reduceToNat, Int.reduceLT, Int.reduceLE, Int.reduceGT, Int.reduceGE, Int.reduceEq, Int.reduceBEq, Int.reduceBNe, Int.reduceNeg, reduceCtorEq, hb_940F]; exact rfl) ?_
      by_cases hb_955 : (r_949.2.2 == r_953.2) = true
      · rw [if_pos hb_955] at h
        refine AL_known (d := 39) (v := .p (.bool true)) (by simp only [go_sem, reduceIte, Nat.reduceAdd, Nat.reduceSub, Nat.reduceMul, Nat.reduceEqDiff, Nat.reduceLT, Nat.reduceLeDiff, Nat.reduceBEq, Int.reduceToNat, Int.reduceLT, Int.reduceLE, Int.reduceGT, Int.reduceGE, Int.reduceEq, Int.reduceBEq, Int.reduceBNe, Int.reduceNeg, reduceCtorEq, hb_940F, hb_955]) ?_
        refine AL_gt' (guard_true' rfl rfl (by exact rfl) (by exact rfl)) rfl (by simp only [go_sem, reduceIte, Nat.reduceAdd, Nat.reduceSub, Nat.reduceMul, Nat.reduceEqDiff, Nat.reduceLT, Nat.reduceLeDiff, Nat.reduceBEq, Int.reduceToNat, Int.reduceLT, Int.reduceLE, Int.reduceGT, Int.reduceGE, Int.reduceEq, Int.reduceBEq, Int.reduceBNe, Int.reduceNeg, reduceCtorEq, hb_940F, hb_955]; exact rfl) ?_
        refine AL_gt' (guard_true' rfl rfl (by exact rfl) (by exact rfl)) rfl (by simp only [go_sem, reduceIte, Nat.reduceAdd, Nat.reduceSub, Nat.reduceMul, Nat.reduceEqDiff, Nat.reduceLT, Nat.reduceLeDiff, Nat.reduceBEq, Int.reduceToNat, Int.reduceLT, Int.reduceLE, Int.reduceGT, Int.reduceGE, Int.reduceEq, Int.reduceBEq, Int.reduceBNe, Int.reduceNeg, reduceCtorEq, hb_940F, hb_955]; exact rfl) ?_
        refine AL_gt' (guard_true' rfl rfl (by exact rfl) (by exact rfl)) rfl (by simp only [go_sem, reduceIte, Nat.reduceAdd, Nat.reduceSub, Nat.reduceMul, Nat.reduceEqDiff, Nat.reduceLT, Nat.reduceLeDiff, Nat.reduceBEq, Int.reduceToNat, Int.reduceLT, Int.reduceLE, Int.reduceGT, Int.reduceGE, Int.reduceEq, Int.reduceBEq, Int.reduceBNe, Int.reduceNeg, reduceCtorEq, hb_940F, hb_955]; exact rfl) ?_
        refine AL_gt' (guard_true' rfl rfl (by exact rfl) (by exact rfl)) rfl (by simp only [go_sem, reduceIte, Nat.reduceAdd, Nat.reduceSub, Nat.reduceMul, Nat.reduceEqDiff, Nat.reduceLT, Nat.reduceLeDiff, Nat.reduceBEq, Int.reduceToNat, Int.reduceLT, Int.reduceLE, Int.reduceGT, Int.reduceGE, Int.reduceEq, Int.reduceBEq, Int.reduceBNe, Int.reduceNeg, reduceCtorEq, hb_940F, hb_955]; exact rfl) ?_
        refine AL_upto (by exact rfl) (by simp only [go_sem, reduceIte, Nat.reduceAdd, Nat.reduceSub, Nat.reduceMul, Nat.reduceEqDiff, Nat.reduceLT, Nat.reduceLeDiff, Nat.reduceBEq, Int.reduceToNat, Int.reduceLT, Int.reduceLE, Int.reduceGT, Int.reduceGE, Int.reduceEq, Int.reduceBEq, Int.reduceBNe, Int.reduceNeg, reduceCtorEq, hb_940F, hb_955]; exact rfl) ?_
        by_cases hb_956 : ((r_949.1.Kind == r_953.1.Value.Kind) && ((r_949.1.Num == r_953.1.Value.Num) && (r_949.1.Str == r_953.1.Value.Str))) = true
        · rw [if_pos hb_956] at h
          refine AL_known (d := 45) (v := .p (.bool true)) (by simp only [go_sem, reduceIte, Nat.reduceAdd, Nat.reduceSub, Nat.reduceMul, Nat.reduceEqDiff, Nat.reduceLT, Nat.reduceLeDiff, Nat.reduceBEq, Int.reduceToNat, Int.reduceLT, Int.reduceLE, Int.reduceGT, Int.reduceGE, Int.reduceEq, Int.reduceBEq, Int.reduceBNe, Int.reduceNeg, reduceCtorEq, hb_940F, hb_955, hb_956]) ?_
          refine AL_gt' (guard_true' rfl rfl (by exact rfl) (by exact rfl)) rfl (by simp only [go_sem, reduceIte, Nat.reduceAdd, Nat.reduceSub, Nat.reduceMul, Nat.reduceEqDiff, Nat.reduceLT, Nat.reduceLeDiff, Nat.reduceBEq, Int.reduceToNat, Int.reduceLT, Int.reduceLE, Int.reduceGT, Int.reduceGE, Int.reduceEq, Int.reduceBEq, Int.reduceBNe, Int.reduceNeg, reduceCtorEq, hb_940F, hb_955, hb_956]; exact rfl) ?_
          refine AL_gt' (guard_true' rfl rfl (by exact rfl) (by exact rfl)) rfl (by simp only [go_sem, reduceIte, Nat.reduceAdd, Nat.reduceSub, Nat.reduceMul, Nat.reduceEqDiff, Nat.reduceLT, Nat.reduceLeDiff, Nat.reduceBEq, Int.reduceToNat, Int.reduceLT, Int.reduceLE, Int.reduceGT, Int.reduceGE, Int.reduceEq, Int.reduceBEq, Int.reduceBNe, Int.reduceNeg, reduceCtorEq, hb_940F, hb_955, hb_956]; exact rfl) ?_
          refine AL_gt' (guard_true' rfl rfl (by exact rfl) (by exact rfl)) rfl (by simp only [go_sem, reduceIte, Nat.reduceAdd, Nat.reduceSub, Nat.reduceMul, Nat.reduceEqDiff, Nat.reduceLT, Nat.reduceLeDiff, Nat.reduceBEq, Int.reduceToNat, Int.reduceLT, Int.reduceLE, Int.reduceGT, Int.reduceGE, Int.reduceEq, Int.reduceBEq, Int.reduceBNe, Int.reduceNeg, reduceCtorEq, hb_940F, hb_955, hb_956]; exact rfl) ?_
          refine AL_gt' (guard_true' rfl rfl (by exact rfl) (by exact rfl)) rfl (by simp only [go_sem, reduceIte, Nat.reduceAdd, Nat.reduceSub, Nat.reduceMul, Nat.reduceEqDiff, Nat.reduceLT, Nat.reduceLeDiff, Nat.reduceBEq, Int.reduceToNat, Int.reduceLT, Int.reduceLE, Int.reduceGT, Int.reduceGE, Int.reduceEq, Int.reduceBEq, Int.reduceBNe, Int.reduceNeg, reduceCtorEq, hb_940F, hb_955, hb_956]; exact rfl) ?_
          refine AL_upto (by exact rfl) (by simp only [go_sem, reduceIte, Nat.reduceAdd, Nat.reduceSub, Nat.reduceMul, Nat.reduceEqDiff, Nat.reduceLT, Nat.reduceLeDiff, Nat.reduceBEq, Int.reduceToNat, Int.reduceLT, Int.reduceLE, Int.reduceGT, Int.reduceGE, Int.reduceEq, Int.reduceBEq, Int.reduceBNe, Int.reduceNeg, reduceCtorEq, hb_940F, hb_955, hb_956]; exact rfl) ?_
          refine AL_nil ?_
          refine thenA_n ?_
          refine awp_ret ?_
          cases h
          refine retQ_ret (by simp only [Try.results3]; simp only [go_sem, reduceIte, Nat.reduceAdd, Nat.reduceSub, Nat.reduceMul, Nat.reduceEqDiff, Nat.reduceLT, Nat.reduceLeDiff, Nat.reduceBEq, Int.reduceToNat, Int.reduceLT, Int.reduceLE, Int.reduceGT, Int.reduceGE, Int.reduceEq, Int.reduceBEq, Int.reduceBNe, Int.reduceNeg, reduceCtorEq, hb_940F, hb_955, hb_956]; exact rfl) ?_
          simp only [go_sem, reduceIte, Nat.reduceAdd, Nat.reduceSub, Nat.reduceMul, Nat.reduceEqDiff, Nat.reduceLT, Nat.reduceLeDiff, Nat.reduceBEq, Int.reduceToNat, Int.reduceLT, Int.reduceLE, Int.reduceGT, Int.reduceGE, Int.reduceEq, Int.reduceBEq, Int.reduceBNe, Int.reduceNeg, reduceCtorEq, hb_940F, hb_955, hb_956]
          all_goals ((repeat' refine And.intro ?_ ?_) <;> first | rfl | (simp; done) | (simp; rfl) | (simp [*]; done) | (simp [*]; rfl))
        · rw [if_neg hb_956] at h
          have hb_956F := Bool.eq_false_iff.2 hb_956
          refine AL_known (d := 45) (v := .p (.bool false)) (by simp only [go_sem, reduceIte, Nat.reduceAdd, Nat.reduceSub, Nat.reduceMul, Nat.reduceEqDiff, Nat.reduceLT, Nat.reduceLeDiff, Nat.reduceBEq, Int.reduceToNat, Int.reduceLT, Int.reduceLE, Int.reduceGT, Int.reduceGE, Int.reduceEq, Int.reduceBEq, Int.reduceBNe, Int.reduceNeg, reduceCtorEq, hb_940F, hb_955, hb_956F]) ?_
          refine AL_skips (by exact rfl) ?_
          refine AL_upto (by exact rfl) (by simp only [go_sem, reduceIte, Nat.reduceAdd, Nat.reduceSub, Nat.reduceMul, Nat.reduceEqDiff, Nat.reduceLT, Nat.reduceLeDiff, Nat.reduceBEq, Int.reduceToNat, Int.reduceLT, Int.reduceLE, Int.reduceGT, Int.reduceGE, Int.reduceEq, Int.reduceBEq, Int.reduceBNe, Int.reduceNeg, reduceCtorEq, hb_940F, hb_955, hb_956F]; exact rfl) ?_
          refine AL_nil ?_
          refine thenA_n ?_
          refine awp_ret ?_
          cases h
          refine retQ_ret (by simp only [Try.results3]; simp only [go_sem, reduceIte, Nat.reduceAdd, Nat.reduceSub, Nat.reduceMul, Nat.reduceEqDiff, Nat.reduceLT, Nat.reduceLeDiff, Nat.reduceBEq, Int.reduceToNat, Int.reduceLT, Int.reduceLE, Int.reduceGT, Int.reduceGE, Int.reduceEq, Int.reduceBEq, Int.reduceBNe, Int.reduceNeg, reduceCtorEq, hb_940F, hb_955, hb_956F]; exact rfl) ?_
          simp only [go_sem, reduceIte, Nat.reduceAdd, Nat.reduceSub, Nat.reduceMul, Nat.reduceEqDiff, Nat.reduceLT, Nat.reduceLeDiff, Nat.reduceBEq, Int.reduceToNat, Int.reduceLT, Int.reduceLE, Int.reduceGT, Int.reduceGE, Int.reduceEq, Int.reduceBEq, Int.reduceBNe, Int.reduceNeg, reduceCtorEq, hb_940F, hb_955, hb_956F]
          all_goals ((repeat' refine And.intro ?_ ?_) <;> first | rfl | (simp; done) | (simp; rfl) | (simp [*]; done) | (simp [*]; rfl))
      · rw [if_neg hb_955] at h
        have hb_955F := Bool.eq_false_iff.2 hb_955
        refine AL_known (d := 39) (v := .p (.bool false)) (by simp only [go_sem, reduceIte, Nat.reduceAdd, Nat.reduceSub, Nat.reduceMul, Nat.reduceEqDiff, Nat.reduceLT, Nat.reduceLeDiff, Nat.reduceBEq, Int.reduceToNat, Int.reduceLT, Int.reduceLE, Int.reduceGT, Int.reduceGE, Int.reduceEq, Int.reduceBEq, Int.reduceBNe, Int.reduceNeg, reduceCtorEq, hb_940F, hb_955F]) ?_
        refine AL_skips (by exact rfl) ?_
        refine AL_upto (by exact rfl) (by simp only [go_sem, reduceIte, Nat.reduceAdd, Nat.reduceSub, Nat.reduceMul, Nat.reduceEqDiff, Nat.reduceLT, Nat.reduceLeDiff, Nat.reduceBEq, Int.reduceToNat, Int.reduceLT, Int.reduceLE, Int.reduceGT, Int.reduceGE, Int.reduceEq, Int.reduceBEq, Int.reduceBNe, Int.reduceNeg, reduceCtorEq, hb_940F, hb_955F]; exact rfl) ?_
        refine AL_skips (by exact rfl) ?_
        refine AL_upto (by exact rfl) (by simp only [go_sem, reduceIte, Nat.reduceAdd, Nat.reduceSub, Nat.reduceMul, Nat.reduceEqDiff, Nat.reduceLT, Nat.reduceLeDiff, Nat.reduceBEq, Int.reduceToNat, Int.reduceLT, Int.reduceLE, Int.reduceGT, Int.reduceGE, Int.reduceEq, Int.reduceBEq, Int.reduceBNe, Int.reduceNeg, reduceCtorEq, hb_940F, hb_955F]; exact rfl) ?_
        refine AL_nil ?_
        refine thenA_n ?_
        refine awp_ret ?_
        cases h
        refine retQ_ret (by simp only [Try.results3]; simp only [go_sem, reduceIte, Nat.reduceAdd, Nat.reduceSub, Nat.reduceMul, Nat.reduceEqDiff, Nat.reduceLT, Nat.reduceLeDiff, Nat.reduceBEq, Int.reduceToNat, Int.reduceLT, Int.reduceLE, Int.reduceGT, Int.reduceGE, Int.reduceEq, Int.reduceBEq, Int.reduceBNe, Int.reduceNeg, reduceCtorEq, hb_940F, hb_955F]; exact rfl) ?_
        simp only [go_sem, reduceIte, Nat.reduceAdd, Nat.reduceSub, Nat.reduceMul, Nat.reduceEqDiff, Nat.reduceLT, Nat.reduceLeDiff, Nat.reduceBEq, Int.reduceToNat, Int.reduceLT, Int.reduceLE, Int.reduceGT, Int.reduceGE, Int.reduceEq, Int.reduceBEq, Int.reduceBNe, Int.reduceNeg, reduceCtorEq, hb_940F, hb_955F]
        all_goals ((repeat' refine And.intro ?_ ?_) <;> first | rfl | (simp; done) | (simp; rfl) | (simp [*]; done) | (simp [*]; rfl))
end Go.Proofs.Ytdmddoljldjjeaa
