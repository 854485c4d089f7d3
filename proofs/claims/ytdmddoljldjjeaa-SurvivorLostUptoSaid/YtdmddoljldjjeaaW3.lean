/- Each function of the program computes what its Lean function says, where that has a value. -/
import Derived.Test.YtdmddoljldjjeaaW1
import Derived.Test.YtdmddoljldjjeaaW2
set_option linter.unusedVariables false
set_option linter.unusedSimpArgs false
namespace Go.Proofs.Ytdmddoljldjjeaa
open Go Go.Ab
set_option maxHeartbeats 4000000 in
theorem drossref55_WellFormed_con (m_2037 : Merged) (r_2199 : Bool) (h : drossref55_WellFormed m_2037 = some r_2199) : Con Try.prog 38 [(encMerged m_2037)] (.bool r_2199) := by
  refine ⟨Try.call38, ?_⟩
  refine pure_of_awp Try.func38 rfl Try.ntmps38 (by simp) fun X w => ?_
  show AWp _ _ _ ⟨[(0, .p (encMerged m_2037))], []⟩
  simp only [drossref55_WellFormed] at h
  refine awp_seq ?_
  refine awp_region ?_
  refine AL_upto (by exact rfl) (by simp only [go_sem, seval]; exact rfl) ?_
  refine AL_nil ?_
  refine thenA_n ?_
  refine awp_seq ?_
  refine awp_seq ?_
  refine awp_region ?_
  refine AL_upto (by exact rfl) (by simp only [go_sem, seval]; exact rfl) ?_
  obtain ⟨r_2038, hr_2039, h⟩ := Option.bind_eq_some_iff.1 h
  refine AL_con' rfl (guard_none rfl) rfl (by simp only [go_sem, seval]; exact rfl) (by simp only [go_sem, seval]; all_goals ((repeat' refine And.intro ?_ ?_) <;> first | rfl | (simp; done) | (simp; rfl) | (simp [*]; done) | (simp [*]; rfl))) (drossref03_Valid_con m_2037.Table _ hr_2039) (.inr rfl) rfl ?_
  refine AL_upto (by exact rfl) (by simp only [go_sem, seval]; exact rfl) ?_
  by_cases hb_2040 : (r_2038 != 0) = true
  · rw [if_pos hb_2040] at h
    refine AL_known (d := 9) (v := .p (.bool true)) (by simp only [go_sem, seval, hb_2040]) ?_
    refine AL_skips (by exact rfl) ?_
    refine AL_upto (by exact rfl) (by simp only [go_sem, seval, hb_2040]; exact rfl) ?_
    refine AL_skips (by exact rfl) ?_
    refine AL_upto (by exact rfl) (by simp only [go_sem, seval, hb_2040]; exact rfl) ?_
    refine AL_skips (by exact rfl) ?_
    refine AL_upto (by exact rfl) (by simp only [go_sem, seval, hb_2040]; exact rfl) ?_
    refine AL_nil ?_
    refine thenA_n ?_
    refine awp_ct (by simp only [go_sem, seval, hb_2040]) ?_
    refine awp_seq ?_
    refine awp_region ?_
    refine AL_upto (by exact rfl) (by simp only [go_sem, seval, hb_2040]; exact rfl) ?_
    refine AL_nil ?_
    refine thenA_n ?_
    refine awp_ret ?_
    refine thenA_ret ?_
    cases h
    refine retQ_ret (by simp only [Try.results38]; simp only [go_sem, seval, hb_2040]; exact rfl) ?_
    simp only [go_sem, seval, hb_2040]
    all_goals ((repeat' refine And.intro ?_ ?_) <;> first | rfl | (simp; done) | (simp; rfl) | (simp [*]; done) | (simp [*]; rfl))
  · rw [if_neg hb_2040] at h
    have hb_2040F := Bool.eq_false_iff.2 hb_2040
    refine AL_known (d := 9) (v := .p (.bool false)) (by simp only [go_sem, seval, hb_2040F]) ?_
    refine AL_gt' (guard_true' rfl rfl (by exact rfl) (by exact rfl)) rfl (by simp only [go_sem, seval, hb_2040F]; exact rfl) ?_
    refine AL_gt' (guard_true' rfl rfl (by exact rfl) (by exact rfl)) rfl (by simp only [go_sem, seval, hb_2040F]; exact rfl) ?_
    refine AL_gt' (guard_true' rfl rfl (by exact rfl) (by exact rfl)) rfl (by simp only [go_sem, seval, hb_2040F]; exact rfl) ?_
    refine AL_gt' (guard_true' rfl rfl (by exact rfl) (by exact rfl)) rfl (by simp only [go_sem, seval, hb_2040F]; exact rfl) ?_
    refine AL_gt' (guard_true' rfl rfl (by exact rfl) (by exact rfl)) rfl (by simp only [go_sem, seval, hb_2040F]; exact rfl) ?_
    refine AL_gt' (guard_true' rfl rfl (by exact rfl) (by exact rfl)) rfl (by simp only [go_sem, seval, hb_2040F]; exact rfl) ?_
    refine AL_gt' (guard_true' rfl rfl (by exact rfl) (by exact rfl)) rfl (by simp only [go_sem, seval, hb_2040F]; exact rfl) ?_
    refine AL_gt' (guard_true' rfl rfl (by exact rfl) (by exact rfl)) rfl (by simp only [go_sem, seval, hb_2040F]; exact rfl) ?_
    refine AL_upto (by exact rfl) (by simp only [go_sem, seval, hb_2040F]; exact rfl) ?_
    by_cases hb_2041 : ((m_2037.Clusters.length : Int) != (m_2037.Table.Rows.length : Int)) = true
    · rw [if_pos hb_2041] at h
      refine AL_known (d := 19) (v := .p (.bool true)) (by simp only [go_sem, seval, hb_2040F, hb_2041]) ?_
      refine AL_skips (by exact rfl) ?_
      refine AL_upto (by exact rfl) (by simp only [go_sem, seval, hb_2040F, hb_2041]; exact rfl) ?_
      refine AL_skips (by exact rfl) ?_
      refine AL_upto (by exact rfl) (by simp only [go_sem, seval, hb_2040F, hb_2041]; exact rfl) ?_
      refine AL_nil ?_
      refine thenA_n ?_
      refine awp_ct (by simp only [go_sem, seval, hb_2040F, hb_2041]) ?_
      refine awp_seq ?_
      refine awp_region ?_
      refine AL_upto (by exact rfl) (by simp only [go_sem, seval, hb_2040F, hb_2041]; exact rfl) ?_
      refine AL_nil ?_
      refine thenA_n ?_
      refine awp_ret ?_
      refine thenA_ret ?_
      cases h
      refine retQ_ret (by simp only [Try.results38]; simp only [go_sem, seval, hb_2040F, hb_2041]; exact rfl) ?_
      simp only [go_sem, seval, hb_2040F, hb_2041]
      all_goals ((repeat' refine And.intro ?_ ?_) <;> first | rfl | (simp; done) | (simp; rfl) | (simp [*]; done) | (simp [*]; rfl))
    · rw [if_neg hb_2041] at h
      have hb_2041F := Bool.eq_false_iff.2 hb_2041
      refine AL_known (d := 19) (v := .p (.bool false)) (by simp only [go_sem, seval, hb_2040F, hb_2041F]) ?_
      refine AL_gt' (guard_true' rfl rfl (by exact rfl) (by exact rfl)) rfl (by simp only [go_sem, seval, hb_2040F, hb_2041F]; exact rfl) ?_
      refine AL_gt' (guard_true' rfl rfl (by exact rfl) (by exact rfl)) rfl (by simp only [go_sem, seval, hb_2040F, hb_2041F]; exact rfl) ?_
      refine AL_gt' (guard_true' rfl rfl (by exact rfl) (by exact rfl)) rfl (by simp only [go_sem, seval, hb_2040F, hb_2041F]; exact rfl) ?_
      refine AL_gt' (guard_true' rfl rfl (by exact rfl) (by exact rfl)) rfl (by simp only [go_sem, seval, hb_2040F, hb_2041F]; exact rfl) ?_
      refine AL_gt' (guard_true' rfl rfl (by exact rfl) (by exact rfl)) rfl (by simp only [go_sem, seval, hb_2040F, hb_2041F]; exact rfl) ?_
      refine AL_gt' (guard_true' rfl rfl (by exact rfl) (by exact rfl)) rfl (by simp only [go_sem, seval, hb_2040F, hb_2041F]; exact rfl) ?_
      refine AL_gt' (guard_true' rfl rfl (by exact rfl) (by exact rfl)) rfl (by simp only [go_sem, seval, hb_2040F, hb_2041F]; exact rfl) ?_
      refine AL_gt' (guard_true' rfl rfl (by exact rfl) (by exact rfl)) rfl (by simp only [go_sem, seval, hb_2040F, hb_2041F]; exact rfl) ?_
      refine AL_upto (by exact rfl) (by simp only [go_sem, seval, hb_2040F, hb_2041F]; exact rfl) ?_
      by_cases hb_2042 : ((m_2037.Origins.length : Int) != (m_2037.Table.Rows.length : Int)) = true
      · rw [if_pos hb_2042] at h
        refine AL_known (d := 29) (v := .p (.bool true)) (by simp only [go_sem, seval, hb_2040F, hb_2041F, hb_2042]) ?_
        refine AL_skips (by exact rfl) ?_
        refine AL_upto (by exact rfl) (by simp only [go_sem, seval, hb_2040F, hb_2041F, hb_2042]; exact rfl) ?_
        refine AL_nil ?_
        refine thenA_n ?_
        refine awp_ct (by simp only [go_sem, seval, hb_2040F, hb_2041F, hb_2042]) ?_
        refine awp_seq ?_
        refine awp_region ?_
        refine AL_upto (by exact rfl) (by simp only [go_sem, seval, hb_2040F, hb_2041F, hb_2042]; exact rfl) ?_
        refine AL_nil ?_
        refine thenA_n ?_
        refine awp_ret ?_
        refine thenA_ret ?_
        cases h
        refine retQ_ret (by simp only [Try.results38]; simp only [go_sem, seval, hb_2040F, hb_2041F, hb_2042]; exact rfl) ?_
        simp only [go_sem, seval, hb_2040F, hb_2041F, hb_2042]
        all_goals ((repeat' refine And.intro ?_ ?_) <;> first | rfl | (simp; done) | (simp; rfl) | (simp [*]; done) | (simp [*]; rfl))
      · rw [if_neg hb_2042] at h
        have hb_2042F := Bool.eq_false_iff.2 hb_2042
        refine AL_known (d := 29) (v := .p (.bool false)) (by simp only [go_sem, seval, hb_2040F, hb_2041F, hb_2042F]) ?_
        refine AL_gt' (guard_true' rfl rfl (by exact rfl) (by exact rfl)) rfl (by simp only [go_sem, seval, hb_2040F, hb_2041F, hb_2042F]; exact rfl) ?_
        refine AL_gt' (guard_true' rfl rfl (by exact rfl) (by exact rfl)) rfl (by simp only [go_sem, seval, hb_2040F, hb_2041F, hb_2042F]; exact rfl) ?_
        obtain ⟨r_2043, hr_2044, h⟩ := Option.bind_eq_some_iff.1 h
        refine AL_con' rfl (guard_true' rfl rfl (by exact rfl) (by exact rfl)) rfl (by simp only [go_sem, seval, hb_2040F, hb_2041F, hb_2042F]; exact rfl) (by simp only [go_sem, seval, hb_2040F, hb_2041F, hb_2042F]; all_goals ((repeat' refine And.intro ?_ ?_) <;> first | rfl | (simp; done) | (simp; rfl) | (simp [*]; done) | (simp [*]; rfl))) (drossref55_once_con m_2037.Clusters _ hr_2044) (.inr rfl) rfl ?_
        refine AL_gt' (guard_true' rfl rfl (by exact rfl) (by exact rfl)) rfl (by simp only [go_sem, seval, hb_2040F, hb_2041F, hb_2042F]; exact rfl) ?_
        refine AL_upto (by exact rfl) (by simp only [go_sem, seval, hb_2040F, hb_2041F, hb_2042F]; exact rfl) ?_
        refine AL_nil ?_
        refine thenA_n ?_
        by_cases hb_2045 : r_2043 = true
        · rw [if_pos hb_2045] at h
          refine awp_cf (by simp only [go_sem, seval, hb_2040F, hb_2041F, hb_2042F, hb_2045]) ?_
          refine awp_skip ?_
          refine thenA_n ?_
          refine awp_seq ?_
          refine awp_seq ?_
          refine awp_region ?_
          refine AL_upto (by exact rfl) (by simp only [go_sem, seval, hb_2040F, hb_2041F, hb_2042F, hb_2045]; exact rfl) ?_
          refine AL_nil ?_
          refine thenA_n ?_
          refine awp_block ?_
          obtain ⟨o_2194, hL_2195, h⟩ := Option.bind_eq_some_iff.1 h
          refine awp_loop_L (fun (s : Int) => ⟨[(1, .loc 1 1 0 0), (3, .p (.int .i64 s))], [(1, .arr 55 5 1 [.p (encMerged m_2037)])]⟩) (fun (o : (Unit) ⊕ (Bool)) (e : Exit) (s' : St) => match o with | .inl o_2197 => e = (.exit 0) ∧ Le ⟨Try.prog, Try.f38.ntmps, 0, X, [], fun _ => none, w⟩ s' ⟨[], []⟩ | .inr o_2198 => e = .ret ∧ retQ Try.prog Try.f38 (.bool o_2198) .ret s') (by intro o s hT; rcases o with _ | _ <;> (have hh := hT.1; cases hh)) hL_2195 (by simp only [go_sem, seval, hb_2040F, hb_2041F, hb_2042F, hb_2045]; all_goals ((repeat' refine And.intro ?_ ?_) <;> first | rfl | (simp; done) | (simp; rfl) | (simp [*]; done) | (simp [*]; rfl))) ?_ ?_
          · clear h
            intro i_2095 x h
            simp only [drossref55_WellFormed_l4] at h
            show AWp _ _ _ ⟨[(1, .loc 1 1 0 0), (3, .p (.int .i64 i_2095))], [(1, .arr 55 5 1 [.p (encMerged m_2037)])]⟩
            refine awp_seq ?_
            refine awp_seq ?_
            refine awp_region ?_
            refine AL_upto (by exact rfl) (by simp only [go_sem, seval]; exact rfl) ?_
            refine AL_nil ?_
            refine thenA_n ?_
            by_cases hb_2145 : i_2095 < (m_2037.Clusters.length : Int)
            · rw [if_pos hb_2145] at h
              have hb_2145T := eq_true hb_2145
              refine awp_ct (by simp only [go_sem, seval, hb_2145T]) ?_
              refine awp_skip ?_
              refine thenA_n ?_
              refine awp_seq ?_
              refine awp_block ?_
              refine awp_seq ?_
              refine awp_seq ?_
              refine awp_drawn_walk mixed (by decide) ?_
              obtain ⟨x_2146, hx_2147, h⟩ := Option.bind_eq_some_iff.1 h
              obtain ⟨hx_2147a, hx_2147, hx_2147b⟩ := idx_some hx_2147
              have hx_2147A := eq_true hx_2147a
              have hx_2147B := eq_true hx_2147b
              obtain ⟨x_2148, hx_2149, h⟩ := Option.bind_eq_some_iff.1 h
              obtain ⟨hx_2149a, hx_2149, hx_2149b⟩ := idx_some hx_2149
              have hx_2149A := eq_true hx_2149a
              have hx_2149B := eq_true hx_2149b
              obtain ⟨x_2150, hx_2151, h⟩ := Option.bind_eq_some_iff.1 h
              have hx_2151l := eq_true (lt_of_get hx_2151)
              have hx_2151L : ((0 : Int) < (x_2148.length : Int)) = True := eq_true (by have := lt_of_get hx_2151; omega)
              refine DGo.upto (by exact rfl) (by simp only [go_sem, seval, hb_2145T, hx_2147, hx_2147A, hx_2147B, hx_2149, hx_2149A, hx_2149B, hx_2151, hx_2151l, hx_2151L]; exact ⟨rfl, rfl⟩) ?_
              by_cases hb_2152 : (x_2146.ID != x_2150) = true
              · rw [if_pos hb_2152] at h
                refine DGo.known' (d := 57) (v := .p (.bool true)) (by simp only [go_sem, seval, hb_2145T, hb_2152]) ?_
                refine DGo.skips (by exact rfl) ?_
                refine DGo.upto (by exact rfl) (by simp only [go_sem, seval, hb_2145T, hb_2152]; exact ⟨rfl, rfl⟩) ?_
                refine DGo.fin rfl ?_
                refine thenA_n ?_
                refine awp_ct (by simp only [go_sem, seval, hb_2145T, hb_2152]) ?_
                refine awp_seq ?_
                refine awp_region ?_
                refine AL_upto (by exact rfl) (by simp only [go_sem, seval, hb_2145T, hb_2152]; exact rfl) ?_
                refine AL_nil ?_
                refine thenA_n ?_
                refine awp_ret ?_
                refine thenA_ret ?_
                refine blockA_ret ?_
                refine thenA_ret ?_
                cases h
                refine ⟨rfl, ?_⟩
                refine retQ_ret (by simp only [Try.results38]; simp only [go_sem, seval, hb_2145T, hb_2152]; exact rfl) ?_
                simp only [go_sem, seval, hb_2145T, hb_2152]
                all_goals ((repeat' refine And.intro ?_ ?_) <;> first | rfl | (simp; done) | (simp; rfl) | (simp [*]; done) | (simp [*]; rfl))
              · rw [if_neg hb_2152] at h
                have hb_2152F := Bool.eq_false_iff.2 hb_2152
                refine DGo.known' (d := 57) (v := .p (.bool false)) (by simp only [go_sem, seval, hb_2145T, hb_2152F]) ?_
                refine DGo.gt' (guard_true' rfl rfl (by exact rfl) (by exact rfl)) rfl (by simp only [go_sem, seval, hb_2145T, hb_2152F]; exact ⟨rfl, rfl⟩) ?_
                refine DGo.gt' (guard_true' rfl rfl (by exact rfl) (by exact rfl)) rfl (by simp only [go_sem, seval, hb_2145T, hb_2152F]; exact ⟨rfl, rfl⟩) ?_
                refine DGo.gt' (guard_true' rfl rfl (by exact rfl) (by exact rfl)) rfl (by simp only [go_sem, seval, hb_2145T, hb_2152F]; exact ⟨rfl, rfl⟩) ?_
                obtain ⟨x_2155, hx_2156, h⟩ := Option.bind_eq_some_iff.1 h
                obtain ⟨hx_2156a, hx_2156, hx_2156b⟩ := idx_some hx_2156
                have hx_2156A := eq_true hx_2156a
                have hx_2156B := eq_true hx_2156b
                refine DGo.gt' (guard_true' rfl rfl (by exact rfl) (by exact rfl)) rfl (by simp only [go_sem, seval, hb_2145T, hb_2152F, hx_2156, hx_2156A, hx_2156B]; exact ⟨rfl, rfl⟩) ?_
                refine DGo.gt' (guard_true' rfl rfl (by exact rfl) (by exact rfl)) rfl (by simp only [go_sem, seval, hb_2145T, hb_2152F]; exact ⟨rfl, rfl⟩) ?_
                refine DGo.gt' (guard_true' rfl rfl (by exact rfl) (by exact rfl)) rfl (by simp only [go_sem, seval, hb_2145T, hb_2152F]; exact ⟨rfl, rfl⟩) ?_
                refine DGo.gt' (guard_true' rfl rfl (by exact rfl) (by exact rfl)) rfl (by simp only [go_sem, seval, hb_2145T, hb_2152F]; exact ⟨rfl, rfl⟩) ?_
                refine DGo.gt' (guard_true' rfl rfl (by exact rfl) (by exact rfl)) rfl (by simp only [go_sem, seval, hb_2145T, hb_2152F]; exact ⟨rfl, rfl⟩) ?_
                refine DGo.gt' (guard_true' rfl rfl (by exact rfl) (by exact rfl)) rfl (by simp only [go_sem, seval, hb_2145T, hb_2152F]; exact ⟨rfl, rfl⟩) ?_
                refine DGo.gt' (guard_true' rfl rfl (by exact rfl) (by exact rfl)) rfl (by simp only [go_sem, seval, hb_2145T, hb_2152F]; exact ⟨rfl, rfl⟩) ?_
                refine DGo.gt' (guard_true' rfl rfl (by exact rfl) (by exact rfl)) rfl (by simp only [go_sem, seval, hb_2145T, hb_2152F]; exact ⟨rfl, rfl⟩) ?_
                refine DGo.upto (by exact rfl) (by simp only [go_sem, seval, hb_2145T, hb_2152F]; exact ⟨rfl, rfl⟩) ?_
                refine DGo.fin rfl ?_
                refine thenA_n ?_
                by_cases hb_2157 : ((x_2155.length : Int) != (m_2037.Table.Attrs.length : Int)) = true
                · rw [if_pos hb_2157] at h
                  refine awp_ct (by simp only [go_sem, seval, hb_2145T, hb_2152F, hb_2157]) ?_
                  refine awp_seq ?_
                  refine awp_region ?_
                  refine AL_upto (by exact rfl) (by simp only [go_sem, seval, hb_2145T, hb_2152F, hb_2157]; exact rfl) ?_
                  refine AL_nil ?_
                  refine thenA_n ?_
                  refine awp_ret ?_
                  refine thenA_ret ?_
                  refine blockA_ret ?_
                  refine thenA_ret ?_
                  cases h
                  refine ⟨rfl, ?_⟩
                  refine retQ_ret (by simp only [Try.results38]; simp only [go_sem, seval, hb_2145T, hb_2152F, hb_2157]; exact rfl) ?_
                  simp only [go_sem, seval, hb_2145T, hb_2152F, hb_2157]
                  all_goals ((repeat' refine And.intro ?_ ?_) <;> first | rfl | (simp; done) | (simp; rfl) | (simp [*]; done) | (simp [*]; rfl))
                · rw [if_neg hb_2157] at h
                  have hb_2157F := Bool.eq_false_iff.2 hb_2157
                  refine awp_cf (by simp only [go_sem, seval, hb_2145T, hb_2152F, hb_2157F]) ?_
                  refine awp_skip ?_
                  refine thenA_n ?_
                  refine awp_seq ?_
                  refine awp_region ?_
                  refine AL_upto (by exact rfl) (by simp only [go_sem, seval, hb_2145T, hb_2152F, hb_2157F]; exact rfl) ?_
                  refine AL_nil ?_
                  refine thenA_n ?_
                  refine awp_block ?_
                  obtain ⟨o_2189, hL_2190, h⟩ := Option.bind_eq_some_iff.1 h
                  refine awp_loop_L (fun (s : Int) => ⟨[(1, .loc 1 1 0 0), (3, .p (.int .i64 i_2095)), (4, .p (.int .i64 s)), (58, .loc 1 1 0 4), (59, .p (.slc (List.map (encL (PV.int .i64)) m_2037.Origins))), (60, .p (.int .i64 i_2095)), (61, .p (.imm [.slc (List.map (PV.int .i64) x_2155)])), (62, .p (.slc (List.map (PV.int .i64) x_2155))), (63, .p (.int .i64 (x_2155.length : Int))), (64, .loc 1 1 0 0), (65, .loc 1 1 0 1), (66, .p (.slc (List.map PV.str m_2037.Table.Attrs))), (67, .p (.int .i64 (m_2037.Table.Attrs.length : Int))), (68, .p (.bool ((x_2155.length : Int) != (m_2037.Table.Attrs.length : Int))))], [(1, .arr 55 5 1 [.p (encMerged m_2037)])]⟩) (fun (o : (Unit) ⊕ (Bool)) (e : Exit) (s' : St) => match o with | .inl o_2192 => e = (.exit 2) ∧ Le ⟨Try.prog, Try.f38.ntmps, 0, X, [], fun _ => none, w⟩ s' ⟨[(1, .loc 1 1 0 0), (3, .p (.int .i64 i_2095)), (58, .loc 1 1 0 4), (59, .p (.slc (List.map (encL (PV.int .i64)) m_2037.Origins))), (60, .p (.int .i64 i_2095)), (61, .p (.imm [.slc (List.map (PV.int .i64) x_2155)])), (62, .p (.slc (List.map (PV.int .i64) x_2155))), (63, .p (.int .i64 (x_2155.length : Int))), (64, .loc 1 1 0 0), (65, .loc 1 1 0 1), (66, .p (.slc (List.map PV.str m_2037.Table.Attrs))), (67, .p (.int .i64 (m_2037.Table.Attrs.length : Int))), (68, .p (.bool ((x_2155.length : Int) != (m_2037.Table.Attrs.length : Int))))], [(1, .arr 55 5 1 [.p (encMerged m_2037)])]⟩ | .inr o_2193 => e = .ret ∧ retQ Try.prog Try.f38 (.bool o_2193) .ret s') (by intro o s hT; rcases o with _ | _ <;> (have hh := hT.1; cases hh)) hL_2190 (by simp only [go_sem, seval, hb_2145T, hb_2152F, hb_2157F]; all_goals ((repeat' refine And.intro ?_ ?_) <;> first | rfl | (simp; done) | (simp; rfl) | (simp [*]; done) | (simp [*]; rfl))) ?_ ?_
                  · clear h
                    intro k_2168 x h
                    simp only [drossref55_WellFormed_l3] at h
                    show AWp _ _ _ ⟨[(1, .loc 1 1 0 0), (3, .p (.int .i64 i_2095)), (4, .p (.int .i64 k_2168)), (58, .loc 1 1 0 4), (59, .p (.slc (List.map (encL (PV.int .i64)) m_2037.Origins))), (60, .p (.int .i64 i_2095)), (61, .p (.imm [.slc (List.map (PV.int .i64) x_2155)])), (62, .p (.slc (List.map (PV.int .i64) x_2155))), (63, .p (.int .i64 (x_2155.length : Int))), (64, .loc 1 1 0 0), (65, .loc 1 1 0 1), (66, .p (.slc (List.map PV.str m_2037.Table.Attrs))), (67, .p (.int .i64 (m_2037.Table.Attrs.length : Int))), (68, .p (.bool ((x_2155.length : Int) != (m_2037.Table.Attrs.length : Int))))], [(1, .arr 55 5 1 [.p (encMerged m_2037)])]⟩
                    refine awp_seq ?_
                    refine awp_seq ?_
                    refine awp_region ?_
                    obtain ⟨x_2179, hx_2180, h⟩ := Option.bind_eq_some_iff.1 h
                    obtain ⟨hx_2180a, hx_2180, hx_2180b⟩ := idx_some hx_2180
                    have hx_2180A := eq_true hx_2180a
                    have hx_2180B := eq_true hx_2180b
                    refine AL_upto (by exact rfl) (by simp only [go_sem, seval, hx_2180, hx_2180A, hx_2180B]; exact rfl) ?_
                    refine AL_nil ?_
                    refine thenA_n ?_
                    by_cases hb_2181 : k_2168 < (x_2179.length : Int)
                    · rw [if_pos hb_2181] at h
                      have hb_2181T := eq_true hb_2181
                      refine awp_ct (by simp only [go_sem, seval, hb_2181T]) ?_
                      refine awp_skip ?_
                      refine thenA_n ?_
                      refine awp_seq ?_
                      refine awp_block ?_
                      refine awp_seq ?_
                      refine awp_drawn_walk mixed (by decide) ?_
                      obtain ⟨x_2182, hx_2183, h⟩ := Option.bind_eq_some_iff.1 h
                      obtain ⟨hx_2183a, hx_2183, hx_2183b⟩ := idx_some hx_2183
                      have hx_2183A := eq_true hx_2183a
                      have hx_2183B := eq_true hx_2183b
                      obtain ⟨x_2184, hx_2185, h⟩ := Option.bind_eq_some_iff.1 h
                      obtain ⟨hx_2185a, hx_2185, hx_2185b⟩ := idx_some hx_2185
                      have hx_2185A := eq_true hx_2185a
                      have hx_2185B := eq_true hx_2185b
                      refine DGo.upto (by exact rfl) (by simp only [go_sem, seval, hb_2181T, hx_2183, hx_2183A, hx_2183B, hx_2180, hx_2180A, hx_2180B, hx_2185, hx_2185A, hx_2185B]; exact ⟨rfl, rfl⟩) ?_
                      obtain ⟨r_2186, hr_2187, h⟩ := Option.bind_eq_some_iff.1 h
                      refine DGo.con' rfl (guard_none rfl) rfl (by simp only [go_sem, seval, hb_2181T]; exact rfl) (by simp only [go_sem, seval, hb_2181T]; all_goals ((repeat' refine And.intro ?_ ?_) <;> first | rfl | (simp; done) | (simp; rfl) | (simp [*]; done) | (simp [*]; rfl))) (by simp only [go_sem, seval, hb_2181T]; exact rfl) (drossref03_Has_con x_2182 x_2184 _ hr_2187) (.inr rfl) rfl ?_
                      refine DGo.upto (by exact rfl) (by simp only [go_sem, seval, hb_2181T]; exact ⟨rfl, rfl⟩) ?_
                      refine DGo.fin rfl ?_
                      refine thenA_n ?_
                      by_cases hb_2188 : r_2186 = true
                      · rw [if_pos hb_2188] at h
                        refine awp_cf (by simp only [go_sem, seval, hb_2181T, hb_2188]) ?_
                        refine awp_skip ?_
                        refine blockA_n ?_
                        refine thenA_n ?_
                        refine awp_region ?_
                        refine AL_upto (by exact rfl) (by simp only [go_sem, seval, hb_2181T, hb_2188]; exact rfl) ?_
                        refine AL_nil ?_
                        cases h
                        refine ⟨rfl, ?_⟩
                        simp only [go_sem, seval, hb_2181T, hb_2188]
                        all_goals ((repeat' refine And.intro ?_ ?_) <;> first | rfl | (simp; done) | (simp; rfl) | (simp [*]; done) | (simp [*]; rfl))
                      · rw [if_neg hb_2188] at h
                        have hb_2188F := Bool.eq_false_iff.2 hb_2188
                        refine awp_ct (by simp only [go_sem, seval, hb_2181T, hb_2188F]) ?_
                        refine awp_seq ?_
                        refine awp_region ?_
                        refine AL_upto (by exact rfl) (by simp only [go_sem, seval, hb_2181T, hb_2188F]; exact rfl) ?_
                        refine AL_nil ?_
                        refine thenA_n ?_
                        refine awp_ret ?_
                        refine blockA_ret ?_
                        refine thenA_ret ?_
                        cases h
                        refine ⟨rfl, ?_⟩
                        refine retQ_ret (by simp only [Try.results38]; simp only [go_sem, seval, hb_2181T, hb_2188F]; exact rfl) ?_
                        simp only [go_sem, seval, hb_2181T, hb_2188F]
                        all_goals ((repeat' refine And.intro ?_ ?_) <;> first | rfl | (simp; done) | (simp; rfl) | (simp [*]; done) | (simp [*]; rfl))
                    · rw [if_neg hb_2181] at h
                      have hb_2181T := eq_false hb_2181
                      refine awp_cf (by simp only [go_sem, seval, hb_2181T]) ?_
                      refine awp_exit ?_
                      refine thenA_exit ?_
                      cases h
                      refine ⟨rfl, ?_⟩
                      simp only [go_sem, seval, hb_2181T]
                      all_goals ((repeat' refine And.intro ?_ ?_) <;> first | rfl | (simp; done) | (simp; rfl) | (simp [*]; done) | (simp [*]; rfl))
                  · intro e s' hT
                    rcases o_2189 with ⟨⟩ | r_2191
                    · try simp only at h
                      try simp only at hT
                      obtain ⟨rfl, hle⟩ := hT
                      refine Wk.to hle ?_
                      clear hle
                      refine blockA_here ?_
                      refine blockA_n ?_
                      refine thenA_n ?_
                      refine awp_region ?_
                      refine AL_upto (by exact rfl) (by simp only [go_sem, seval, hb_2145T, hb_2152F, hb_2157F]; exact rfl) ?_
                      refine AL_nil ?_
                      cases h
                      refine ⟨rfl, ?_⟩
                      simp only [go_sem, seval, hb_2145T, hb_2152F, hb_2157F]
                      all_goals ((repeat' refine And.intro ?_ ?_) <;> first | rfl | (simp; done) | (simp; rfl) | (simp [*]; done) | (simp [*]; rfl))
                    · try simp only at h
                      try simp only at hT
                      obtain ⟨rfl, hq⟩ := hT
                      refine Wk.now ?_
                      refine blockA_ret ?_
                      refine blockA_ret ?_
                      refine thenA_ret ?_
                      cases h
                      refine ⟨rfl, ?_⟩
                      exact hq
            · rw [if_neg hb_2145] at h
              have hb_2145T := eq_false hb_2145
              refine awp_cf (by simp only [go_sem, seval, hb_2145T]) ?_
              refine awp_exit ?_
              refine thenA_exit ?_
              cases h
              refine ⟨rfl, ?_⟩
              simp only [go_sem, seval, hb_2145T]
              all_goals ((repeat' refine And.intro ?_ ?_) <;> first | rfl | (simp; done) | (simp; rfl) | (simp [*]; done) | (simp [*]; rfl))
          · intro e s' hT
            rcases o_2194 with ⟨⟩ | r_2196
            · try simp only at h
              try simp only at hT
              obtain ⟨rfl, hle⟩ := hT
              refine Wk.to hle ?_
              clear hle
              refine blockA_here ?_
              refine thenA_n ?_
              refine awp_seq ?_
              refine awp_region ?_
              refine AL_upto (by exact rfl) (by simp only [go_sem, seval, hb_2040F, hb_2041F, hb_2042F, hb_2045]; exact rfl) ?_
              refine AL_nil ?_
              refine thenA_n ?_
              refine awp_ret ?_
              cases h
              refine retQ_ret (by simp only [Try.results38]; simp only [go_sem, seval, hb_2040F, hb_2041F, hb_2042F, hb_2045]; exact rfl) ?_
              simp only [go_sem, seval, hb_2040F, hb_2041F, hb_2042F, hb_2045]
              all_goals ((repeat' refine And.intro ?_ ?_) <;> first | rfl | (simp; done) | (simp; rfl) | (simp [*]; done) | (simp [*]; rfl))
            · try simp only at h
              try simp only at hT
              obtain ⟨rfl, hq⟩ := hT
              refine Wk.now ?_
              refine blockA_ret ?_
              refine thenA_ret ?_
              cases h
              exact hq
        · rw [if_neg hb_2045] at h
          have hb_2045F := Bool.eq_false_iff.2 hb_2045
          refine awp_ct (by simp only [go_sem, seval, hb_2040F, hb_2041F, hb_2042F, hb_2045F]) ?_
          refine awp_seq ?_
          refine awp_region ?_
          refine AL_upto (by exact rfl) (by simp only [go_sem, seval, hb_2040F, hb_2041F, hb_2042F, hb_2045F]; exact rfl) ?_
          refine AL_nil ?_
          refine thenA_n ?_
          refine awp_ret ?_
          refine thenA_ret ?_
          cases h
          refine retQ_ret (by simp only [Try.results38]; simp only [go_sem, seval, hb_2040F, hb_2041F, hb_2042F, hb_2045F]; exact rfl) ?_
          simp only [go_sem, seval, hb_2040F, hb_2041F, hb_2042F, hb_2045F]
          all_goals ((repeat' refine And.intro ?_ ?_) <;> first | rfl | (simp; done) | (simp; rfl) | (simp [*]; done) | (simp [*]; rfl))
end Go.Proofs.Ytdmddoljldjjeaa
set_option linter.unusedVariables false
set_option linter.unusedSimpArgs false
namespace Go.Proofs.Ytdmddoljldjjeaa
open Go Go.Ab
set_option maxHeartbeats 4000000 in
theorem drossref03_Find_con (t_2200 : Table) (id_2201 : Int) (r_2220 : Int × Bool) (h : drossref03_Find t_2200 id_2201 = some r_2220) : Con Try.prog 39 [(encTable t_2200), (.int .i64 id_2201)] (.tup [(.int .i64 r_2220.1), (.bool r_2220.2)]) := by
  refine ⟨Try.call39, ?_⟩
  refine pure_of_awp Try.func39 rfl Try.ntmps39 (by simp) fun X w => ?_
  show AWp _ _ _ ⟨[(0, .p (encTable t_2200)), (1, .p (.int .i64 id_2201))], []⟩
  simp only [drossref03_Find] at h
  refine awp_seq ?_
  refine awp_region ?_
  refine AL_upto (by exact rfl) (by simp only [go_sem, seval]; exact rfl) ?_
  refine AL_nil ?_
  refine thenA_n ?_
  refine awp_seq ?_
  refine awp_seq ?_
  refine awp_region ?_
  refine AL_upto (by exact rfl) (by simp only [go_sem, seval]; exact rfl) ?_
  refine AL_nil ?_
  refine thenA_n ?_
  refine awp_block ?_
  obtain ⟨o_2215, hL_2216, h⟩ := Option.bind_eq_some_iff.1 h
  refine awp_loop_L (fun (s : Int) => ⟨[(1, .p (.int .i64 id_2201)), (2, .loc 2 1 0 0), (6, .p (.int .i64 s))], [(2, .arr 52 3 1 [.p (encTable t_2200)])]⟩) (fun (o : (Unit) ⊕ (Int × Bool)) (e : Exit) (s' : St) => match o with | .inl o_2218 => e = (.exit 0) ∧ Le ⟨Try.prog, Try.f39.ntmps, 0, X, [], fun _ => none, w⟩ s' ⟨[], []⟩ | .inr o_2219 => e = .ret ∧ retQ Try.prog Try.f39 (.tup [(.int .i64 o_2219.1), (.bool o_2219.2)]) .ret s') (by intro o s hT; rcases o with _ | _ <;> (have hh := hT.1; cases hh)) hL_2216 (by simp only [go_sem, seval]; all_goals ((repeat' refine And.intro ?_ ?_) <;> first | rfl | (simp; done) | (simp; rfl) | (simp [*]; done) | (simp [*]; rfl))) ?_ ?_
  · clear h
    intro i_2206 x h
    simp only [drossref03_Find_l1] at h
    show AWp _ _ _ ⟨[(1, .p (.int .i64 id_2201)), (2, .loc 2 1 0 0), (6, .p (.int .i64 i_2206))], [(2, .arr 52 3 1 [.p (encTable t_2200)])]⟩
    refine awp_seq ?_
    refine awp_seq ?_
    refine awp_region ?_
    refine AL_upto (by exact rfl) (by simp only [go_sem, seval]; exact rfl) ?_
    refine AL_nil ?_
    refine thenA_n ?_
    by_cases hb_2211 : i_2206 < (t_2200.Rows.length : Int)
    · rw [if_pos hb_2211] at h
      have hb_2211T := eq_true hb_2211
      refine awp_ct (by simp only [go_sem, seval, hb_2211T]) ?_
      refine awp_skip ?_
      refine thenA_n ?_
      refine awp_seq ?_
      refine awp_block ?_
      refine awp_seq ?_
      refine awp_region ?_
      obtain ⟨x_2212, hx_2213, h⟩ := Option.bind_eq_some_iff.1 h
      obtain ⟨hx_2213a, hx_2213, hx_2213b⟩ := idx_some hx_2213
      have hx_2213A := eq_true hx_2213a
      have hx_2213B := eq_true hx_2213b
      refine AL_upto (by exact rfl) (by simp only [go_sem, seval, hb_2211T, hx_2213, hx_2213A, hx_2213B]; exact rfl) ?_
      refine AL_nil ?_
      refine thenA_n ?_
      by_cases hb_2214 : (x_2212.ID == id_2201) = true
      · rw [if_pos hb_2214] at h
        refine awp_ct (by simp only [go_sem, seval, hb_2211T, hb_2214]) ?_
        refine awp_seq ?_
        refine awp_region ?_
        refine AL_upto (by exact rfl) (by simp only [go_sem, seval, hb_2211T, hb_2214]; exact rfl) ?_
        refine AL_nil ?_
        refine thenA_n ?_
        refine awp_ret ?_
        refine blockA_ret ?_
        refine thenA_ret ?_
        cases h
        refine ⟨rfl, ?_⟩
        refine retQ_ret (by simp only [Try.results39]; simp only [go_sem, seval, hb_2211T, hb_2214]; exact rfl) ?_
        simp only [go_sem, seval, hb_2211T, hb_2214]
        all_goals ((repeat' refine And.intro ?_ ?_) <;> first | rfl | (simp; done) | (simp; rfl) | (simp [*]; done) | (simp [*]; rfl))
      · rw [if_neg hb_2214] at h
        have hb_2214F := Bool.eq_false_iff.2 hb_2214
        refine awp_cf (by simp only [go_sem, seval, hb_2211T, hb_2214F]) ?_
        refine awp_skip ?_
        refine blockA_n ?_
        refine thenA_n ?_
        refine awp_region ?_
        refine AL_upto (by exact rfl) (by simp only [go_sem, seval, hb_2211T, hb_2214F]; exact rfl) ?_
        refine AL_nil ?_
        cases h
        refine ⟨rfl, ?_⟩
        simp only [go_sem, seval, hb_2211T, hb_2214F]
        all_goals ((repeat' refine And.intro ?_ ?_) <;> first | rfl | (simp; done) | (simp; rfl) | (simp [*]; done) | (simp [*]; rfl))
    · rw [if_neg hb_2211] at h
      have hb_2211T := eq_false hb_2211
      refine awp_cf (by simp only [go_sem, seval, hb_2211T]) ?_
      refine awp_exit ?_
      refine thenA_exit ?_
      cases h
      refine ⟨rfl, ?_⟩
      simp only [go_sem, seval, hb_2211T]
      all_goals ((repeat' refine And.intro ?_ ?_) <;> first | rfl | (simp; done) | (simp; rfl) | (simp [*]; done) | (simp [*]; rfl))
  · intro e s' hT
    rcases o_2215 with ⟨⟩ | r_2217
    · try simp only at h
      try simp only at hT
      obtain ⟨rfl, hle⟩ := hT
      refine Wk.to hle ?_
      clear hle
      refine blockA_here ?_
      refine thenA_n ?_
      refine awp_seq ?_
      refine awp_region ?_
      refine AL_upto (by exact rfl) (by simp only [go_sem, seval]; exact rfl) ?_
      refine AL_nil ?_
      refine thenA_n ?_
      refine awp_ret ?_
      cases h
      refine retQ_ret (by simp only [Try.results39]; simp only [go_sem, seval]; exact rfl) ?_
      simp only [go_sem, seval]
      all_goals ((repeat' refine And.intro ?_ ?_) <;> first | rfl | (simp; done) | (simp; rfl) | (simp [*]; done) | (simp [*]; rfl))
    · try simp only at h
      try simp only at hT
      obtain ⟨rfl, hq⟩ := hT
      refine Wk.now ?_
      refine blockA_ret ?_
      refine thenA_ret ?_
      cases h
      exact hq
end Go.Proofs.Ytdmddoljldjjeaa
set_option linter.unusedVariables false
set_option linter.unusedSimpArgs false
namespace Go.Proofs.Ytdmddoljldjjeaa
open Go Go.Ab
set_option maxHeartbeats 4000000 in
theorem drossref01_sign_con (a_711 : Int) (b_712 : Int) (r_715 : Int) (h : drossref01_sign a_711 b_712 = some r_715) : Con Try.prog 73 [(.int .i64 a_711), (.int .i64 b_712)] (.int .i64 r_715) := by
  refine ⟨Try.call73, ?_⟩
  refine pure_of_awp Try.func73 rfl Try.ntmps73 (by simp) fun X w => ?_
  show AWp _ _ _ ⟨[(0, .p (.int .i64 a_711)), (1, .p (.int .i64 b_712))], []⟩
  simp only [drossref01_sign] at h
  refine awp_seq ?_
  refine awp_region ?_
  refine AL_upto (by exact rfl) (by simp only [go_sem, seval]; exact rfl) ?_
  refine AL_nil ?_
  refine thenA_n ?_
  refine awp_seq ?_
  refine awp_seq ?_
  refine awp_region ?_
  refine AL_upto (by exact rfl) (by simp only [go_sem, seval]; exact rfl) ?_
  refine AL_nil ?_
  refine thenA_n ?_
  by_cases hb_713 : a_711 < b_712
  · rw [if_pos hb_713] at h
    have hb_713T := eq_true hb_713
    refine awp_ct (by simp only [go_sem, seval, hb_713T]) ?_
    refine awp_seq ?_
    refine awp_region ?_
    refine AL_upto (by exact rfl) (by simp only [go_sem, seval, hb_713T]; exact rfl) ?_
    refine AL_nil ?_
    refine thenA_n ?_
    refine awp_ret ?_
    refine thenA_ret ?_
    cases h
    refine retQ_ret (by simp only [Try.results73]; simp only [go_sem, seval, hb_713T]; exact rfl) ?_
    simp only [go_sem, seval, hb_713T]
    all_goals ((repeat' refine And.intro ?_ ?_) <;> first | rfl | (simp; done) | (simp; rfl) | (simp [*]; done) | (simp [*]; rfl))
  · rw [if_neg hb_713] at h
    have hb_713T := eq_false hb_713
    refine awp_cf (by simp only [go_sem, seval, hb_713T]) ?_
    refine awp_skip ?_
    refine thenA_n ?_
    refine awp_seq ?_
    refine awp_seq ?_
    refine awp_region ?_
    refine AL_upto (by exact rfl) (by simp only [go_sem, seval, hb_713T]; exact rfl) ?_
    refine AL_nil ?_
    refine thenA_n ?_
    by_cases hb_714 : a_711 > b_712
    · rw [if_pos hb_714] at h
      have hb_714T := eq_true hb_714
      refine awp_ct (by simp only [go_sem, seval, hb_713T, hb_714T]) ?_
      refine awp_seq ?_
      refine awp_region ?_
      refine AL_upto (by exact rfl) (by simp only [go_sem, seval, hb_713T, hb_714T]; exact rfl) ?_
      refine AL_nil ?_
      refine thenA_n ?_
      refine awp_ret ?_
      refine thenA_ret ?_
      cases h
      refine retQ_ret (by simp only [Try.results73]; simp only [go_sem, seval, hb_713T, hb_714T]; exact rfl) ?_
      simp only [go_sem, seval, hb_713T, hb_714T]
      all_goals ((repeat' refine And.intro ?_ ?_) <;> first | rfl | (simp; done) | (simp; rfl) | (simp [*]; done) | (simp [*]; rfl))
    · rw [if_neg hb_714] at h
      have hb_714T := eq_false hb_714
      refine awp_cf (by simp only [go_sem, seval, hb_713T, hb_714T]) ?_
      refine awp_skip ?_
      refine thenA_n ?_
      refine awp_seq ?_
      refine awp_region ?_
      refine AL_upto (by exact rfl) (by simp only [go_sem, seval, hb_713T, hb_714T]; exact rfl) ?_
      refine AL_nil ?_
      refine thenA_n ?_
      refine awp_ret ?_
      cases h
      refine retQ_ret (by simp only [Try.results73]; simp only [go_sem, seval, hb_713T, hb_714T]; exact rfl) ?_
      simp only [go_sem, seval, hb_713T, hb_714T]
      all_goals ((repeat' refine And.intro ?_ ?_) <;> first | rfl | (simp; done) | (simp; rfl) | (simp [*]; done) | (simp [*]; rfl))
end Go.Proofs.Ytdmddoljldjjeaa
set_option linter.unusedVariables false
set_option linter.unusedSimpArgs false
namespace Go.Proofs.Ytdmddoljldjjeaa
open Go Go.Ab
set_option maxHeartbeats 4000000 in
theorem drossref01_strings_con (a_716 : List UInt8) (b_717 : List UInt8) (r_765 : Int) (h : drossref01_strings a_716 b_717 = some r_765) : Con Try.prog 74 [(.str a_716), (.str b_717)] (.int .i64 r_765) := by
  refine ⟨Try.call74, ?_⟩
  refine pure_of_awp Try.func74 rfl Try.ntmps74 (by simp) fun X w => ?_
  show AWp _ _ _ ⟨[(0, .p (.str a_716)), (1, .p (.str b_717))], []⟩
  simp only [drossref01_strings] at h
  refine awp_seq ?_
  refine awp_region ?_
  refine AL_upto (by exact rfl) (by simp only [go_sem, seval]; exact rfl) ?_
  refine AL_nil ?_
  refine thenA_n ?_
  refine awp_seq ?_
  refine awp_seq ?_
  refine awp_region ?_
  refine AL_upto (by exact rfl) (by simp only [go_sem, seval]; exact rfl) ?_
  refine AL_nil ?_
  refine thenA_n ?_
  refine awp_block ?_
  obtain ⟨o_758, hL_759, h⟩ := Option.bind_eq_some_iff.1 h
  refine awp_loop_L (fun (s : Int) => ⟨[(0, .p (.str a_716)), (1, .p (.str b_717)), (5, .p (.int .i64 s))], []⟩) (fun (o : (Unit) ⊕ (Int)) (e : Exit) (s' : St) => match o with | .inl o_763 => e = (.exit 0) ∧ Le ⟨Try.prog, Try.f74.ntmps, 0, X, [], fun _ => none, w⟩ s' ⟨[(0, .p (.str a_716)), (1, .p (.str b_717))], []⟩ | .inr o_764 => e = .ret ∧ retQ Try.prog Try.f74 (.int .i64 o_764) .ret s') (by intro o s hT; rcases o with _ | _ <;> (have hh := hT.1; cases hh)) hL_759 (by simp only [go_sem, seval]; all_goals ((repeat' refine And.intro ?_ ?_) <;> first | rfl | (simp; done) | (simp; rfl) | (simp [*]; done) | (simp [*]; rfl))) ?_ ?_
  · clear h
    intro i_731 x h
    simp only [drossref01_strings_l1] at h
    show AWp _ _ _ ⟨[(0, .p (.str a_716)), (1, .p (.str b_717)), (5, .p (.int .i64 i_731))], []⟩
    refine awp_seq ?_
    refine awp_seq ?_
    refine awp_region ?_
    refine AL_upto (by exact rfl) (by simp only [go_sem, seval]; exact rfl) ?_
    by_cases hb_745 : i_731 < (a_716.length : Int)
    · rw [if_pos hb_745] at h
      have hb_745T := eq_true hb_745
      refine AL_known (d := 10) (v := .p (.bool true)) (by simp only [go_sem, seval, hb_745T]) ?_
      refine AL_gt' (guard_true' rfl rfl (by exact rfl) (by exact rfl)) rfl (by simp only [go_sem, seval, hb_745T]; exact rfl) ?_
      refine AL_gt' (guard_true' rfl rfl (by exact rfl) (by exact rfl)) rfl (by simp only [go_sem, seval, hb_745T]; exact rfl) ?_
      refine AL_gt' (guard_true' rfl rfl (by exact rfl) (by exact rfl)) rfl (by simp only [go_sem, seval, hb_745T]; exact rfl) ?_
      refine AL_gt' (guard_true' rfl rfl (by exact rfl) (by exact rfl)) rfl (by simp only [go_sem, seval, hb_745T]; exact rfl) ?_
      refine AL_upto (by exact rfl) (by simp only [go_sem, seval, hb_745T]; exact rfl) ?_
      refine AL_nil ?_
      refine thenA_n ?_
      by_cases hb_746 : i_731 < (b_717.length : Int)
      · rw [if_pos hb_746] at h
        have hb_746T := eq_true hb_746
        refine awp_ct (by simp only [go_sem, seval, hb_745T, hb_746T]) ?_
        refine awp_skip ?_
        refine thenA_n ?_
        refine awp_seq ?_
        refine awp_block ?_
        refine awp_seq ?_
        refine awp_drawn_walk mixed (by decide) ?_
        obtain ⟨c_751, hx_752, h⟩ := Option.bind_eq_some_iff.1 h
        obtain ⟨hx_752a, hx_752, hx_752b⟩ := idx_some hx_752
        have hx_752A := eq_true hx_752a
        have hx_752B := eq_true hx_752b
        obtain ⟨c_753, hx_754, h⟩ := Option.bind_eq_some_iff.1 h
        obtain ⟨hx_754a, hx_754, hx_754b⟩ := idx_some hx_754
        have hx_754A := eq_true hx_754a
        have hx_754B := eq_true hx_754b
        refine DGo.upto (by exact rfl) (by simp only [go_sem, seval, hb_745T, hb_746T, hx_752, hx_752A, hx_752B, hx_754, hx_754A, hx_754B]; exact ⟨rfl, rfl⟩) ?_
        refine DGo.fin rfl ?_
        refine thenA_n ?_
        by_cases hb_755 : (((c_751.toNat : Nat) : Int) != ((c_753.toNat : Nat) : Int)) = true
        · rw [if_pos hb_755] at h
          refine awp_ct (by simp only [go_sem, seval, hb_745T, hb_746T, hb_755]) ?_
          refine awp_seq ?_
          refine awp_drawn_walk mixed (by decide) ?_
          refine DGo.upto (by exact rfl) (by simp only [go_sem, seval, hb_745T, hb_746T, hb_755, hx_752, hx_752A, hx_752B, hx_754, hx_754A, hx_754B]; exact ⟨rfl, rfl⟩) ?_
          obtain ⟨r_756, hr_757, h⟩ := Option.bind_eq_some_iff.1 h
          refine DGo.con' rfl (guard_none rfl) rfl (by simp only [go_sem, seval, hb_745T, hb_746T, hb_755]; exact rfl) (by simp only [go_sem, seval, hb_745T, hb_746T, hb_755]; all_goals ((repeat' refine And.intro ?_ ?_) <;> first | rfl | (simp; done) | (simp; rfl) | (simp [*]; done) | (simp [*]; rfl))) (by simp only [go_sem, seval, hb_745T, hb_746T, hb_755]; exact rfl) (drossref01_sign_con (IntKind.i64.wrap ((c_751.toNat : Nat) : Int)) (IntKind.i64.wrap ((c_753.toNat : Nat) : Int)) _ hr_757) (.inr rfl) rfl ?_
          refine DGo.upto (by exact rfl) (by simp only [go_sem, seval, hb_745T, hb_746T, hb_755]; exact ⟨rfl, rfl⟩) ?_
          refine DGo.fin rfl ?_
          refine thenA_n ?_
          refine awp_ret ?_
          refine blockA_ret ?_
          refine thenA_ret ?_
          cases h
          refine ⟨rfl, ?_⟩
          refine retQ_ret (by simp only [Try.results74]; simp only [go_sem, seval, hb_745T, hb_746T, hb_755]; exact rfl) ?_
          simp only [go_sem, seval, hb_745T, hb_746T, hb_755]
          all_goals ((repeat' refine And.intro ?_ ?_) <;> first | rfl | (simp; done) | (simp; rfl) | (simp [*]; done) | (simp [*]; rfl))
        · rw [if_neg hb_755] at h
          have hb_755F := Bool.eq_false_iff.2 hb_755
          refine awp_cf (by simp only [go_sem, seval, hb_745T, hb_746T, hb_755F]) ?_
          refine awp_skip ?_
          refine blockA_n ?_
          refine thenA_n ?_
          refine awp_region ?_
          refine AL_upto (by exact rfl) (by simp only [go_sem, seval, hb_745T, hb_746T, hb_755F]; exact rfl) ?_
          refine AL_nil ?_
          cases h
          refine ⟨rfl, ?_⟩
          simp only [go_sem, seval, hb_745T, hb_746T, hb_755F]
          all_goals ((repeat' refine And.intro ?_ ?_) <;> first | rfl | (simp; done) | (simp; rfl) | (simp [*]; done) | (simp [*]; rfl))
      · rw [if_neg hb_746] at h
        have hb_746T := eq_false hb_746
        refine awp_cf (by simp only [go_sem, seval, hb_745T, hb_746T]) ?_
        refine awp_exit ?_
        refine thenA_exit ?_
        cases h
        refine ⟨rfl, ?_⟩
        simp only [go_sem, seval, hb_745T, hb_746T]
        all_goals ((repeat' refine And.intro ?_ ?_) <;> first | rfl | (simp; done) | (simp; rfl) | (simp [*]; done) | (simp [*]; rfl))
    · rw [if_neg hb_745] at h
      have hb_745T := eq_false hb_745
      refine AL_known (d := 10) (v := .p (.bool false)) (by simp only [go_sem, seval, hb_745T]) ?_
      refine AL_skips (by exact rfl) ?_
      refine AL_upto (by exact rfl) (by simp only [go_sem, seval, hb_745T]; exact rfl) ?_
      refine AL_nil ?_
      refine thenA_n ?_
      refine awp_cf (by simp only [go_sem, seval, hb_745T]) ?_
      refine awp_exit ?_
      refine thenA_exit ?_
      cases h
      refine ⟨rfl, ?_⟩
      simp only [go_sem, seval, hb_745T]
      all_goals ((repeat' refine And.intro ?_ ?_) <;> first | rfl | (simp; done) | (simp; rfl) | (simp [*]; done) | (simp [*]; rfl))
  · intro e s' hT
    rcases o_758 with ⟨⟩ | r_762
    · try simp only at h
      try simp only at hT
      obtain ⟨rfl, hle⟩ := hT
      refine Wk.to hle ?_
      clear hle
      refine blockA_here ?_
      refine thenA_n ?_
      refine awp_seq ?_
      refine awp_region ?_
      refine AL_upto (by exact rfl) (by simp only [go_sem, seval]; exact rfl) ?_
      obtain ⟨r_760, hr_761, h⟩ := Option.bind_eq_some_iff.1 h
      refine AL_con' rfl (guard_none rfl) rfl (by simp only [go_sem, seval]; exact rfl) (by simp only [go_sem, seval]; all_goals ((repeat' refine And.intro ?_ ?_) <;> first | rfl | (simp; done) | (simp; rfl) | (simp [*]; done) | (simp [*]; rfl))) (drossref01_sign_con (a_716.length : Int) (b_717.length : Int) _ hr_761) (.inr rfl) rfl ?_
      refine AL_upto (by exact rfl) (by simp only [go_sem, seval]; exact rfl) ?_
      refine AL_nil ?_
      refine thenA_n ?_
      refine awp_ret ?_
      cases h
      refine retQ_ret (by simp only [Try.results74]; simp only [go_sem, seval]; exact rfl) ?_
      simp only [go_sem, seval]
      all_goals ((repeat' refine And.intro ?_ ?_) <;> first | rfl | (simp; done) | (simp; rfl) | (simp [*]; done) | (simp [*]; rfl))
    · try simp only at h
      try simp only at hT
      obtain ⟨rfl, hq⟩ := hT
      refine Wk.now ?_
      refine blockA_ret ?_
      refine thenA_ret ?_
      cases h
      exact hq
end Go.Proofs.Ytdmddoljldjjeaa
set_option linter.unusedVariables false
set_option linter.unusedSimpArgs false
namespace Go.Proofs.Ytdmddoljldjjeaa
open Go Go.Ab
set_option maxHeartbeats 4000000 in
theorem drossref01_Compare_con (a_766 : Value) (b_767 : Value) (r_776 : Int) (h : drossref01_Compare a_766 b_767 = some r_776) : Con Try.prog 45 [(encValue a_766), (encValue b_767)] (.int .i64 r_776) := by
  refine ⟨Try.call45, ?_⟩
  refine pure_of_awp Try.func45 rfl Try.ntmps45 (by simp) fun X w => ?_
  show AWp _ _ _ ⟨[(0, .p (encValue a_766)), (1, .p (encValue b_767))], []⟩
  simp only [drossref01_Compare] at h
  refine awp_seq ?_
  refine awp_region ?_
  refine AL_upto (by exact rfl) (by simp only [go_sem, seval]; exact rfl) ?_
  refine AL_nil ?_
  refine thenA_n ?_
  refine awp_seq ?_
  refine awp_seq ?_
  refine awp_region ?_
  refine AL_upto (by exact rfl) (by simp only [go_sem, seval]; exact rfl) ?_
  obtain ⟨r_768, hr_769, h⟩ := Option.bind_eq_some_iff.1 h
  refine AL_con' rfl (guard_none rfl) rfl (by simp only [go_sem, seval]; exact rfl) (by simp only [go_sem, seval]; all_goals ((repeat' refine And.intro ?_ ?_) <;> first | rfl | (simp; done) | (simp; rfl) | (simp [*]; done) | (simp [*]; rfl))) (drossref01_sign_con a_766.Kind b_767.Kind _ hr_769) (.inr rfl) rfl ?_
  refine AL_upto (by exact rfl) (by simp only [go_sem, seval]; exact rfl) ?_
  refine AL_nil ?_
  refine thenA_n ?_
  refine awp_seq ?_
  refine awp_region ?_
  refine AL_upto (by exact rfl) (by simp only [go_sem, seval]; exact rfl) ?_
  refine AL_nil ?_
  refine thenA_n ?_
  by_cases hb_770 : (r_768 != 0) = true
  · rw [if_pos hb_770] at h
    refine awp_ct (by simp only [go_sem, seval, hb_770]) ?_
    refine awp_seq ?_
    refine awp_region ?_
    refine AL_upto (by exact rfl) (by simp only [go_sem, seval, hb_770]; exact rfl) ?_
    refine AL_nil ?_
    refine thenA_n ?_
    refine awp_ret ?_
    refine thenA_ret ?_
    cases h
    refine retQ_ret (by simp only [Try.results45]; simp only [go_sem, seval, hb_770]; exact rfl) ?_
    simp only [go_sem, seval, hb_770]
    all_goals ((repeat' refine And.intro ?_ ?_) <;> first | rfl | (simp; done) | (simp; rfl) | (simp [*]; done) | (simp [*]; rfl))
  · rw [if_neg hb_770] at h
    have hb_770F := Bool.eq_false_iff.2 hb_770
    refine awp_cf (by simp only [go_sem, seval, hb_770F]) ?_
    refine awp_skip ?_
    refine thenA_n ?_
    refine awp_seq ?_
    refine awp_seq ?_
    refine awp_region ?_
    refine AL_upto (by exact rfl) (by simp only [go_sem, seval, hb_770F]; exact rfl) ?_
    obtain ⟨r_771, hr_772, h⟩ := Option.bind_eq_some_iff.1 h
    refine AL_con' rfl (guard_none rfl) rfl (by simp only [go_sem, seval, hb_770F]; exact rfl) (by simp only [go_sem, seval, hb_770F]; all_goals ((repeat' refine And.intro ?_ ?_) <;> first | rfl | (simp; done) | (simp; rfl) | (simp [*]; done) | (simp [*]; rfl))) (drossref01_sign_con a_766.Num b_767.Num _ hr_772) (.inr rfl) rfl ?_
    refine AL_upto (by exact rfl) (by simp only [go_sem, seval, hb_770F]; exact rfl) ?_
    refine AL_nil ?_
    refine thenA_n ?_
    refine awp_seq ?_
    refine awp_region ?_
    refine AL_upto (by exact rfl) (by simp only [go_sem, seval, hb_770F]; exact rfl) ?_
    refine AL_nil ?_
    refine thenA_n ?_
    by_cases hb_773 : (r_771 != 0) = true
    · rw [if_pos hb_773] at h
      refine awp_ct (by simp only [go_sem, seval, hb_770F, hb_773]) ?_
      refine awp_seq ?_
      refine awp_region ?_
      refine AL_upto (by exact rfl) (by simp only [go_sem, seval, hb_770F, hb_773]; exact rfl) ?_
      refine AL_nil ?_
      refine thenA_n ?_
      refine awp_ret ?_
      refine thenA_ret ?_
      cases h
      refine retQ_ret (by simp only [Try.results45]; simp only [go_sem, seval, hb_770F, hb_773]; exact rfl) ?_
      simp only [go_sem, seval, hb_770F, hb_773]
      all_goals ((repeat' refine And.intro ?_ ?_) <;> first | rfl | (simp; done) | (simp; rfl) | (simp [*]; done) | (simp [*]; rfl))
    · rw [if_neg hb_773] at h
      have hb_773F := Bool.eq_false_iff.2 hb_773
      refine awp_cf (by simp only [go_sem, seval, hb_770F, hb_773F]) ?_
      refine awp_skip ?_
      refine thenA_n ?_
      refine awp_seq ?_
      refine awp_region ?_
      refine AL_upto (by exact rfl) (by simp only [go_sem, seval, hb_770F, hb_773F]; exact rfl) ?_
      obtain ⟨r_774, hr_775, h⟩ := Option.bind_eq_some_iff.1 h
      refine AL_con' rfl (guard_none rfl) rfl (by simp only [go_sem, seval, hb_770F, hb_773F]; exact rfl) (by simp only [go_sem, seval, hb_770F, hb_773F]; all_goals ((repeat' refine And.intro ?_ ?_) <;> first | rfl | (simp; done) | (simp; rfl) | (simp [*]; done) | (simp [*]; rfl))) (drossref01_strings_con a_766.Str b_767.Str _ hr_775) (.inr rfl) rfl ?_
      refine AL_upto (by exact rfl) (by simp only [go_sem, seval, hb_770F, hb_773F]; exact rfl) ?_
      refine AL_nil ?_
      refine thenA_n ?_
      refine awp_ret ?_
      cases h
      refine retQ_ret (by simp only [Try.results45]; simp only [go_sem, seval, hb_770F, hb_773F]; exact rfl) ?_
      simp only [go_sem, seval, hb_770F, hb_773F]
      all_goals ((repeat' refine And.intro ?_ ?_) <;> first | rfl | (simp; done) | (simp; rfl) | (simp [*]; done) | (simp [*]; rfl))
end Go.Proofs.Ytdmddoljldjjeaa
set_option linter.unusedVariables false
set_option linter.unusedSimpArgs false
namespace Go.Proofs.Ytdmddoljldjjeaa
open Go Go.Ab
set_option maxHeartbeats 4000000 in
theorem drossref03_Strings_con (a_2983 : List (List UInt8)) (b_2984 : List (List UInt8)) (r_3010 : Bool) (h : drossref03_Strings a_2983 b_2984 = some r_3010) : Con Try.prog 71 [(.slc (List.map PV.str a_2983)), (.slc (List.map PV.str b_2984))] (.bool r_3010) := by
  refine ⟨Try.call71, ?_⟩
  refine pure_of_awp Try.func71 rfl Try.ntmps71 (by simp) fun X w => ?_
  show AWp _ _ _ ⟨[(0, .p (.slc (List.map PV.str a_2983))), (1, .p (.slc (List.map PV.str b_2984)))], []⟩
  simp only [drossref03_Strings] at h
  refine awp_seq ?_
  refine awp_region ?_
  refine AL_upto (by exact rfl) (by simp only [go_sem, seval]; exact rfl) ?_
  refine AL_nil ?_
  refine thenA_n ?_
  refine awp_seq ?_
  refine awp_seq ?_
  refine awp_region ?_
  refine AL_upto (by exact rfl) (by simp only [go_sem, seval]; exact rfl) ?_
  refine AL_nil ?_
  refine thenA_n ?_
  by_cases hb_2985 : ((a_2983.length : Int) != (b_2984.length : Int)) = true
  · rw [if_pos hb_2985] at h
    refine awp_ct (by simp only [go_sem, seval, hb_2985]) ?_
    refine awp_seq ?_
    refine awp_region ?_
    refine AL_upto (by exact rfl) (by simp only [go_sem, seval, hb_2985]; exact rfl) ?_
    refine AL_nil ?_
    refine thenA_n ?_
    refine awp_ret ?_
    refine thenA_ret ?_
    cases h
    refine retQ_ret (by simp only [Try.results71]; simp only [go_sem, seval, hb_2985]; exact rfl) ?_
    simp only [go_sem, seval, hb_2985]
    all_goals ((repeat' refine And.intro ?_ ?_) <;> first | rfl | (simp; done) | (simp; rfl) | (simp [*]; done) | (simp [*]; rfl))
  · rw [if_neg hb_2985] at h
    have hb_2985F := Bool.eq_false_iff.2 hb_2985
    refine awp_cf (by simp only [go_sem, seval, hb_2985F]) ?_
    refine awp_skip ?_
    refine thenA_n ?_
    refine awp_seq ?_
    refine awp_seq ?_
    refine awp_region ?_
    refine AL_upto (by exact rfl) (by simp only [go_sem, seval, hb_2985F]; exact rfl) ?_
    refine AL_nil ?_
    refine thenA_n ?_
    refine awp_block ?_
    obtain ⟨o_3005, hL_3006, h⟩ := Option.bind_eq_some_iff.1 h
    refine awp_loop_L (fun (s : Int) => ⟨[(0, .p (.slc (List.map PV.str a_2983))), (1, .p (.slc (List.map PV.str b_2984))), (5, .p (.int .i64 s))], []⟩) (fun (o : (Unit) ⊕ (Bool)) (e : Exit) (s' : St) => match o with | .inl o_3008 => e = (.exit 0) ∧ Le ⟨Try.prog, Try.f71.ntmps, 0, X, [], fun _ => none, w⟩ s' ⟨[], []⟩ | .inr o_3009 => e = .ret ∧ retQ Try.prog Try.f71 (.bool o_3009) .ret s') (by intro o s hT; rcases o with _ | _ <;> (have hh := hT.1; cases hh)) hL_3006 (by simp only [go_sem, seval, hb_2985F]; all_goals ((repeat' refine And.intro ?_ ?_) <;> first | rfl | (simp; done) | (simp; rfl) | (simp [*]; done) | (simp [*]; rfl))) ?_ ?_
    · clear h
      intro i_2992 x h
      simp only [drossref03_Strings_l1] at h
      show AWp _ _ _ ⟨[(0, .p (.slc (List.map PV.str a_2983))), (1, .p (.slc (List.map PV.str b_2984))), (5, .p (.int .i64 i_2992))], []⟩
      refine awp_seq ?_
      refine awp_seq ?_
      refine awp_region ?_
      refine AL_upto (by exact rfl) (by simp only [go_sem, seval]; exact rfl) ?_
      refine AL_nil ?_
      refine thenA_n ?_
      by_cases hb_2999 : i_2992 < (a_2983.length : Int)
      · rw [if_pos hb_2999] at h
        have hb_2999T := eq_true hb_2999
        refine awp_ct (by simp only [go_sem, seval, hb_2999T]) ?_
        refine awp_skip ?_
        refine thenA_n ?_
        refine awp_seq ?_
        refine awp_block ?_
        refine awp_seq ?_
        refine awp_drawn_walk mixed (by decide) ?_
        obtain ⟨x_3000, hx_3001, h⟩ := Option.bind_eq_some_iff.1 h
        obtain ⟨hx_3001a, hx_3001, hx_3001b⟩ := idx_some hx_3001
        have hx_3001A := eq_true hx_3001a
        have hx_3001B := eq_true hx_3001b
        obtain ⟨x_3002, hx_3003, h⟩ := Option.bind_eq_some_iff.1 h
        obtain ⟨hx_3003a, hx_3003, hx_3003b⟩ := idx_some hx_3003
        have hx_3003A := eq_true hx_3003a
        have hx_3003B := eq_true hx_3003b
        refine DGo.upto (by exact rfl) (by simp only [go_sem, seval, hb_2999T, hx_3001, hx_3001A, hx_3001B, hx_3003, hx_3003A, hx_3003B]; exact ⟨rfl, rfl⟩) ?_
        refine DGo.fin rfl ?_
        refine thenA_n ?_
        by_cases hb_3004 : (x_3000 == x_3002) = true
        · rw [if_pos hb_3004] at h
          refine awp_cf (by simp only [go_sem, seval, hb_2999T, hb_3004]) ?_
          refine awp_skip ?_
          refine blockA_n ?_
          refine thenA_n ?_
          refine awp_region ?_
          refine AL_upto (by exact rfl) (by simp only [go_sem, seval, hb_2999T, hb_3004]; exact rfl) ?_
          refine AL_nil ?_
          cases h
          refine ⟨rfl, ?_⟩
          simp only [go_sem, seval, hb_2999T, hb_3004]
          all_goals ((repeat' refine And.intro ?_ ?_) <;> first | rfl | (simp; done) | (simp; rfl) | (simp [*]; done) | (simp [*]; rfl))
        · rw [if_neg hb_3004] at h
          have hb_3004F := Bool.eq_false_iff.2 hb_3004
          refine awp_ct (by simp only [go_sem, seval, hb_2999T, hb_3004F]) ?_
          refine awp_seq ?_
          refine awp_region ?_
          refine AL_upto (by exact rfl) (by simp only [go_sem, seval, hb_2999T, hb_3004F]; exact rfl) ?_
          refine AL_nil ?_
          refine thenA_n ?_
          refine awp_ret ?_
          refine blockA_ret ?_
          refine thenA_ret ?_
          cases h
          refine ⟨rfl, ?_⟩
          refine retQ_ret (by simp only [Try.results71]; simp only [go_sem, seval, hb_2999T, hb_3004F]; exact rfl) ?_
          simp only [go_sem, seval, hb_2999T, hb_3004F]
          all_goals ((repeat' refine And.intro ?_ ?_) <;> first | rfl | (simp; done) | (simp; rfl) | (simp [*]; done) | (simp [*]; rfl))
      · rw [if_neg hb_2999] at h
        have hb_2999T := eq_false hb_2999
        refine awp_cf (by simp only [go_sem, seval, hb_2999T]) ?_
        refine awp_exit ?_
        refine thenA_exit ?_
        cases h
        refine ⟨rfl, ?_⟩
        simp only [go_sem, seval, hb_2999T]
        all_goals ((repeat' refine And.intro ?_ ?_) <;> first | rfl | (simp; done) | (simp; rfl) | (simp [*]; done) | (simp [*]; rfl))
    · intro e s' hT
      rcases o_3005 with ⟨⟩ | r_3007
      · try simp only at h
        try simp only at hT
        obtain ⟨rfl, hle⟩ := hT
        refine Wk.to hle ?_
        clear hle
        refine blockA_here ?_
        refine thenA_n ?_
        refine awp_seq ?_
        refine awp_region ?_
        refine AL_upto (by exact rfl) (by simp only [go_sem, seval, hb_2985F]; exact rfl) ?_
        refine AL_nil ?_
        refine thenA_n ?_
        refine awp_ret ?_
        cases h
        refine retQ_ret (by simp only [Try.results71]; simp only [go_sem, seval, hb_2985F]; exact rfl) ?_
        simp only [go_sem, seval, hb_2985F]
        all_goals ((repeat' refine And.intro ?_ ?_) <;> first | rfl | (simp; done) | (simp; rfl) | (simp [*]; done) | (simp [*]; rfl))
      · try simp only at h
        try simp only at hT
        obtain ⟨rfl, hq⟩ := hT
        refine Wk.now ?_
        refine blockA_ret ?_
        refine thenA_ret ?_
        cases h
        exact hq
end Go.Proofs.Ytdmddoljldjjeaa
set_option linter.unusedVariables false
set_option linter.unusedSimpArgs false
namespace Go.Proofs.Ytdmddoljldjjeaa
open Go Go.Ab
set_option maxHeartbeats 4000000 in
theorem drossref55_Of_con (t_3011 : Table) (l_3012 : List (List Int)) (r_3129 : Bool) (h : drossref55_Of t_3011 l_3012 = some r_3129) : Con Try.prog 72 [(encTable t_3011), (.slc (List.map (encL (PV.int .i64)) l_3012))] (.bool r_3129) := by
  refine ⟨Try.call72, ?_⟩
  refine pure_of_awp Try.func72 rfl Try.ntmps72 (by simp) fun X w => ?_
  show AWp _ _ _ ⟨[(0, .p (encTable t_3011)), (1, .p (.slc (List.map (encL (PV.int .i64)) l_3012)))], []⟩
  simp only [drossref55_Of] at h
  refine awp_seq ?_
  refine awp_region ?_
  refine AL_upto (by exact rfl) (by simp only [go_sem, seval]; exact rfl) ?_
  refine AL_nil ?_
  refine thenA_n ?_
  refine awp_seq ?_
  refine awp_seq ?_
  refine awp_region ?_
  refine AL_upto (by exact rfl) (by simp only [go_sem, seval]; exact rfl) ?_
  obtain ⟨r_3013, hr_3014, h⟩ := Option.bind_eq_some_iff.1 h
  refine AL_con' rfl (guard_none rfl) rfl (by simp only [go_sem, seval]; exact rfl) (by simp only [go_sem, seval]; all_goals ((repeat' refine And.intro ?_ ?_) <;> first | rfl | (simp; done) | (simp; rfl) | (simp [*]; done) | (simp [*]; rfl))) (drossref55_once_con l_3012 _ hr_3014) (.inr rfl) rfl ?_
  refine AL_upto (by exact rfl) (by simp only [go_sem, seval]; exact rfl) ?_
  refine AL_nil ?_
  refine thenA_n ?_
  by_cases hb_3015 : r_3013 = true
  · rw [if_pos hb_3015] at h
    refine awp_cf (by simp only [go_sem, seval, hb_3015]) ?_
    refine awp_skip ?_
    refine thenA_n ?_
    refine awp_seq ?_
    refine awp_region ?_
    refine AL_upto (by exact rfl) (by simp only [go_sem, seval, hb_3015]; exact rfl) ?_
    refine AL_nil ?_
    refine thenA_n ?_
    refine awp_seq ?_
    refine awp_seq ?_
    refine awp_region ?_
    refine AL_upto (by exact rfl) (by simp only [go_sem, seval, hb_3015]; exact rfl) ?_
    refine AL_nil ?_
    refine thenA_n ?_
    refine awp_block ?_
    obtain ⟨o_3124, hL_3125, h⟩ := Option.bind_eq_some_iff.1 h
    refine awp_loop_L (fun (s : Int × Int) => ⟨[(1, .p (.slc (List.map (encL (PV.int .i64)) l_3012))), (2, .loc 2 1 0 0), (5, .p (.int .i64 s.1)), (6, .p (.int .i64 s.2))], [(2, .arr 52 3 1 [.p (encTable t_3011)])]⟩) (fun (o : (Int) ⊕ (Bool)) (e : Exit) (s' : St) => match o with | .inl o_3127 => e = (.exit 0) ∧ Le ⟨Try.prog, Try.f72.ntmps, 0, X, [], fun _ => none, w⟩ s' ⟨[(2, .loc 2 1 0 0), (5, .p (.int .i64 o_3127))], [(2, .arr 52 3 1 [.p (encTable t_3011)])]⟩ | .inr o_3128 => e = .ret ∧ retQ Try.prog Try.f72 (.bool o_3128) .ret s') (by intro o s hT; rcases o with _ | _ <;> (have hh := hT.1; cases hh)) hL_3125 (by simp only [go_sem, seval, hb_3015]; all_goals ((repeat' refine And.intro ?_ ?_) <;> first | rfl | (simp; done) | (simp; rfl) | (simp [*]; done) | (simp [*]; rfl))) ?_ ?_
    · clear h
      intro s x h
      obtain ⟨n_3051, i_3052⟩ := s
      simp only [drossref55_Of_l4] at h
      show AWp _ _ _ ⟨[(1, .p (.slc (List.map (encL (PV.int .i64)) l_3012))), (2, .loc 2 1 0 0), (5, .p (.int .i64 n_3051)), (6, .p (.int .i64 i_3052))], [(2, .arr 52 3 1 [.p (encTable t_3011)])]⟩
      refine awp_seq ?_
      refine awp_seq ?_
      refine awp_region ?_
      refine AL_upto (by exact rfl) (by simp only [go_sem, seval]; exact rfl) ?_
      refine AL_nil ?_
      refine thenA_n ?_
      by_cases hb_3089 : i_3052 < (l_3012.length : Int)
      · rw [if_pos hb_3089] at h
        have hb_3089T := eq_true hb_3089
        refine awp_ct (by simp only [go_sem, seval, hb_3089T]) ?_
        refine awp_skip ?_
        refine thenA_n ?_
        refine awp_seq ?_
        refine awp_block ?_
        refine awp_seq ?_
        refine awp_region ?_
        obtain ⟨x_3092, hx_3093, h⟩ := Option.bind_eq_some_iff.1 h
        obtain ⟨hx_3093a, hx_3093, hx_3093b⟩ := idx_some hx_3093
        have hx_3093A := eq_true hx_3093a
        have hx_3093B := eq_true hx_3093b
        refine AL_upto (by exact rfl) (by simp only [go_sem, seval, hb_3089T, hx_3093, hx_3093A, hx_3093B]; exact rfl) ?_
        refine AL_nil ?_
        refine thenA_n ?_
        refine awp_seq ?_
        refine awp_region ?_
        refine AL_upto (by exact rfl) (by simp only [go_sem, seval, hb_3089T]; exact rfl) ?_
        refine AL_nil ?_
        refine thenA_n ?_
        refine awp_block ?_
        obtain ⟨o_3119, hL_3120, h⟩ := Option.bind_eq_some_iff.1 h
        refine awp_loop_L (fun (s : Int) => ⟨[(1, .p (.slc (List.map (encL (PV.int .i64)) l_3012))), (2, .loc 2 1 0 0), (5, .p (.int .i64 (IntKind.i64.wrap (n_3051 + (x_3092.length : Int))))), (6, .p (.int .i64 i_3052)), (7, .p (.int .i64 s))], [(2, .arr 52 3 1 [.p (encTable t_3011)])]⟩) (fun (o : (Unit) ⊕ (Bool)) (e : Exit) (s' : St) => match o with | .inl o_3122 => e = (.exit 2) ∧ Le ⟨Try.prog, Try.f72.ntmps, 0, X, [], fun _ => none, w⟩ s' ⟨[(1, .p (.slc (List.map (encL (PV.int .i64)) l_3012))), (2, .loc 2 1 0 0), (5, .p (.int .i64 (IntKind.i64.wrap (n_3051 + (x_3092.length : Int))))), (6, .p (.int .i64 i_3052))], [(2, .arr 52 3 1 [.p (encTable t_3011)])]⟩ | .inr o_3123 => e = .ret ∧ retQ Try.prog Try.f72 (.bool o_3123) .ret s') (by intro o s hT; rcases o with _ | _ <;> (have hh := hT.1; cases hh)) hL_3120 (by simp only [go_sem, seval, hb_3089T]; all_goals ((repeat' refine And.intro ?_ ?_) <;> first | rfl | (simp; done) | (simp; rfl) | (simp [*]; done) | (simp [*]; rfl))) ?_ ?_
        · clear h
          intro k_3102 x h
          simp only [drossref55_Of_l3] at h
          show AWp _ _ _ ⟨[(1, .p (.slc (List.map (encL (PV.int .i64)) l_3012))), (2, .loc 2 1 0 0), (5, .p (.int .i64 (IntKind.i64.wrap (n_3051 + (x_3092.length : Int))))), (6, .p (.int .i64 i_3052)), (7, .p (.int .i64 k_3102))], [(2, .arr 52 3 1 [.p (encTable t_3011)])]⟩
          refine awp_seq ?_
          refine awp_seq ?_
          refine awp_region ?_
          obtain ⟨x_3111, hx_3112, h⟩ := Option.bind_eq_some_iff.1 h
          obtain ⟨hx_3112a, hx_3112, hx_3112b⟩ := idx_some hx_3112
          have hx_3112A := eq_true hx_3112a
          have hx_3112B := eq_true hx_3112b
          refine AL_upto (by exact rfl) (by simp only [go_sem, seval, hx_3112, hx_3112A, hx_3112B]; exact rfl) ?_
          refine AL_nil ?_
          refine thenA_n ?_
          by_cases hb_3113 : k_3102 < (x_3111.length : Int)
          · rw [if_pos hb_3113] at h
            have hb_3113T := eq_true hb_3113
            refine awp_ct (by simp only [go_sem, seval, hb_3113T]) ?_
            refine awp_skip ?_
            refine thenA_n ?_
            refine awp_seq ?_
            refine awp_block ?_
            refine awp_seq ?_
            refine awp_drawn_walk mixed (by decide) ?_
            obtain ⟨x_3114, hx_3115, h⟩ := Option.bind_eq_some_iff.1 h
            obtain ⟨hx_3115a, hx_3115, hx_3115b⟩ := idx_some hx_3115
            have hx_3115A := eq_true hx_3115a
            have hx_3115B := eq_true hx_3115b
            refine DGo.upto (by exact rfl) (by simp only [go_sem, seval, hb_3113T, hx_3112, hx_3112A, hx_3112B, hx_3115, hx_3115A, hx_3115B]; exact ⟨rfl, rfl⟩) ?_
            obtain ⟨r_3116, hr_3117, h⟩ := Option.bind_eq_some_iff.1 h
            refine DGo.con' rfl (guard_none rfl) rfl (by simp only [go_sem, seval, hb_3113T]; exact rfl) (by simp only [go_sem, seval, hb_3113T]; all_goals ((repeat' refine And.intro ?_ ?_) <;> first | rfl | (simp; done) | (simp; rfl) | (simp [*]; done) | (simp [*]; rfl))) (by simp only [go_sem, seval, hb_3113T]; exact rfl) (drossref03_Find_con t_3011 x_3114 _ hr_3117) (.inr rfl) rfl ?_
            refine DGo.upto (by exact rfl) (by simp only [go_sem, seval, hb_3113T]; exact ⟨rfl, rfl⟩) ?_
            refine DGo.fin rfl ?_
            refine thenA_n ?_
            refine awp_seq ?_
            refine awp_region ?_
            refine AL_upto (by exact rfl) (by simp only [go_sem, seval, hb_3113T]; exact rfl) ?_
            refine AL_nil ?_
            refine thenA_n ?_
            by_cases hb_3118 : r_3116.2 = true
            · rw [if_pos hb_3118] at h
              refine awp_cf (by simp only [go_sem, seval, hb_3113T, hb_3118]) ?_
              refine awp_skip ?_
              refine blockA_n ?_
              refine thenA_n ?_
              refine awp_region ?_
              refine AL_upto (by exact rfl) (by simp only [go_sem, seval, hb_3113T, hb_3118]; exact rfl) ?_
              refine AL_nil ?_
              cases h
              refine ⟨rfl, ?_⟩
              simp only [go_sem, seval, hb_3113T, hb_3118]
              all_goals ((repeat' refine And.intro ?_ ?_) <;> first | rfl | (simp; done) | (simp; rfl) | (simp [*]; done) | (simp [*]; rfl))
            · rw [if_neg hb_3118] at h
              have hb_3118F := Bool.eq_false_iff.2 hb_3118
              refine awp_ct (by simp only [go_sem, seval, hb_3113T, hb_3118F]) ?_
              refine awp_seq ?_
              refine awp_region ?_
              refine AL_upto (by exact rfl) (by simp only [go_sem, seval, hb_3113T, hb_3118F]; exact rfl) ?_
              refine AL_nil ?_
              refine thenA_n ?_
              refine awp_ret ?_
              refine blockA_ret ?_
              refine thenA_ret ?_
              cases h
              refine ⟨rfl, ?_⟩
              refine retQ_ret (by simp only [Try.results72]; simp only [go_sem, seval, hb_3113T, hb_3118F]; exact rfl) ?_
              simp only [go_sem, seval, hb_3113T, hb_3118F]
              all_goals ((repeat' refine And.intro ?_ ?_) <;> first | rfl | (simp; done) | (simp; rfl) | (simp [*]; done) | (simp [*]; rfl))
          · rw [if_neg hb_3113] at h
            have hb_3113T := eq_false hb_3113
            refine awp_cf (by simp only [go_sem, seval, hb_3113T]) ?_
            refine awp_exit ?_
            refine thenA_exit ?_
            cases h
            refine ⟨rfl, ?_⟩
            simp only [go_sem, seval, hb_3113T]
            all_goals ((repeat' refine And.intro ?_ ?_) <;> first | rfl | (simp; done) | (simp; rfl) | (simp [*]; done) | (simp [*]; rfl))
        · intro e s' hT
          rcases o_3119 with ⟨⟩ | r_3121
          · try simp only at h
            try simp only at hT
            obtain ⟨rfl, hle⟩ := hT
            refine Wk.to hle ?_
            clear hle
            refine blockA_here ?_
            refine blockA_n ?_
            refine thenA_n ?_
            refine awp_region ?_
            refine AL_upto (by exact rfl) (by simp only [go_sem, seval, hb_3089T]; exact rfl) ?_
            refine AL_nil ?_
            cases h
            refine ⟨rfl, ?_⟩
            simp only [go_sem, seval, hb_3089T]
            all_goals ((repeat' refine And.intro ?_ ?_) <;> first | rfl | (simp; done) | (simp; rfl) | (simp [*]; done) | (simp [*]; rfl))
          · try simp only at h
            try simp only at hT
            obtain ⟨rfl, hq⟩ := hT
            refine Wk.now ?_
            refine blockA_ret ?_
            refine blockA_ret ?_
            refine thenA_ret ?_
            cases h
            refine ⟨rfl, ?_⟩
            exact hq
      · rw [if_neg hb_3089] at h
        have hb_3089T := eq_false hb_3089
        refine awp_cf (by simp only [go_sem, seval, hb_3089T]) ?_
        refine awp_exit ?_
        refine thenA_exit ?_
        cases h
        refine ⟨rfl, ?_⟩
        simp only [go_sem, seval, hb_3089T]
        all_goals ((repeat' refine And.intro ?_ ?_) <;> first | rfl | (simp; done) | (simp; rfl) | (simp [*]; done) | (simp [*]; rfl))
    · intro e s' hT
      rcases o_3124 with n_3088 | r_3126
      · try simp only at h
        try simp only at hT
        obtain ⟨rfl, hle⟩ := hT
        refine Wk.to hle ?_
        clear hle
        refine blockA_here ?_
        refine thenA_n ?_
        refine awp_seq ?_
        refine awp_region ?_
        refine AL_upto (by exact rfl) (by simp only [go_sem, seval, hb_3015]; exact rfl) ?_
        refine AL_nil ?_
        refine thenA_n ?_
        refine awp_ret ?_
        cases h
        refine retQ_ret (by simp only [Try.results72]; simp only [go_sem, seval, hb_3015]; exact rfl) ?_
        simp only [go_sem, seval, hb_3015]
        all_goals ((repeat' refine And.intro ?_ ?_) <;> first | rfl | (simp; done) | (simp; rfl) | (simp [*]; done) | (simp [*]; rfl))
      · try simp only at h
        try simp only at hT
        obtain ⟨rfl, hq⟩ := hT
        refine Wk.now ?_
        refine blockA_ret ?_
        refine thenA_ret ?_
        cases h
        exact hq
  · rw [if_neg hb_3015] at h
    have hb_3015F := Bool.eq_false_iff.2 hb_3015
    refine awp_ct (by simp only [go_sem, seval, hb_3015F]) ?_
    refine awp_seq ?_
    refine awp_region ?_
    refine AL_upto (by exact rfl) (by simp only [go_sem, seval, hb_3015F]; exact rfl) ?_
    refine AL_nil ?_
    refine thenA_n ?_
    refine awp_ret ?_
    refine thenA_ret ?_
    cases h
    refine retQ_ret (by simp only [Try.results72]; simp only [go_sem, seval, hb_3015F]; exact rfl) ?_
    simp only [go_sem, seval, hb_3015F]
    all_goals ((repeat' refine And.intro ?_ ?_) <;> first | rfl | (simp; done) | (simp; rfl) | (simp [*]; done) | (simp [*]; rfl))
end Go.Proofs.Ytdmddoljldjjeaa
set_option linter.unusedVariables false
set_option linter.unusedSimpArgs false
namespace Go.Proofs.Ytdmddoljldjjeaa
open Go Go.Ab
set_option maxHeartbeats 4000000 in
theorem drossref55_Merging_con (t_3130 : Table) (m_3131 : Merged) (r_3367 : Bool) (h : drossref55_Merging t_3130 m_3131 = some r_3367) : Con Try.prog 43 [(encTable t_3130), (encMerged m_3131)] (.bool r_3367) := by
  refine ⟨Try.call43, ?_⟩
  refine pure_of_awp Try.func43 rfl Try.ntmps43 (by simp) fun X w => ?_
  show AWp _ _ _ ⟨[(0, .p (encTable t_3130)), (1, .p (encMerged m_3131))], []⟩
  simp only [drossref55_Merging] at h
  refine awp_seq ?_
  refine awp_region ?_
  refine AL_upto (by exact rfl) (by simp only [go_sem, seval]; exact rfl) ?_
  refine AL_nil ?_
  refine thenA_n ?_
  refine awp_seq ?_
  refine awp_seq ?_
  refine awp_region ?_
  refine AL_upto (by exact rfl) (by simp only [go_sem, seval]; exact rfl) ?_
  obtain ⟨r_3132, hr_3133, h⟩ := Option.bind_eq_some_iff.1 h
  refine AL_con' rfl (guard_none rfl) rfl (by simp only [go_sem, seval]; exact rfl) (by simp only [go_sem, seval]; all_goals ((repeat' refine And.intro ?_ ?_) <;> first | rfl | (simp; done) | (simp; rfl) | (simp [*]; done) | (simp [*]; rfl))) (drossref55_WellFormed_con m_3131 _ hr_3133) (.inr rfl) rfl ?_
  refine AL_upto (by exact rfl) (by simp only [go_sem, seval]; exact rfl) ?_
  by_cases hb_3134 : r_3132 = true
  · rw [if_pos hb_3134] at h
    refine AL_known (d := 12) (v := .p (.bool false)) (by simp only [go_sem, seval, hb_3134]) ?_
    refine AL_gt' (guard_true' rfl rfl (by exact rfl) (by exact rfl)) rfl (by simp only [go_sem, seval, hb_3134]; exact rfl) ?_
    refine AL_gt' (guard_true' rfl rfl (by exact rfl) (by exact rfl)) rfl (by simp only [go_sem, seval, hb_3134]; exact rfl) ?_
    refine AL_gt' (guard_true' rfl rfl (by exact rfl) (by exact rfl)) rfl (by simp only [go_sem, seval, hb_3134]; exact rfl) ?_
    refine AL_gt' (guard_true' rfl rfl (by exact rfl) (by exact rfl)) rfl (by simp only [go_sem, seval, hb_3134]; exact rfl) ?_
    refine AL_gt' (guard_true' rfl rfl (by exact rfl) (by exact rfl)) rfl (by simp only [go_sem, seval, hb_3134]; exact rfl) ?_
    refine AL_gt' (guard_true' rfl rfl (by exact rfl) (by exact rfl)) rfl (by simp only [go_sem, seval, hb_3134]; exact rfl) ?_
    refine AL_upto (by exact rfl) (by simp only [go_sem, seval, hb_3134]; exact rfl) ?_
    by_cases hb_3135 : (m_3131.Table.Name == t_3130.Name) = true
    · rw [if_pos hb_3135] at h
      refine AL_known (d := 20) (v := .p (.bool false)) (by simp only [go_sem, seval, hb_3134, hb_3135]) ?_
      refine AL_gt' (guard_true' rfl rfl (by exact rfl) (by exact rfl)) rfl (by simp only [go_sem, seval, hb_3134, hb_3135]; exact rfl) ?_
      refine AL_gt' (guard_true' rfl rfl (by exact rfl) (by exact rfl)) rfl (by simp only [go_sem, seval, hb_3134, hb_3135]; exact rfl) ?_
      refine AL_gt' (guard_true' rfl rfl (by exact rfl) (by exact rfl)) rfl (by simp only [go_sem, seval, hb_3134, hb_3135]; exact rfl) ?_
      refine AL_gt' (guard_true' rfl rfl (by exact rfl) (by exact rfl)) rfl (by simp only [go_sem, seval, hb_3134, hb_3135]; exact rfl) ?_
      refine AL_gt' (guard_true' rfl rfl (by exact rfl) (by exact rfl)) rfl (by simp only [go_sem, seval, hb_3134, hb_3135]; exact rfl) ?_
      obtain ⟨r_3136, hr_3137, h⟩ := Option.bind_eq_some_iff.1 h
      refine AL_con' rfl (guard_true' rfl rfl (by exact rfl) (by exact rfl)) rfl (by simp only [go_sem, seval, hb_3134, hb_3135]; exact rfl) (by simp only [go_sem, seval, hb_3134, hb_3135]; all_goals ((repeat' refine And.intro ?_ ?_) <;> first | rfl | (simp; done) | (simp; rfl) | (simp [*]; done) | (simp [*]; rfl))) (drossref03_Strings_con m_3131.Table.Attrs t_3130.Attrs _ hr_3137) (.inr rfl) rfl ?_
      refine AL_gt' (guard_true' rfl rfl (by exact rfl) (by exact rfl)) rfl (by simp only [go_sem, seval, hb_3134, hb_3135]; exact rfl) ?_
      refine AL_upto (by exact rfl) (by simp only [go_sem, seval, hb_3134, hb_3135]; exact rfl) ?_
      by_cases hb_3138 : r_3136 = true
      · rw [if_pos hb_3138] at h
        refine AL_known (d := 29) (v := .p (.bool false)) (by simp only [go_sem, seval, hb_3134, hb_3135, hb_3138]) ?_
        refine AL_gt' (guard_true' rfl rfl (by exact rfl) (by exact rfl)) rfl (by simp only [go_sem, seval, hb_3134, hb_3135, hb_3138]; exact rfl) ?_
        refine AL_gt' (guard_true' rfl rfl (by exact rfl) (by exact rfl)) rfl (by simp only [go_sem, seval, hb_3134, hb_3135, hb_3138]; exact rfl) ?_
        refine AL_gt' (guard_true' rfl rfl (by exact rfl) (by exact rfl)) rfl (by simp only [go_sem, seval, hb_3134, hb_3135, hb_3138]; exact rfl) ?_
        obtain ⟨r_3139, hr_3140, h⟩ := Option.bind_eq_some_iff.1 h
        refine AL_con' rfl (guard_true' rfl rfl (by exact rfl) (by exact rfl)) rfl (by simp only [go_sem, seval, hb_3134, hb_3135, hb_3138]; exact rfl) (by simp only [go_sem, seval, hb_3134, hb_3135, hb_3138]; all_goals ((repeat' refine And.intro ?_ ?_) <;> first | rfl | (simp; done) | (simp; rfl) | (simp [*]; done) | (simp [*]; rfl))) (drossref55_Of_con t_3130 m_3131.Clusters _ hr_3140) (.inr rfl) rfl ?_
        refine AL_gt' (guard_true' rfl rfl (by exact rfl) (by exact rfl)) rfl (by simp only [go_sem, seval, hb_3134, hb_3135, hb_3138]; exact rfl) ?_
        refine AL_upto (by exact rfl) (by simp only [go_sem, seval, hb_3134, hb_3135, hb_3138]; exact rfl) ?_
        refine AL_nil ?_
        refine thenA_n ?_
        by_cases hb_3141 : r_3139 = true
        · rw [if_pos hb_3141] at h
          refine awp_cf (by simp only [go_sem, seval, hb_3134, hb_3135, hb_3138, hb_3141]) ?_
          refine awp_skip ?_
          refine thenA_n ?_
          refine awp_seq ?_
          refine awp_seq ?_
          refine awp_region ?_
          refine AL_upto (by exact rfl) (by simp only [go_sem, seval, hb_3134, hb_3135, hb_3138, hb_3141]; exact rfl) ?_
          refine AL_nil ?_
          refine thenA_n ?_
          refine awp_block ?_
          obtain ⟨o_3362, hL_3363, h⟩ := Option.bind_eq_some_iff.1 h
          refine awp_loop_L (fun (s : Int) => ⟨[(2, .loc 2 1 0 0), (3, .loc 3 1 0 0), (5, .p (.int .i64 s))], [(2, .arr 52 3 1 [.p (encTable t_3130)]), (3, .arr 55 5 1 [.p (encMerged m_3131)])]⟩) (fun (o : (Unit) ⊕ (Bool)) (e : Exit) (s' : St) => match o with | .inl o_3365 => e = (.exit 0) ∧ Le ⟨Try.prog, Try.f43.ntmps, 0, X, [], fun _ => none, w⟩ s' ⟨[], []⟩ | .inr o_3366 => e = .ret ∧ retQ Try.prog Try.f43 (.bool o_3366) .ret s') (by intro o s hT; rcases o with _ | _ <;> (have hh := hT.1; cases hh)) hL_3363 (by simp only [go_sem, seval, hb_3134, hb_3135, hb_3138, hb_3141]; all_goals ((repeat' refine And.intro ?_ ?_) <;> first | rfl | (simp; done) | (simp; rfl) | (simp [*]; done) | (simp [*]; rfl))) ?_ ?_
          · clear h
            intro i_3215 x h
            simp only [drossref55_Merging_l4] at h
            show AWp _ _ _ ⟨[(2, .loc 2 1 0 0), (3, .loc 3 1 0 0), (5, .p (.int .i64 i_3215))], [(2, .arr 52 3 1 [.p (encTable t_3130)]), (3, .arr 55 5 1 [.p (encMerged m_3131)])]⟩
            refine awp_seq ?_
            refine awp_seq ?_
            refine awp_region ?_
            refine AL_upto (by exact rfl) (by simp only [go_sem, seval]; exact rfl) ?_
            refine AL_nil ?_
            refine thenA_n ?_
            by_cases hb_3289 : i_3215 < (m_3131.Origins.length : Int)
            · rw [if_pos hb_3289] at h
              have hb_3289T := eq_true hb_3289
              refine awp_ct (by simp only [go_sem, seval, hb_3289T]) ?_
              refine awp_skip ?_
              refine thenA_n ?_
              refine awp_seq ?_
              refine awp_block ?_
              refine awp_seq ?_
              refine awp_region ?_
              refine AL_upto (by exact rfl) (by simp only [go_sem, seval, hb_3289T]; exact rfl) ?_
              refine AL_nil ?_
              refine thenA_n ?_
              refine awp_block ?_
              obtain ⟨o_3357, hL_3358, h⟩ := Option.bind_eq_some_iff.1 h
              refine awp_loop_L (fun (s : Int) => ⟨[(2, .loc 2 1 0 0), (3, .loc 3 1 0 0), (5, .p (.int .i64 i_3215)), (6, .p (.int .i64 s))], [(2, .arr 52 3 1 [.p (encTable t_3130)]), (3, .arr 55 5 1 [.p (encMerged m_3131)])]⟩) (fun (o : (Unit) ⊕ (Bool)) (e : Exit) (s' : St) => match o with | .inl o_3360 => e = (.exit 2) ∧ Le ⟨Try.prog, Try.f43.ntmps, 0, X, [], fun _ => none, w⟩ s' ⟨[(2, .loc 2 1 0 0), (3, .loc 3 1 0 0), (5, .p (.int .i64 i_3215))], [(2, .arr 52 3 1 [.p (encTable t_3130)]), (3, .arr 55 5 1 [.p (encMerged m_3131)])]⟩ | .inr o_3361 => e = .ret ∧ retQ Try.prog Try.f43 (.bool o_3361) .ret s') (by intro o s hT; rcases o with _ | _ <;> (have hh := hT.1; cases hh)) hL_3358 (by simp only [go_sem, seval, hb_3289T]; all_goals ((repeat' refine And.intro ?_ ?_) <;> first | rfl | (simp; done) | (simp; rfl) | (simp [*]; done) | (simp [*]; rfl))) ?_ ?_
              · clear h
                intro k_3312 x h
                simp only [drossref55_Merging_l3] at h
                show AWp _ _ _ ⟨[(2, .loc 2 1 0 0), (3, .loc 3 1 0 0), (5, .p (.int .i64 i_3215)), (6, .p (.int .i64 k_3312))], [(2, .arr 52 3 1 [.p (encTable t_3130)]), (3, .arr 55 5 1 [.p (encMerged m_3131)])]⟩
                refine awp_seq ?_
                refine awp_seq ?_
                refine awp_region ?_
                obtain ⟨x_3335, hx_3336, h⟩ := Option.bind_eq_some_iff.1 h
                obtain ⟨hx_3336a, hx_3336, hx_3336b⟩ := idx_some hx_3336
                have hx_3336A := eq_true hx_3336a
                have hx_3336B := eq_true hx_3336b
                refine AL_upto (by exact rfl) (by simp only [go_sem, seval, hx_3336, hx_3336A, hx_3336B]; exact rfl) ?_
                refine AL_nil ?_
                refine thenA_n ?_
                by_cases hb_3337 : k_3312 < (x_3335.length : Int)
                · rw [if_pos hb_3337] at h
                  have hb_3337T := eq_true hb_3337
                  refine awp_ct (by simp only [go_sem, seval, hb_3337T]) ?_
                  refine awp_skip ?_
                  refine thenA_n ?_
                  refine awp_seq ?_
                  refine awp_block ?_
                  refine awp_seq ?_
                  refine awp_drawn_walk mixed (by decide) ?_
                  obtain ⟨x_3342, hx_3343, h⟩ := Option.bind_eq_some_iff.1 h
                  obtain ⟨hx_3343a, hx_3343, hx_3343b⟩ := idx_some hx_3343
                  have hx_3343A := eq_true hx_3343a
                  have hx_3343B := eq_true hx_3343b
                  refine DGo.upto (by exact rfl) (by simp only [go_sem, seval, hb_3337T, hx_3336, hx_3336A, hx_3336B, hx_3343, hx_3343A, hx_3343B]; exact ⟨rfl, rfl⟩) ?_
                  obtain ⟨r_3344, hr_3345, h⟩ := Option.bind_eq_some_iff.1 h
                  refine DGo.con' rfl (guard_none rfl) rfl (by simp only [go_sem, seval, hb_3337T]; exact rfl) (by simp only [go_sem, seval, hb_3337T]; all_goals ((repeat' refine And.intro ?_ ?_) <;> first | rfl | (simp; done) | (simp; rfl) | (simp [*]; done) | (simp [*]; rfl))) (by simp only [go_sem, seval, hb_3337T]; exact rfl) (drossref03_Find_con t_3130 x_3342 _ hr_3345) (.inr rfl) rfl ?_
                  refine DGo.upto (by exact rfl) (by simp only [go_sem, seval, hb_3337T]; exact ⟨rfl, rfl⟩) ?_
                  refine DGo.fin rfl ?_
                  refine thenA_n ?_
                  refine awp_seq ?_
                  refine awp_drawn_walk mixed (by decide) ?_
                  obtain ⟨x_3346, hx_3347, h⟩ := Option.bind_eq_some_iff.1 h
                  obtain ⟨hx_3347a, hx_3347, hx_3347b⟩ := idx_some hx_3347
                  have hx_3347A := eq_true hx_3347a
                  have hx_3347B := eq_true hx_3347b
                  obtain ⟨x_3348, hx_3349, h⟩ := Option.bind_eq_some_iff.1 h
                  obtain ⟨hx_3349a, hx_3349, hx_3349b⟩ := idx_some hx_3349
                  have hx_3349A := eq_true hx_3349a
                  have hx_3349B := eq_true hx_3349b
                  obtain ⟨x_3350, hx_3351, h⟩ := Option.bind_eq_some_iff.1 h
                  obtain ⟨hx_3351a, hx_3351, hx_3351b⟩ := idx_some hx_3351
                  have hx_3351A := eq_true hx_3351a
                  have hx_3351B := eq_true hx_3351b
                  obtain ⟨x_3352, hx_3353, h⟩ := Option.bind_eq_some_iff.1 h
                  obtain ⟨hx_3353a, hx_3353, hx_3353b⟩ := idx_some hx_3353
                  have hx_3353A := eq_true hx_3353a
                  have hx_3353B := eq_true hx_3353b
                  refine DGo.upto (by exact rfl) (by simp only [go_sem, seval, hb_3337T, hx_3347, hx_3347A, hx_3347B, hx_3349, hx_3349A, hx_3349B, hx_3351, hx_3351A, hx_3351B, hx_3353, hx_3353A, hx_3353B]; exact ⟨rfl, rfl⟩) ?_
                  obtain ⟨r_3354, hr_3355, h⟩ := Option.bind_eq_some_iff.1 h
                  refine DGo.con' rfl (guard_none rfl) rfl (by simp only [go_sem, seval, hb_3337T]; exact rfl) (by simp only [go_sem, seval, hb_3337T]; all_goals ((repeat' refine And.intro ?_ ?_) <;> first | rfl | (simp; done) | (simp; rfl) | (simp [*]; done) | (simp [*]; rfl))) (by simp only [go_sem, seval, hb_3337T]; exact rfl) (drossref01_Compare_con x_3348 x_3352 _ hr_3355) (.inr rfl) rfl ?_
                  refine DGo.upto (by exact rfl) (by simp only [go_sem, seval, hb_3337T]; exact ⟨rfl, rfl⟩) ?_
                  refine DGo.fin rfl ?_
                  refine thenA_n ?_
                  by_cases hb_3356 : (r_3354 != 0) = true
                  · rw [if_pos hb_3356] at h
                    refine awp_ct (by simp only [go_sem, seval, hb_3337T, hb_3356]) ?_
                    refine awp_seq ?_
                    refine awp_region ?_
                    refine AL_upto (by exact rfl) (by simp only [go_sem, seval, hb_3337T, hb_3356]; exact rfl) ?_
                    refine AL_nil ?_
                    refine thenA_n ?_
                    refine awp_ret ?_
                    refine blockA_ret ?_
                    refine thenA_ret ?_
                    cases h
                    refine ⟨rfl, ?_⟩
                    refine retQ_ret (by simp only [Try.results43]; simp only [go_sem, seval, hb_3337T, hb_3356]; exact rfl) ?_
                    simp only [go_sem, seval, hb_3337T, hb_3356]
                    all_goals ((repeat' refine And.intro ?_ ?_) <;> first | rfl | (simp; done) | (simp; rfl) | (simp [*]; done) | (simp [*]; rfl))
                  · rw [if_neg hb_3356] at h
                    have hb_3356F := Bool.eq_false_iff.2 hb_3356
                    refine awp_cf (by simp only [go_sem, seval, hb_3337T, hb_3356F]) ?_
                    refine awp_skip ?_
                    refine blockA_n ?_
                    refine thenA_n ?_
                    refine awp_region ?_
                    refine AL_upto (by exact rfl) (by simp only [go_sem, seval, hb_3337T, hb_3356F]; exact rfl) ?_
                    refine AL_nil ?_
                    cases h
                    refine ⟨rfl, ?_⟩
                    simp only [go_sem, seval, hb_3337T, hb_3356F]
                    all_goals ((repeat' refine And.intro ?_ ?_) <;> first | rfl | (simp; done) | (simp; rfl) | (simp [*]; done) | (simp [*]; rfl))
                · rw [if_neg hb_3337] at h
                  have hb_3337T := eq_false hb_3337
                  refine awp_cf (by simp only [go_sem, seval, hb_3337T]) ?_
                  refine awp_exit ?_
                  refine thenA_exit ?_
                  cases h
                  refine ⟨rfl, ?_⟩
                  simp only [go_sem, seval, hb_3337T]
                  all_goals ((repeat' refine And.intro ?_ ?_) <;> first | rfl | (simp; done) | (simp; rfl) | (simp [*]; done) | (simp [*]; rfl))
              · intro e s' hT
                rcases o_3357 with ⟨⟩ | r_3359
                · try simp only at h
                  try simp only at hT
                  obtain ⟨rfl, hle⟩ := hT
                  refine Wk.to hle ?_
                  clear hle
                  refine blockA_here ?_
                  refine blockA_n ?_
                  refine thenA_n ?_
                  refine awp_region ?_
                  refine AL_upto (by exact rfl) (by simp only [go_sem, seval, hb_3289T]; exact rfl) ?_
                  refine AL_nil ?_
                  cases h
                  refine ⟨rfl, ?_⟩
                  simp only [go_sem, seval, hb_3289T]
                  all_goals ((repeat' refine And.intro ?_ ?_) <;> first | rfl | (simp; done) | (simp; rfl) | (simp [*]; done) | (simp [*]; rfl))
                · try simp only at h
                  try simp only at hT
                  obtain ⟨rfl, hq⟩ := hT
                  refine Wk.now ?_
                  refine blockA_ret ?_
                  refine blockA_ret ?_
                  refine thenA_ret ?_
                  cases h
                  refine ⟨rfl, ?_⟩
                  exact hq
            · rw [if_neg hb_3289] at h
              have hb_3289T := eq_false hb_3289
              refine awp_cf (by simp only [go_sem, seval, hb_3289T]) ?_
              refine awp_exit ?_
              refine thenA_exit ?_
              cases h
              refine ⟨rfl, ?_⟩
              simp only [go_sem, seval, hb_3289T]
              all_goals ((repeat' refine And.intro ?_ ?_) <;> first | rfl | (simp; done) | (simp; rfl) | (simp [*]; done) | (simp [*]; rfl))
          · intro e s' hT
            rcases o_3362 with ⟨⟩ | r_3364
            · try simp only at h
              try simp only at hT
              obtain ⟨rfl, hle⟩ := hT
              refine Wk.to hle ?_
              clear hle
              refine blockA_here ?_
              refine thenA_n ?_
              refine awp_seq ?_
              refine awp_region ?_
              refine AL_upto (by exact rfl) (by simp only [go_sem, seval, hb_3134, hb_3135, hb_3138, hb_3141]; exact rfl) ?_
              refine AL_nil ?_
              refine thenA_n ?_
              refine awp_ret ?_
              cases h
              refine retQ_ret (by simp only [Try.results43]; simp only [go_sem, seval, hb_3134, hb_3135, hb_3138, hb_3141]; exact rfl) ?_
              simp only [go_sem, seval, hb_3134, hb_3135, hb_3138, hb_3141]
              all_goals ((repeat' refine And.intro ?_ ?_) <;> first | rfl | (simp; done) | (simp; rfl) | (simp [*]; done) | (simp [*]; rfl))
            · try simp only at h
              try simp only at hT
              obtain ⟨rfl, hq⟩ := hT
              refine Wk.now ?_
              refine blockA_ret ?_
              refine thenA_ret ?_
              cases h
              exact hq
        · rw [if_neg hb_3141] at h
          have hb_3141F := Bool.eq_false_iff.2 hb_3141
          refine awp_ct (by simp only [go_sem, seval, hb_3134, hb_3135, hb_3138, hb_3141F]) ?_
          refine awp_seq ?_
          refine awp_region ?_
          refine AL_upto (by exact rfl) (by simp only [go_sem, seval, hb_3134, hb_3135, hb_3138, hb_3141F]; exact rfl) ?_
          refine AL_nil ?_
          refine thenA_n ?_
          refine awp_ret ?_
          refine thenA_ret ?_
          cases h
          refine retQ_ret (by simp only [Try.results43]; simp only [go_sem, seval, hb_3134, hb_3135, hb_3138, hb_3141F]; exact rfl) ?_
          simp only [go_sem, seval, hb_3134, hb_3135, hb_3138, hb_3141F]
          all_goals ((repeat' refine And.intro ?_ ?_) <;> first | rfl | (simp; done) | (simp; rfl) | (simp [*]; done) | (simp [*]; rfl))
      · rw [if_neg hb_3138] at h
        have hb_3138F := Bool.eq_false_iff.2 hb_3138
        refine AL_known (d := 29) (v := .p (.bool true)) (by simp only [go_sem, seval, hb_3134, hb_3135, hb_3138F]) ?_
        refine AL_skips (by exact rfl) ?_
        refine AL_upto (by exact rfl) (by simp only [go_sem, seval, hb_3134, hb_3135, hb_3138F]; exact rfl) ?_
        refine AL_nil ?_
        refine thenA_n ?_
        refine awp_ct (by simp only [go_sem, seval, hb_3134, hb_3135, hb_3138F]) ?_
        refine awp_seq ?_
        refine awp_region ?_
        refine AL_upto (by exact rfl) (by simp only [go_sem, seval, hb_3134, hb_3135, hb_3138F]; exact rfl) ?_
        refine AL_nil ?_
        refine thenA_n ?_
        refine awp_ret ?_
        refine thenA_ret ?_
        cases h
        refine retQ_ret (by simp only [Try.results43]; simp only [go_sem, seval, hb_3134, hb_3135, hb_3138F]; exact rfl) ?_
        simp only [go_sem, seval, hb_3134, hb_3135, hb_3138F]
        all_goals ((repeat' refine And.intro ?_ ?_) <;> first | rfl | (simp; done) | (simp; rfl) | (simp [*]; done) | (simp [*]; rfl))
    · rw [if_neg hb_3135] at h
      have hb_3135F := Bool.eq_false_iff.2 hb_3135
      refine AL_known (d := 20) (v := .p (.bool true)) (by simp only [go_sem, seval, hb_3134, hb_3135F]) ?_
      refine AL_skips (by exact rfl) ?_
      refine AL_upto (by exact rfl) (by simp only [go_sem, seval, hb_3134, hb_3135F]; exact rfl) ?_
      refine AL_skips (by exact rfl) ?_
      refine AL_upto (by exact rfl) (by simp only [go_sem, seval, hb_3134, hb_3135F]; exact rfl) ?_
      refine AL_nil ?_
      refine thenA_n ?_
      refine awp_ct (by simp only [go_sem, seval, hb_3134, hb_3135F]) ?_
      refine awp_seq ?_
      refine awp_region ?_
      refine AL_upto (by exact rfl) (by simp only [go_sem, seval, hb_3134, hb_3135F]; exact rfl) ?_
      refine AL_nil ?_
      refine thenA_n ?_
      refine awp_ret ?_
      refine thenA_ret ?_
      cases h
      refine retQ_ret (by simp only [Try.results43]; simp only [go_sem, seval, hb_3134, hb_3135F]; exact rfl) ?_
      simp only [go_sem, seval, hb_3134, hb_3135F]
      all_goals ((repeat' refine And.intro ?_ ?_) <;> first | rfl | (simp; done) | (simp; rfl) | (simp [*]; done) | (simp [*]; rfl))
  · rw [if_neg hb_3134] at h
    have hb_3134F := Bool.eq_false_iff.2 hb_3134
    refine AL_known (d := 12) (v := .p (.bool true)) (by simp only [go_sem, seval, hb_3134F]) ?_
    refine AL_skips (by exact rfl) ?_
    refine AL_upto (by exact rfl) (by simp only [go_sem, seval, hb_3134F]; exact rfl) ?_
    refine AL_skips (by exact rfl) ?_
    refine AL_upto (by exact rfl) (by simp only [go_sem, seval, hb_3134F]; exact rfl) ?_
    refine AL_skips (by exact rfl) ?_
    refine AL_upto (by exact rfl) (by simp only [go_sem, seval, hb_3134F]; exact rfl) ?_
    refine AL_nil ?_
    refine thenA_n ?_
    refine awp_ct (by simp only [go_sem, seval, hb_3134F]) ?_
    refine awp_seq ?_
    refine awp_region ?_
    refine AL_upto (by exact rfl) (by simp only [go_sem, seval, hb_3134F]; exact rfl) ?_
    refine AL_nil ?_
    refine thenA_n ?_
    refine awp_ret ?_
    refine thenA_ret ?_
    cases h
    refine retQ_ret (by simp only [Try.results43]; simp only [go_sem, seval, hb_3134F]; exact rfl) ?_
    simp only [go_sem, seval, hb_3134F]
    all_goals ((repeat' refine And.intro ?_ ?_) <;> first | rfl | (simp; done) | (simp; rfl) | (simp [*]; done) | (simp [*]; rfl))
end Go.Proofs.Ytdmddoljldjjeaa
set_option linter.unusedVariables false
set_option linter.unusedSimpArgs false
namespace Go.Proofs.Ytdmddoljldjjeaa
open Go Go.Ab
set_option maxHeartbeats 4000000 in
theorem drossref55_Lost_con (t_3368 : Table) (m_3369 : Merged) (r_4530 : List CellRef × Int) (h : drossref55_Lost t_3368 m_3369 = some r_4530) : Con Try.prog 21 [(encTable t_3368), (encMerged m_3369)] (.tup [(.slc (List.map encCellRef r_4530.1)), (.int .i64 r_4530.2)]) := by
  refine ⟨Try.call21, ?_⟩
  refine pure_of_awp Try.func21 rfl Try.ntmps21 (by simp) fun X w => ?_
  show AWp _ _ _ ⟨[(0, .p (encTable t_3368)), (1, .p (encMerged m_3369))], []⟩
  simp only [drossref55_Lost] at h
  refine awp_seq ?_
  refine awp_region ?_
  refine AL_upto (by exact rfl) (by simp only [go_sem, seval]; exact rfl) ?_
  refine AL_nil ?_
  refine thenA_n ?_
  refine awp_seq ?_
  refine awp_seq ?_
  refine awp_region ?_
  refine AL_upto (by exact rfl) (by simp only [go_sem, seval]; exact rfl) ?_
  obtain ⟨r_3372, hr_3373, h⟩ := Option.bind_eq_some_iff.1 h
  refine AL_con' rfl (guard_none rfl) rfl (by simp only [go_sem, seval]; exact rfl) (by simp only [go_sem, seval]; all_goals ((repeat' refine And.intro ?_ ?_) <;> first | rfl | (simp; done) | (simp; rfl) | (simp [*]; done) | (simp [*]; rfl))) (drossref03_Valid_con t_3368 _ hr_3373) (.inr rfl) rfl ?_
  refine AL_upto (by exact rfl) (by simp only [go_sem, seval]; exact rfl) ?_
  refine AL_nil ?_
  refine thenA_n ?_
  refine awp_seq ?_
  refine awp_region ?_
  refine AL_upto (by exact rfl) (by simp only [go_sem, seval]; exact rfl) ?_
  refine AL_nil ?_
  refine thenA_n ?_
  by_cases hb_3374 : (r_3372 != 0) = true
  · rw [if_pos hb_3374] at h
    refine awp_ct (by simp only [go_sem, seval, hb_3374]) ?_
    refine awp_seq ?_
    refine awp_region ?_
    refine AL_upto (by exact rfl) (by simp only [go_sem, seval, hb_3374]; exact rfl) ?_
    refine AL_nil ?_
    refine thenA_n ?_
    refine awp_ret ?_
    refine thenA_ret ?_
    cases h
    refine retQ_ret (by simp only [Try.results21]; simp only [go_sem, seval, hb_3374]; exact rfl) ?_
    simp only [go_sem, seval, hb_3374]
    all_goals ((repeat' refine And.intro ?_ ?_) <;> first | rfl | (simp; done) | (simp; rfl) | (simp [*]; done) | (simp [*]; rfl))
  · rw [if_neg hb_3374] at h
    have hb_3374F := Bool.eq_false_iff.2 hb_3374
    refine awp_cf (by simp only [go_sem, seval, hb_3374F]) ?_
    refine awp_skip ?_
    refine thenA_n ?_
    refine awp_seq ?_
    refine awp_seq ?_
    refine awp_region ?_
    refine AL_upto (by exact rfl) (by simp only [go_sem, seval, hb_3374F]; exact rfl) ?_
    obtain ⟨r_3375, hr_3376, h⟩ := Option.bind_eq_some_iff.1 h
    refine AL_con' rfl (guard_none rfl) rfl (by simp only [go_sem, seval, hb_3374F]; exact rfl) (by simp only [go_sem, seval, hb_3374F]; all_goals ((repeat' refine And.intro ?_ ?_) <;> first | rfl | (simp; done) | (simp; rfl) | (simp [*]; done) | (simp [*]; rfl))) (drossref55_Merging_con t_3368 m_3369 _ hr_3376) (.inr rfl) rfl ?_
    refine AL_upto (by exact rfl) (by simp only [go_sem, seval, hb_3374F]; exact rfl) ?_
    refine AL_nil ?_
    refine thenA_n ?_
    by_cases hb_3377 : r_3375 = true
    · rw [if_pos hb_3377] at h
      refine awp_cf (by simp only [go_sem, seval, hb_3374F, hb_3377]) ?_
      refine awp_skip ?_
      refine thenA_n ?_
      refine awp_seq ?_
      refine awp_region ?_
      refine AL_upto (by exact rfl) (by simp only [go_sem, seval, hb_3374F, hb_3377]; exact rfl) ?_
      refine AL_nil ?_
      refine thenA_n ?_
      refine awp_seq ?_
      refine awp_seq ?_
      refine awp_region ?_
      refine AL_upto (by exact rfl) (by simp only [go_sem, seval, hb_3374F, hb_3377]; exact rfl) ?_
      refine AL_nil ?_
      refine thenA_n ?_
      refine awp_block ?_
      obtain ⟨o_4527, hL_4528, h⟩ := Option.bind_eq_some_iff.1 h
      refine awp_loop_L (fun (s : List CellRef × Int) => ⟨[(2, .loc 2 1 0 0), (3, .loc 3 1 0 0), (7, .own 92 1 0 s.1.length), (8, .p (.int .i64 s.2))], [(2, .arr 52 3 1 [.p (encTable t_3368)]), (3, .arr 55 5 1 [.p (encMerged m_3369)]), (92, .arr 57 2 1 (List.map AV.p (List.map encCellRef s.1)))]⟩) (fun (o_4529 : List CellRef) (e : Exit) (s' : St) => e = (.exit 0) ∧ Le ⟨Try.prog, Try.f21.ntmps, 0, X, [], fun _ => none, w⟩ s' ⟨[(7, .own 92 1 0 o_4529.length)], [(92, .arr 57 2 1 (List.map AV.p (List.map encCellRef o_4529)))]⟩) (by intro o s hT; have hh := hT.1; cases hh) hL_4528 (by simp only [go_sem, seval, hb_3374F, hb_3377]; all_goals ((repeat' refine And.intro ?_ ?_) <;> first | rfl | (simp; done) | (simp; rfl) | (simp [*]; done) | (simp [*]; rfl))) ?_ ?_
      · clear h
        intro s x h
        obtain ⟨out_3760, i_3761⟩ := s
        simp only [drossref55_Lost_l13] at h
        show AWp _ _ _ ⟨[(2, .loc 2 1 0 0), (3, .loc 3 1 0 0), (7, .own 92 1 0 out_3760.length), (8, .p (.int .i64 i_3761))], [(2, .arr 52 3 1 [.p (encTable t_3368)]), (3, .arr 55 5 1 [.p (encMerged m_3369)]), (92, .arr 57 2 1 (List.map AV.p (List.map encCellRef out_3760)))]⟩
        refine awp_seq ?_
        refine awp_seq ?_
        refine awp_region ?_
        refine AL_upto (by exact rfl) (by simp only [go_sem, seval]; exact rfl) ?_
        refine AL_nil ?_
        refine thenA_n ?_
        by_cases hb_4145 : i_3761 < (t_3368.Rows.length : Int)
        · rw [if_pos hb_4145] at h
          have hb_4145T := eq_true hb_4145
          refine awp_ct (by simp only [go_sem, seval, hb_4145T]) ?_
          refine awp_skip ?_
          refine thenA_n ?_
          refine awp_seq ?_
          refine awp_block ?_
          refine awp_seq ?_
          refine awp_region ?_
          refine AL_upto (by exact rfl) (by simp only [go_sem, seval, hb_4145T]; exact rfl) ?_
          refine AL_nil ?_
          refine thenA_n ?_
          refine awp_block ?_
          obtain ⟨o_4524, hL_4525, h⟩ := Option.bind_eq_some_iff.1 h
          refine awp_loop_L (fun (s : List CellRef × Int) => ⟨[(2, .loc 2 1 0 0), (3, .loc 3 1 0 0), (7, .own 92 1 0 s.1.length), (8, .p (.int .i64 i_3761)), (9, .p (.int .i64 s.2))], [(2, .arr 52 3 1 [.p (encTable t_3368)]), (3, .arr 55 5 1 [.p (encMerged m_3369)]), (92, .arr 57 2 1 (List.map AV.p (List.map encCellRef s.1)))]⟩) (fun (o_4526 : List CellRef) (e : Exit) (s' : St) => e = (.exit 2) ∧ Le ⟨Try.prog, Try.f21.ntmps, 0, X, [], fun _ => none, w⟩ s' ⟨[(2, .loc 2 1 0 0), (3, .loc 3 1 0 0), (7, .own 92 1 0 o_4526.length), (8, .p (.int .i64 i_3761))], [(2, .arr 52 3 1 [.p (encTable t_3368)]), (3, .arr 55 5 1 [.p (encMerged m_3369)]), (92, .arr 57 2 1 (List.map AV.p (List.map encCellRef o_4526)))]⟩) (by intro o s hT; have hh := hT.1; cases hh) hL_4525 (by simp only [go_sem, seval, hb_4145T]; all_goals ((repeat' refine And.intro ?_ ?_) <;> first | rfl | (simp; done) | (simp; rfl) | (simp [*]; done) | (simp [*]; rfl))) ?_ ?_
          · clear h
            intro s x h
            obtain ⟨out_4271, c_4272⟩ := s
            simp only [drossref55_Lost_l12] at h
            show AWp _ _ _ ⟨[(2, .loc 2 1 0 0), (3, .loc 3 1 0 0), (7, .own 92 1 0 out_4271.length), (8, .p (.int .i64 i_3761)), (9, .p (.int .i64 c_4272))], [(2, .arr 52 3 1 [.p (encTable t_3368)]), (3, .arr 55 5 1 [.p (encMerged m_3369)]), (92, .arr 57 2 1 (List.map AV.p (List.map encCellRef out_4271)))]⟩
            refine awp_seq ?_
            refine awp_seq ?_
            refine awp_region ?_
            refine AL_upto (by exact rfl) (by simp only [go_sem, seval]; exact rfl) ?_
            refine AL_nil ?_
            refine thenA_n ?_
            by_cases hb_4399 : c_4272 < (m_3369.Clusters.length : Int)
            · rw [if_pos hb_4399] at h
              have hb_4399T := eq_true hb_4399
              refine awp_ct (by simp only [go_sem, seval, hb_4399T]) ?_
              refine awp_skip ?_
              refine thenA_n ?_
              refine awp_seq ?_
              refine awp_block ?_
              refine awp_seq ?_
              refine awp_seq ?_
              refine awp_drawn_walk mixed (by decide) ?_
              obtain ⟨x_4400, hx_4401, h⟩ := Option.bind_eq_some_iff.1 h
              obtain ⟨hx_4401a, hx_4401, hx_4401b⟩ := idx_some hx_4401
              have hx_4401A := eq_true hx_4401a
              have hx_4401B := eq_true hx_4401b
              obtain ⟨x_4402, hx_4403, h⟩ := Option.bind_eq_some_iff.1 h
              obtain ⟨hx_4403a, hx_4403, hx_4403b⟩ := idx_some hx_4403
              have hx_4403A := eq_true hx_4403a
              have hx_4403B := eq_true hx_4403b
              refine DGo.upto (by exact rfl) (by simp only [go_sem, seval, hb_4399T, hx_4401, hx_4401A, hx_4401B, hx_4403, hx_4403A, hx_4403B]; exact ⟨rfl, rfl⟩) ?_
              obtain ⟨r_4404, hr_4405, h⟩ := Option.bind_eq_some_iff.1 h
              refine DGo.con' rfl (guard_none rfl) rfl (by simp only [go_sem, seval, hb_4399T]; exact rfl) (by simp only [go_sem, seval, hb_4399T]; all_goals ((repeat' refine And.intro ?_ ?_) <;> first | rfl | (simp; done) | (simp; rfl) | (simp [*]; done) | (simp [*]; rfl))) (by simp only [go_sem, seval, hb_4399T]; exact rfl) (drossref03_Has_con x_4400 x_4402.ID _ hr_4405) (.inr rfl) rfl ?_
              refine DGo.upto (by exact rfl) (by simp only [go_sem, seval, hb_4399T]; exact ⟨rfl, rfl⟩) ?_
              refine DGo.fin rfl ?_
              refine thenA_n ?_
              by_cases hb_4406 : r_4404 = true
              · rw [if_pos hb_4406] at h
                refine awp_cf (by simp only [go_sem, seval, hb_4399T, hb_4406]) ?_
                refine awp_skip ?_
                refine thenA_n ?_
                refine awp_seq ?_
                refine awp_region ?_
                refine AL_upto (by exact rfl) (by simp only [go_sem, seval, hb_4399T, hb_4406]; exact rfl) ?_
                refine AL_nil ?_
                refine thenA_n ?_
                refine awp_block ?_
                obtain ⟨o_4521, hL_4522, h⟩ := Option.bind_eq_some_iff.1 h
                refine awp_loop_L (fun (s : List CellRef × Int) => ⟨[(2, .loc 2 1 0 0), (3, .loc 3 1 0 0), (7, .own 92 1 0 s.1.length), (8, .p (.int .i64 i_3761)), (9, .p (.int .i64 c_4272)), (10, .p (.int .i64 s.2))], [(2, .arr 52 3 1 [.p (encTable t_3368)]), (3, .arr 55 5 1 [.p (encMerged m_3369)]), (92, .arr 57 2 1 (List.map AV.p (List.map encCellRef s.1)))]⟩) (fun (o_4523 : List CellRef) (e : Exit) (s' : St) => e = (.exit 4) ∧ Le ⟨Try.prog, Try.f21.ntmps, 0, X, [], fun _ => none, w⟩ s' ⟨[(2, .loc 2 1 0 0), (3, .loc 3 1 0 0), (7, .own 92 1 0 o_4523.length), (8, .p (.int .i64 i_3761)), (9, .p (.int .i64 c_4272))], [(2, .arr 52 3 1 [.p (encTable t_3368)]), (3, .arr 55 5 1 [.p (encMerged m_3369)]), (92, .arr 57 2 1 (List.map AV.p (List.map encCellRef o_4523)))]⟩) (by intro o s hT; have hh := hT.1; cases hh) hL_4522 (by simp only [go_sem, seval, hb_4399T, hb_4406]; all_goals ((repeat' refine And.intro ?_ ?_) <;> first | rfl | (simp; done) | (simp; rfl) | (simp [*]; done) | (simp [*]; rfl))) ?_ ?_
                · clear h
                  intro s x h
                  obtain ⟨out_4444, k_4445⟩ := s
                  simp only [drossref55_Lost_l11] at h
                  show AWp _ _ _ ⟨[(2, .loc 2 1 0 0), (3, .loc 3 1 0 0), (7, .own 92 1 0 out_4444.length), (8, .p (.int .i64 i_3761)), (9, .p (.int .i64 c_4272)), (10, .p (.int .i64 k_4445))], [(2, .arr 52 3 1 [.p (encTable t_3368)]), (3, .arr 55 5 1 [.p (encMerged m_3369)]), (92, .arr 57 2 1 (List.map AV.p (List.map encCellRef out_4444)))]⟩
                  refine awp_seq ?_
                  refine awp_seq ?_
                  refine awp_region ?_
                  refine AL_upto (by exact rfl) (by simp only [go_sem, seval]; exact rfl) ?_
                  refine AL_nil ?_
                  refine thenA_n ?_
                  by_cases hb_4484 : k_4445 < (t_3368.Attrs.length : Int)
                  · rw [if_pos hb_4484] at h
                    have hb_4484T := eq_true hb_4484
                    refine awp_ct (by simp only [go_sem, seval, hb_4484T]) ?_
                    refine awp_skip ?_
                    refine thenA_n ?_
                    refine awp_seq ?_
                    refine awp_block ?_
                    refine awp_seq ?_
                    refine awp_region ?_
                    obtain ⟨x_4489, hx_4490, h⟩ := Option.bind_eq_some_iff.1 h
                    obtain ⟨hx_4490a, hx_4490, hx_4490b⟩ := idx_some hx_4490
                    have hx_4490A := eq_true hx_4490a
                    have hx_4490B := eq_true hx_4490b
                    obtain ⟨x_4491, hx_4492, h⟩ := Option.bind_eq_some_iff.1 h
                    obtain ⟨hx_4492a, hx_4492, hx_4492b⟩ := idx_some hx_4492
                    have hx_4492A := eq_true hx_4492a
                    have hx_4492B := eq_true hx_4492b
                    refine AL_upto (by exact rfl) (by simp only [go_sem, seval, hb_4484T, hx_4490, hx_4490A, hx_4490B, hx_4492, hx_4492A, hx_4492B]; exact rfl) ?_
                    refine AL_nil ?_
                    refine thenA_n ?_
                    obtain ⟨o_4505, hA_4506, h⟩ := Option.bind_eq_some_iff.1 h
                    refine awp_join (T := (fun (o_4520 : Bool) (e : Exit) (s' : St) => e = .normal ∧ Le ⟨Try.prog, Try.f21.ntmps, 0, X, [], fun _ => none, w⟩ s' ⟨[(2, .loc 2 1 0 0), (3, .loc 3 1 0 0), (7, .own 92 1 0 out_4444.length), (8, .p (.int .i64 i_3761)), (9, .p (.int .i64 c_4272)), (10, .p (.int .i64 k_4445)), (81, .p (.bool o_4520))], [(2, .arr 52 3 1 [.p (encTable t_3368)]), (3, .arr 55 5 1 [.p (encMerged m_3369)]), (92, .arr 57 2 1 (List.map AV.p (List.map encCellRef out_4444)))]⟩) o_4505) ?_ ?_
                    · replace h := hA_4506
                      clear hA_4506
                      refine awp_drawn_walk mixed (by decide) ?_
                      refine DGo.upto (by exact rfl) (by simp only [go_sem, seval, hb_4484T]; exact ⟨rfl, rfl⟩) ?_
                      by_cases hb_4507 : (x_4491.Kind != 0) = true
                      · rw [if_pos hb_4507] at h
                        refine DGo.known' (d := 67) (v := .p (.bool true)) (by simp only [go_sem, seval, hb_4484T, hb_4507]) ?_
                        refine DGo.gt' (guard_true' rfl rfl (by exact rfl) (by exact rfl)) rfl (by simp only [go_sem, seval, hb_4484T, hb_4507]; exact ⟨rfl, rfl⟩) ?_
                        refine DGo.gt' (guard_true' rfl rfl (by exact rfl) (by exact rfl)) rfl (by simp only [go_sem, seval, hb_4484T, hb_4507]; exact ⟨rfl, rfl⟩) ?_
                        refine DGo.gt' (guard_true' rfl rfl (by exact rfl) (by exact rfl)) rfl (by simp only [go_sem, seval, hb_4484T, hb_4507]; exact ⟨rfl, rfl⟩) ?_
                        refine DGo.gt' (guard_true' rfl rfl (by exact rfl) (by exact rfl)) rfl (by simp only [go_sem, seval, hb_4484T, hb_4507]; exact ⟨rfl, rfl⟩) ?_
                        refine DGo.gt' (guard_true' rfl rfl (by exact rfl) (by exact rfl)) rfl (by simp only [go_sem, seval, hb_4484T, hb_4507]; exact ⟨rfl, rfl⟩) ?_
                        obtain ⟨x_4510, hx_4511, h⟩ := Option.bind_eq_some_iff.1 h
                        obtain ⟨hx_4511a, hx_4511, hx_4511b⟩ := idx_some hx_4511
                        have hx_4511A := eq_true hx_4511a
                        have hx_4511B := eq_true hx_4511b
                        refine DGo.gt' (guard_true' rfl rfl (by exact rfl) (by exact rfl)) rfl (by simp only [go_sem, seval, hb_4484T, hb_4507, hx_4511, hx_4511A, hx_4511B]; exact ⟨rfl, rfl⟩) ?_
                        refine DGo.gt' (guard_true' rfl rfl (by exact rfl) (by exact rfl)) rfl (by simp only [go_sem, seval, hb_4484T, hb_4507]; exact ⟨rfl, rfl⟩) ?_
                        refine DGo.gt' (guard_true' rfl rfl (by exact rfl) (by exact rfl)) rfl (by simp only [go_sem, seval, hb_4484T, hb_4507]; exact ⟨rfl, rfl⟩) ?_
                        refine DGo.gt' (guard_true' rfl rfl (by exact rfl) (by exact rfl)) rfl (by simp only [go_sem, seval, hb_4484T, hb_4507]; exact ⟨rfl, rfl⟩) ?_
                        obtain ⟨x_4514, hx_4515, h⟩ := Option.bind_eq_some_iff.1 h
                        obtain ⟨hx_4515a, hx_4515, hx_4515b⟩ := idx_some hx_4515
                        have hx_4515A := eq_true hx_4515a
                        have hx_4515B := eq_true hx_4515b
                        refine DGo.gt' (guard_true' rfl rfl (by exact rfl) (by exact rfl)) rfl (by simp only [go_sem, seval, hb_4484T, hb_4507, hx_4515, hx_4515A, hx_4515B]; exact ⟨rfl, rfl⟩) ?_
                        refine DGo.gt' (guard_true' rfl rfl (by exact rfl) (by exact rfl)) rfl (by simp only [go_sem, seval, hb_4484T, hb_4507]; exact ⟨rfl, rfl⟩) ?_
                        obtain ⟨r_4516, hr_4517, h⟩ := Option.bind_eq_some_iff.1 h
                        refine DGo.con' rfl (guard_true' rfl rfl (by exact rfl) (by exact rfl)) rfl (by simp only [go_sem, seval, hb_4484T, hb_4507]; exact rfl) (by simp only [go_sem, seval, hb_4484T, hb_4507]; all_goals ((repeat' refine And.intro ?_ ?_) <;> first | rfl | (simp; done) | (simp; rfl) | (simp [*]; done) | (simp [*]; rfl))) (by simp only [go_sem, seval, hb_4484T, hb_4507]; exact rfl) (drossref01_Compare_con x_4491 x_4514 _ hr_4517) (.inr rfl) rfl ?_
                        refine DGo.gt' (guard_true' rfl rfl (by exact rfl) (by exact rfl)) rfl (by simp only [go_sem, seval, hb_4484T, hb_4507]; exact ⟨rfl, rfl⟩) ?_
                        refine DGo.upto (by exact rfl) (by simp only [go_sem, seval, hb_4484T, hb_4507]; exact ⟨rfl, rfl⟩) ?_
                        refine DGo.fin rfl ?_
                        cases h
                        refine ⟨rfl, ?_⟩
                        simp only [go_sem, seval, hb_4484T, hb_4507]
                        all_goals ((repeat' refine And.intro ?_ ?_) <;> first | rfl | (simp; done) | (simp; rfl) | (simp [*]; done) | (simp [*]; rfl))
                      · rw [if_neg hb_4507] at h
                        have hb_4507F := Bool.eq_false_iff.2 hb_4507
                        refine DGo.known' (d := 67) (v := .p (.bool false)) (by simp only [go_sem, seval, hb_4484T, hb_4507F]) ?_
                        refine DGo.skips (by exact rfl) ?_
                        refine DGo.upto (by exact rfl) (by simp only [go_sem, seval, hb_4484T, hb_4507F]; exact ⟨rfl, rfl⟩) ?_
                        refine DGo.fin rfl ?_
                        cases h
                        refine ⟨rfl, ?_⟩
                        simp only [go_sem, seval, hb_4484T, hb_4507F]
                        all_goals ((repeat' refine And.intro ?_ ?_) <;> first | rfl | (simp; done) | (simp; rfl) | (simp [*]; done) | (simp [*]; rfl))
                    · intro e s' hT
                      obtain ⟨t81_4504, rfl⟩ : ∃ z, z = o_4505 := ⟨_, rfl⟩
                      try simp only at h
                      try simp only at hT
                      obtain ⟨rfl, hle⟩ := hT
                      refine Wk.to hle ?_
                      clear hle
                      refine thenA_n ?_
                      by_cases hb_4518 : t81_4504 = true
                      · rw [if_pos hb_4518] at h
                        refine awp_ct (by simp only [go_sem, seval, hb_4484T, hb_4518]) ?_
                        refine awp_region ?_
                        obtain ⟨hc_4519, h⟩ := ite_some h
                        refine AL_upto (by exact rfl) (by simp only [go_sem, seval, hb_4484T, hb_4518, hx_4490, hx_4490A, hx_4490B, hc_4519]; exact rfl) ?_
                        refine AL_nil ?_
                        refine blockA_n ?_
                        refine thenA_n ?_
                        refine awp_region ?_
                        refine AL_upto (by exact rfl) (by simp only [go_sem, seval, hb_4484T, hb_4518]; exact rfl) ?_
                        refine AL_nil ?_
                        cases h
                        refine ⟨rfl, ?_⟩
                        simp only [go_sem, seval, hb_4484T, hb_4518]
                        all_goals ((repeat' refine And.intro ?_ ?_) <;> first | rfl | (simp; done) | (simp; rfl) | (simp [*]; done) | (simp [*]; rfl))
                      · rw [if_neg hb_4518] at h
                        have hb_4518F := Bool.eq_false_iff.2 hb_4518
                        refine awp_cf (by simp only [go_sem, seval, hb_4484T, hb_4518F]) ?_
                        refine awp_skip ?_
                        refine blockA_n ?_
                        refine thenA_n ?_
                        refine awp_region ?_
                        refine AL_upto (by exact rfl) (by simp only [go_sem, seval, hb_4484T, hb_4518F]; exact rfl) ?_
                        refine AL_nil ?_
                        cases h
                        refine ⟨rfl, ?_⟩
                        simp only [go_sem, seval, hb_4484T, hb_4518F]
                        all_goals ((repeat' refine And.intro ?_ ?_) <;> first | rfl | (simp; done) | (simp; rfl) | (simp [*]; done) | (simp [*]; rfl))
                  · rw [if_neg hb_4484] at h
                    have hb_4484T := eq_false hb_4484
                    refine awp_cf (by simp only [go_sem, seval, hb_4484T]) ?_
                    refine awp_exit ?_
                    refine thenA_exit ?_
                    cases h
                    refine ⟨rfl, ?_⟩
                    simp only [go_sem, seval, hb_4484T]
                    all_goals ((repeat' refine And.intro ?_ ?_) <;> first | rfl | (simp; done) | (simp; rfl) | (simp [*]; done) | (simp [*]; rfl))
                · intro e s' hT
                  obtain ⟨out_4483, rfl⟩ : ∃ z, z = o_4521 := ⟨_, rfl⟩
                  try simp only at h
                  try simp only at hT
                  obtain ⟨rfl, hle⟩ := hT
                  refine Wk.to hle ?_
                  clear hle
                  refine blockA_here ?_
                  refine blockA_n ?_
                  refine thenA_n ?_
                  refine awp_region ?_
                  refine AL_upto (by exact rfl) (by simp only [go_sem, seval, hb_4399T, hb_4406]; exact rfl) ?_
                  refine AL_nil ?_
                  cases h
                  refine ⟨rfl, ?_⟩
                  simp only [go_sem, seval, hb_4399T, hb_4406]
                  all_goals ((repeat' refine And.intro ?_ ?_) <;> first | rfl | (simp; done) | (simp; rfl) | (simp [*]; done) | (simp [*]; rfl))
              · rw [if_neg hb_4406] at h
                have hb_4406F := Bool.eq_false_iff.2 hb_4406
                refine awp_ct (by simp only [go_sem, seval, hb_4399T, hb_4406F]) ?_
                refine awp_exit ?_
                refine thenA_exit ?_
                refine blockA_here ?_
                refine thenA_n ?_
                refine awp_region ?_
                refine AL_upto (by exact rfl) (by simp only [go_sem, seval, hb_4399T, hb_4406F]; exact rfl) ?_
                refine AL_nil ?_
                cases h
                refine ⟨rfl, ?_⟩
                simp only [go_sem, seval, hb_4399T, hb_4406F]
                all_goals ((repeat' refine And.intro ?_ ?_) <;> first | rfl | (simp; done) | (simp; rfl) | (simp [*]; done) | (simp [*]; rfl))
            · rw [if_neg hb_4399] at h
              have hb_4399T := eq_false hb_4399
              refine awp_cf (by simp only [go_sem, seval, hb_4399T]) ?_
              refine awp_exit ?_
              refine thenA_exit ?_
              cases h
              refine ⟨rfl, ?_⟩
              simp only [go_sem, seval, hb_4399T]
              all_goals ((repeat' refine And.intro ?_ ?_) <;> first | rfl | (simp; done) | (simp; rfl) | (simp [*]; done) | (simp [*]; rfl))
          · intro e s' hT
            obtain ⟨out_4398, rfl⟩ : ∃ z, z = o_4524 := ⟨_, rfl⟩
            try simp only at h
            try simp only at hT
            obtain ⟨rfl, hle⟩ := hT
            refine Wk.to hle ?_
            clear hle
            refine blockA_here ?_
            refine blockA_n ?_
            refine thenA_n ?_
            refine awp_region ?_
            refine AL_upto (by exact rfl) (by simp only [go_sem, seval, hb_4145T]; exact rfl) ?_
            refine AL_nil ?_
            cases h
            refine ⟨rfl, ?_⟩
            simp only [go_sem, seval, hb_4145T]
            all_goals ((repeat' refine And.intro ?_ ?_) <;> first | rfl | (simp; done) | (simp; rfl) | (simp [*]; done) | (simp [*]; rfl))
        · rw [if_neg hb_4145] at h
          have hb_4145T := eq_false hb_4145
          refine awp_cf (by simp only [go_sem, seval, hb_4145T]) ?_
          refine awp_exit ?_
          refine thenA_exit ?_
          cases h
          refine ⟨rfl, ?_⟩
          simp only [go_sem, seval, hb_4145T]
          all_goals ((repeat' refine And.intro ?_ ?_) <;> first | rfl | (simp; done) | (simp; rfl) | (simp [*]; done) | (simp [*]; rfl))
      · intro e s' hT
        obtain ⟨out_4144, rfl⟩ : ∃ z, z = o_4527 := ⟨_, rfl⟩
        try simp only at h
        try simp only at hT
        obtain ⟨rfl, hle⟩ := hT
        refine Wk.to hle ?_
        clear hle
        refine blockA_here ?_
        refine thenA_n ?_
        refine awp_seq ?_
        refine awp_region ?_
        refine AL_upto (by exact rfl) (by simp only [go_sem, seval, hb_3374F, hb_3377]; exact rfl) ?_
        refine AL_nil ?_
        refine thenA_n ?_
        refine awp_ret ?_
        cases h
        refine retQ_ret (by simp only [Try.results21]; simp only [go_sem, seval, hb_3374F, hb_3377]; exact rfl) ?_
        simp only [go_sem, seval, hb_3374F, hb_3377]
        all_goals ((repeat' refine And.intro ?_ ?_) <;> first | rfl | (simp; done) | (simp; rfl) | (simp [*]; done) | (simp [*]; rfl))
    · rw [if_neg hb_3377] at h
      have hb_3377F := Bool.eq_false_iff.2 hb_3377
      refine awp_ct (by simp only [go_sem, seval, hb_3374F, hb_3377F]) ?_
      refine awp_seq ?_
      refine awp_region ?_
      refine AL_upto (by exact rfl) (by simp only [go_sem, seval, hb_3374F, hb_3377F]; exact rfl) ?_
      refine AL_nil ?_
      refine thenA_n ?_
      refine awp_ret ?_
      refine thenA_ret ?_
      cases h
      refine retQ_ret (by simp only [Try.results21]; simp only [go_sem, seval, hb_3374F, hb_3377F]; exact rfl) ?_
      simp only [go_sem, seval, hb_3374F, hb_3377F]
      all_goals ((repeat' refine And.intro ?_ ?_) <;> first | rfl | (simp; done) | (simp; rfl) | (simp [*]; done) | (simp [*]; rfl))
end Go.Proofs.Ytdmddoljldjjeaa
set_option linter.unusedVariables false
set_option linter.unusedSimpArgs false
namespace Go.Proofs.Ytdmddoljldjjeaa
open Go Go.Ab
set_option maxHeartbeats 4000000 in
theorem drossref55_Cells_con (a_4531 : List CellRef) (b_4532 : List CellRef) (r_4558 : Bool) (h : drossref55_Cells a_4531 b_4532 = some r_4558) : Con Try.prog 22 [(.slc (List.map encCellRef a_4531)), (.slc (List.map encCellRef b_4532))] (.bool r_4558) := by
  refine ⟨Try.call22, ?_⟩
  refine pure_of_awp Try.func22 rfl Try.ntmps22 (by simp) fun X w => ?_
  show AWp _ _ _ ⟨[(0, .p (.slc (List.map encCellRef a_4531))), (1, .p (.slc (List.map encCellRef b_4532)))], []⟩
  simp only [drossref55_Cells] at h
  refine awp_seq ?_
  refine awp_region ?_
  refine AL_upto (by exact rfl) (by simp only [go_sem, seval]; exact rfl) ?_
  refine AL_nil ?_
  refine thenA_n ?_
  refine awp_seq ?_
  refine awp_seq ?_
  refine awp_region ?_
  refine AL_upto (by exact rfl) (by simp only [go_sem, seval]; exact rfl) ?_
  refine AL_nil ?_
  refine thenA_n ?_
  by_cases hb_4533 : ((a_4531.length : Int) != (b_4532.length : Int)) = true
  · rw [if_pos hb_4533] at h
    refine awp_ct (by simp only [go_sem, seval, hb_4533]) ?_
    refine awp_seq ?_
    refine awp_region ?_
    refine AL_upto (by exact rfl) (by simp only [go_sem, seval, hb_4533]; exact rfl) ?_
    refine AL_nil ?_
    refine thenA_n ?_
    refine awp_ret ?_
    refine thenA_ret ?_
    cases h
    refine retQ_ret (by simp only [Try.results22]; simp only [go_sem, seval, hb_4533]; exact rfl) ?_
    simp only [go_sem, seval, hb_4533]
    all_goals ((repeat' refine And.intro ?_ ?_) <;> first | rfl | (simp; done) | (simp; rfl) | (simp [*]; done) | (simp [*]; rfl))
  · rw [if_neg hb_4533] at h
    have hb_4533F := Bool.eq_false_iff.2 hb_4533
    refine awp_cf (by simp only [go_sem, seval, hb_4533F]) ?_
    refine awp_skip ?_
    refine thenA_n ?_
    refine awp_seq ?_
    refine awp_seq ?_
    refine awp_region ?_
    refine AL_upto (by exact rfl) (by simp only [go_sem, seval, hb_4533F]; exact rfl) ?_
    refine AL_nil ?_
    refine thenA_n ?_
    refine awp_block ?_
    obtain ⟨o_4553, hL_4554, h⟩ := Option.bind_eq_some_iff.1 h
    refine awp_loop_L (fun (s : Int) => ⟨[(0, .p (.slc (List.map encCellRef a_4531))), (1, .p (.slc (List.map encCellRef b_4532))), (5, .p (.int .i64 s))], []⟩) (fun (o : (Unit) ⊕ (Bool)) (e : Exit) (s' : St) => match o with | .inl o_4556 => e = (.exit 0) ∧ Le ⟨Try.prog, Try.f22.ntmps, 0, X, [], fun _ => none, w⟩ s' ⟨[], []⟩ | .inr o_4557 => e = .ret ∧ retQ Try.prog Try.f22 (.bool o_4557) .ret s') (by intro o s hT; rcases o with _ | _ <;> (have hh := hT.1; cases hh)) hL_4554 (by simp only [go_sem, seval, hb_4533F]; all_goals ((repeat' refine And.intro ?_ ?_) <;> first | rfl | (simp; done) | (simp; rfl) | (simp [*]; done) | (simp [*]; rfl))) ?_ ?_
    · clear h
      intro i_4540 x h
      simp only [drossref55_Cells_l1] at h
      show AWp _ _ _ ⟨[(0, .p (.slc (List.map encCellRef a_4531))), (1, .p (.slc (List.map encCellRef b_4532))), (5, .p (.int .i64 i_4540))], []⟩
      refine awp_seq ?_
      refine awp_seq ?_
      refine awp_region ?_
      refine AL_upto (by exact rfl) (by simp only [go_sem, seval]; exact rfl) ?_
      refine AL_nil ?_
      refine thenA_n ?_
      by_cases hb_4547 : i_4540 < (a_4531.length : Int)
      · rw [if_pos hb_4547] at h
        have hb_4547T := eq_true hb_4547
        refine awp_ct (by simp only [go_sem, seval, hb_4547T]) ?_
        refine awp_skip ?_
        refine thenA_n ?_
        refine awp_seq ?_
        refine awp_block ?_
        refine awp_seq ?_
        refine awp_drawn_walk mixed (by decide) ?_
        obtain ⟨x_4548, hx_4549, h⟩ := Option.bind_eq_some_iff.1 h
        obtain ⟨hx_4549a, hx_4549, hx_4549b⟩ := idx_some hx_4549
        have hx_4549A := eq_true hx_4549a
        have hx_4549B := eq_true hx_4549b
        obtain ⟨x_4550, hx_4551, h⟩ := Option.bind_eq_some_iff.1 h
        obtain ⟨hx_4551a, hx_4551, hx_4551b⟩ := idx_some hx_4551
        have hx_4551A := eq_true hx_4551a
        have hx_4551B := eq_true hx_4551b
        refine DGo.upto (by exact rfl) (by simp only [go_sem, seval, hb_4547T, hx_4549, hx_4549A, hx_4549B, hx_4551, hx_4551A, hx_4551B]; exact ⟨rfl, rfl⟩) ?_
        refine DGo.fin rfl ?_
        refine thenA_n ?_
        by_cases hb_4552 : ((x_4548.ID == x_4550.ID) && (x_4548.Attr == x_4550.Attr)) = true
        · rw [if_pos hb_4552] at h
          refine awp_cf (by simp only [go_sem, seval, hb_4547T, hb_4552]) ?_
          refine awp_skip ?_
          refine blockA_n ?_
          refine thenA_n ?_
          refine awp_region ?_
          refine AL_upto (by exact rfl) (by simp only [go_sem, seval, hb_4547T, hb_4552]; exact rfl) ?_
          refine AL_nil ?_
          cases h
          refine ⟨rfl, ?_⟩
          simp only [go_sem, seval, hb_4547T, hb_4552]
          all_goals ((repeat' refine And.intro ?_ ?_) <;> first | rfl | (simp; done) | (simp; rfl) | (simp [*]; done) | (simp [*]; rfl))
        · rw [if_neg hb_4552] at h
          have hb_4552F := Bool.eq_false_iff.2 hb_4552
          refine awp_ct (by simp only [go_sem, seval, hb_4547T, hb_4552F]) ?_
          refine awp_seq ?_
          refine awp_region ?_
          refine AL_upto (by exact rfl) (by simp only [go_sem, seval, hb_4547T, hb_4552F]; exact rfl) ?_
          refine AL_nil ?_
          refine thenA_n ?_
          refine awp_ret ?_
          refine blockA_ret ?_
          refine thenA_ret ?_
          cases h
          refine ⟨rfl, ?_⟩
          refine retQ_ret (by simp only [Try.results22]; simp only [go_sem, seval, hb_4547T, hb_4552F]; exact rfl) ?_
          simp only [go_sem, seval, hb_4547T, hb_4552F]
          all_goals ((repeat' refine And.intro ?_ ?_) <;> first | rfl | (simp; done) | (simp; rfl) | (simp [*]; done) | (simp [*]; rfl))
      · rw [if_neg hb_4547] at h
        have hb_4547T := eq_false hb_4547
        refine awp_cf (by simp only [go_sem, seval, hb_4547T]) ?_
        refine awp_exit ?_
        refine thenA_exit ?_
        cases h
        refine ⟨rfl, ?_⟩
        simp only [go_sem, seval, hb_4547T]
        all_goals ((repeat' refine And.intro ?_ ?_) <;> first | rfl | (simp; done) | (simp; rfl) | (simp [*]; done) | (simp [*]; rfl))
    · intro e s' hT
      rcases o_4553 with ⟨⟩ | r_4555
      · try simp only at h
        try simp only at hT
        obtain ⟨rfl, hle⟩ := hT
        refine Wk.to hle ?_
        clear hle
        refine blockA_here ?_
        refine thenA_n ?_
        refine awp_seq ?_
        refine awp_region ?_
        refine AL_upto (by exact rfl) (by simp only [go_sem, seval, hb_4533F]; exact rfl) ?_
        refine AL_nil ?_
        refine thenA_n ?_
        refine awp_ret ?_
        cases h
        refine retQ_ret (by simp only [Try.results22]; simp only [go_sem, seval, hb_4533F]; exact rfl) ?_
        simp only [go_sem, seval, hb_4533F]
        all_goals ((repeat' refine And.intro ?_ ?_) <;> first | rfl | (simp; done) | (simp; rfl) | (simp [*]; done) | (simp [*]; rfl))
      · try simp only at h
        try simp only at hT
        obtain ⟨rfl, hq⟩ := hT
        refine Wk.now ?_
        refine blockA_ret ?_
        refine thenA_ret ?_
        cases h
        exact hq
end Go.Proofs.Ytdmddoljldjjeaa
set_option linter.unusedVariables false
set_option linter.unusedSimpArgs false
namespace Go.Proofs.Ytdmddoljldjjeaa
open Go Go.Ab
set_option maxHeartbeats 4000000 in
theorem drosslaw55_SurvivorLost_con (t_4559 : Table) (m_4560 : Merged) (r_4595 : Bool) (h : drosslaw55_SurvivorLost t_4559 m_4560 = some r_4595) : Con Try.prog 6 [(encTable t_4559), (encMerged m_4560)] (.bool r_4595) := by
  refine ⟨Try.call6, ?_⟩
  refine pure_of_awp Try.func6 rfl Try.ntmps6 (by simp) fun X w => ?_
  show AWp _ _ _ ⟨[(0, .p (encTable t_4559)), (1, .p (encMerged m_4560))], []⟩
  simp only [drosslaw55_SurvivorLost] at h
  refine awp_seq ?_
  refine awp_region ?_
  refine AL_upto (by exact rfl) (by simp only [go_sem, seval]; exact rfl) ?_
  refine AL_nil ?_
  refine thenA_n ?_
  refine awp_seq ?_
  obtain ⟨o_4570, hA_4571, h⟩ := Option.bind_eq_some_iff.1 h
  refine awp_join (T := (fun (o_4594 : Bool) (e : Exit) (s' : St) => e = .normal ∧ Le ⟨Try.prog, Try.f6.ntmps, 0, X, [], fun _ => none, w⟩ s' ⟨[(2, .loc 2 1 0 0), (3, .loc 3 1 0 0), (20, .p (.bool o_4594))], [(2, .arr 52 3 1 [.p (encTable t_4559)]), (3, .arr 55 5 1 [.p (encMerged m_4560)])]⟩) o_4570) ?_ ?_
  · replace h := hA_4571
    clear hA_4571
    refine awp_region ?_
    obtain ⟨r_4572, hr_4573, h⟩ := Option.bind_eq_some_iff.1 h
    refine AL_con' rfl (guard_none rfl) rfl (by simp only [go_sem, seval]; exact rfl) (by simp only [go_sem, seval]; all_goals ((repeat' refine And.intro ?_ ?_) <;> first | rfl | (simp; done) | (simp; rfl) | (simp [*]; done) | (simp [*]; rfl))) (drosslaw55_awake_con  _ hr_4573) (.inr rfl) rfl ?_
    refine AL_upto (by exact rfl) (by simp only [go_sem, seval]; exact rfl) ?_
    by_cases hb_4574 : r_4572 = true
    · rw [if_pos hb_4574] at h
      refine AL_known (d := 11) (v := .p (.bool false)) (by simp only [go_sem, seval, hb_4574]) ?_
      refine AL_gt' (guard_true' rfl rfl (by exact rfl) (by exact rfl)) rfl (by simp only [go_sem, seval, hb_4574]; exact rfl) ?_
      obtain ⟨r_4575, hr_4576, h⟩ := Option.bind_eq_some_iff.1 h
      refine AL_con' rfl (guard_true' rfl rfl (by exact rfl) (by exact rfl)) rfl (by simp only [go_sem, seval, hb_4574]; exact rfl) (by simp only [go_sem, seval, hb_4574]; all_goals ((repeat' refine And.intro ?_ ?_) <;> first | rfl | (simp; done) | (simp; rfl) | (simp [*]; done) | (simp [*]; rfl))) (drosslaw55_few_con t_4559 _ hr_4576) (.inr rfl) rfl ?_
      refine AL_gt' (guard_true' rfl rfl (by exact rfl) (by exact rfl)) rfl (by simp only [go_sem, seval, hb_4574]; exact rfl) ?_
      refine AL_upto (by exact rfl) (by simp only [go_sem, seval, hb_4574]; exact rfl) ?_
      by_cases hb_4577 : r_4575 = true
      · rw [if_pos hb_4577] at h
        refine AL_known (d := 16) (v := .p (.bool false)) (by simp only [go_sem, seval, hb_4574, hb_4577]) ?_
        refine AL_gt' (guard_true' rfl rfl (by exact rfl) (by exact rfl)) rfl (by simp only [go_sem, seval, hb_4574, hb_4577]; exact rfl) ?_
        obtain ⟨r_4578, hr_4579, h⟩ := Option.bind_eq_some_iff.1 h
        refine AL_con' rfl (guard_true' rfl rfl (by exact rfl) (by exact rfl)) rfl (by simp only [go_sem, seval, hb_4574, hb_4577]; exact rfl) (by simp only [go_sem, seval, hb_4574, hb_4577]; all_goals ((repeat' refine And.intro ?_ ?_) <;> first | rfl | (simp; done) | (simp; rfl) | (simp [*]; done) | (simp [*]; rfl))) (drosslaw55_brief_con m_4560 _ hr_4579) (.inr rfl) rfl ?_
        refine AL_gt' (guard_true' rfl rfl (by exact rfl) (by exact rfl)) rfl (by simp only [go_sem, seval, hb_4574, hb_4577]; exact rfl) ?_
        refine AL_upto (by exact rfl) (by simp only [go_sem, seval, hb_4574, hb_4577]; exact rfl) ?_
        refine AL_nil ?_
        cases h
        refine ⟨rfl, ?_⟩
        simp only [go_sem, seval, hb_4574, hb_4577]
        all_goals ((repeat' refine And.intro ?_ ?_) <;> first | rfl | (simp; done) | (simp; rfl) | (simp [*]; done) | (simp [*]; rfl))
      · rw [if_neg hb_4577] at h
        have hb_4577F := Bool.eq_false_iff.2 hb_4577
        refine AL_known (d := 16) (v := .p (.bool true)) (by simp only [go_sem, seval, hb_4574, hb_4577F]) ?_
        refine AL_skips (by exact rfl) ?_
        refine AL_upto (by exact rfl) (by simp only [go_sem, seval, hb_4574, hb_4577F]; exact rfl) ?_
        refine AL_nil ?_
        cases h
        refine ⟨rfl, ?_⟩
        simp only [go_sem, seval, hb_4574, hb_4577F]
        all_goals ((repeat' refine And.intro ?_ ?_) <;> first | rfl | (simp; done) | (simp; rfl) | (simp [*]; done) | (simp [*]; rfl))
    · rw [if_neg hb_4574] at h
      have hb_4574F := Bool.eq_false_iff.2 hb_4574
      refine AL_known (d := 11) (v := .p (.bool true)) (by simp only [go_sem, seval, hb_4574F]) ?_
      refine AL_skips (by exact rfl) ?_
      refine AL_upto (by exact rfl) (by simp only [go_sem, seval, hb_4574F]; exact rfl) ?_
      refine AL_skips (by exact rfl) ?_
      refine AL_upto (by exact rfl) (by simp only [go_sem, seval, hb_4574F]; exact rfl) ?_
      refine AL_nil ?_
      cases h
      refine ⟨rfl, ?_⟩
      simp only [go_sem, seval, hb_4574F]
      all_goals ((repeat' refine And.intro ?_ ?_) <;> first | rfl | (simp; done) | (simp; rfl) | (simp [*]; done) | (simp [*]; rfl))
  · intro e s' hT
    obtain ⟨t20_4569, rfl⟩ : ∃ z, z = o_4570 := ⟨_, rfl⟩
    try simp only at h
    try simp only at hT
    obtain ⟨rfl, hle⟩ := hT
    refine Wk.to hle ?_
    clear hle
    refine thenA_n ?_
    by_cases hb_4580 : t20_4569 = true
    · rw [if_pos hb_4580] at h
      refine awp_ct (by simp only [go_sem, seval, hb_4580]) ?_
      refine awp_seq ?_
      refine awp_region ?_
      obtain ⟨r_4581, hr_4582, h⟩ := Option.bind_eq_some_iff.1 h
      refine AL_con' rfl (guard_none rfl) rfl (by simp only [go_sem, seval, hb_4580]; exact rfl) (by simp only [go_sem, seval, hb_4580]; all_goals ((repeat' refine And.intro ?_ ?_) <;> first | rfl | (simp; done) | (simp; rfl) | (simp [*]; done) | (simp [*]; rfl))) (drosslaw55_awake_con  _ hr_4582) (.inr rfl) rfl ?_
      refine AL_upto (by exact rfl) (by simp only [go_sem, seval, hb_4580]; exact rfl) ?_
      refine AL_nil ?_
      refine thenA_n ?_
      refine awp_ret ?_
      refine thenA_ret ?_
      cases h
      refine retQ_ret (by simp only [Try.results6]; simp only [go_sem, seval, hb_4580]; exact rfl) ?_
      simp only [go_sem, seval, hb_4580]
      all_goals ((repeat' refine And.intro ?_ ?_) <;> first | rfl | (simp; done) | (simp; rfl) | (simp [*]; done) | (simp [*]; rfl))
    · rw [if_neg hb_4580] at h
      have hb_4580F := Bool.eq_false_iff.2 hb_4580
      refine awp_cf (by simp only [go_sem, seval, hb_4580F]) ?_
      refine awp_skip ?_
      refine thenA_n ?_
      refine awp_seq ?_
      refine awp_region ?_
      refine AL_upto (by exact rfl) (by simp only [go_sem, seval, hb_4580F]; exact rfl) ?_
      obtain ⟨r_4585, hr_4586, h⟩ := Option.bind_eq_some_iff.1 h
      refine AL_con' rfl (guard_none rfl) rfl (by simp only [go_sem, seval, hb_4580F]; exact rfl) (by simp only [go_sem, seval, hb_4580F]; all_goals ((repeat' refine And.intro ?_ ?_) <;> first | rfl | (simp; done) | (simp; rfl) | (simp [*]; done) | (simp [*]; rfl))) (survivor_Lost_con t_4559 m_4560 _ hr_4586) (by first | exact .inl rfl | exact .inl (by simp only [go_sem])) rfl ?_
      refine AL_upto (by exact rfl) (by simp only [go_sem, seval, hb_4580F]; exact rfl) ?_
      refine AL_nil ?_
      refine thenA_n ?_
      refine awp_seq ?_
      refine awp_region ?_
      refine AL_upto (by exact rfl) (by simp only [go_sem, seval, hb_4580F]; exact rfl) ?_
      obtain ⟨r_4589, hr_4590, h⟩ := Option.bind_eq_some_iff.1 h
      refine AL_con' rfl (guard_none rfl) rfl (by simp only [go_sem, seval, hb_4580F]; exact rfl) (by simp only [go_sem, seval, hb_4580F]; all_goals ((repeat' refine And.intro ?_ ?_) <;> first | rfl | (simp; done) | (simp; rfl) | (simp [*]; done) | (simp [*]; rfl))) (drossref55_Lost_con t_4559 m_4560 _ hr_4590) (by first | exact .inl rfl | exact .inl (by simp only [go_sem])) rfl ?_
      refine AL_upto (by exact rfl) (by simp only [go_sem, seval, hb_4580F]; exact rfl) ?_
      refine AL_nil ?_
      refine thenA_n ?_
      refine awp_seq ?_
      refine awp_region ?_
      refine AL_upto (by exact rfl) (by simp only [go_sem, seval, hb_4580F]; exact rfl) ?_
      by_cases hb_4591 : (r_4585.2 == r_4589.2) = true
      · rw [if_pos hb_4591] at h
        refine AL_known (d := 37) (v := .p (.bool true)) (by simp only [go_sem, seval, hb_4580F, hb_4591]) ?_
        refine AL_gt' (guard_true' rfl rfl (by exact rfl) (by exact rfl)) rfl (by simp only [go_sem, seval, hb_4580F, hb_4591]; exact rfl) ?_
        refine AL_gt' (guard_true' rfl rfl (by exact rfl) (by exact rfl)) rfl (by simp only [go_sem, seval, hb_4580F, hb_4591]; exact rfl) ?_
        obtain ⟨r_4592, hr_4593, h⟩ := Option.bind_eq_some_iff.1 h
        refine AL_con' rfl (guard_true' rfl rfl (by exact rfl) (by exact rfl)) rfl (by simp only [go_sem, seval, hb_4580F, hb_4591]; exact rfl) (by simp only [go_sem, seval, hb_4580F, hb_4591]; all_goals ((repeat' refine And.intro ?_ ?_) <;> first | rfl | (simp; done) | (simp; rfl) | (simp [*]; done) | (simp [*]; rfl))) (drossref55_Cells_con r_4585.1 r_4589.1 _ hr_4593) (.inr rfl) rfl ?_
        refine AL_upto (by exact rfl) (by simp only [go_sem, seval, hb_4580F, hb_4591]; exact rfl) ?_
        refine AL_nil ?_
        refine thenA_n ?_
        refine awp_ret ?_
        cases h
        refine retQ_ret (by simp only [Try.results6]; simp only [go_sem, seval, hb_4580F, hb_4591]; exact rfl) ?_
        simp only [go_sem, seval, hb_4580F, hb_4591]
        all_goals ((repeat' refine And.intro ?_ ?_) <;> first | rfl | (simp; done) | (simp; rfl) | (simp [*]; done) | (simp [*]; rfl))
      · rw [if_neg hb_4591] at h
        have hb_4591F := Bool.eq_false_iff.2 hb_4591
        refine AL_known (d := 37) (v := .p (.bool false)) (by simp only [go_sem, seval, hb_4580F, hb_4591F]) ?_
        refine AL_skips (by exact rfl) ?_
        refine AL_upto (by exact rfl) (by simp only [go_sem, seval, hb_4580F, hb_4591F]; exact rfl) ?_
        refine AL_nil ?_
        refine thenA_n ?_
        refine awp_ret ?_
        cases h
        refine retQ_ret (by simp only [Try.results6]; simp only [go_sem, seval, hb_4580F, hb_4591F]; exact rfl) ?_
        simp only [go_sem, seval, hb_4580F, hb_4591F]
        all_goals ((repeat' refine And.intro ?_ ?_) <;> first | rfl | (simp; done) | (simp; rfl) | (simp [*]; done) | (simp [*]; rfl))
end Go.Proofs.Ytdmddoljldjjeaa
