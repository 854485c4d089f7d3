/- Each function of the program computes what its Lean function says, where that has a value. -/
import Derived.Test.YtdmddoljldjjeaaGreatW1
set_option linter.unusedVariables false
set_option linter.unusedSimpArgs false
namespace Go.Proofs.YtdmddoljldjjeaaGreat
open Go Go.Ab
set_option maxHeartbeats 4000000 in
theorem survivor_Table_1_con (r_847 : Int) (r_850 : Bool) (h : survivor_Table_1 r_847 = some r_850) : Con Tryz.prog 32 [(.int .i64 r_847)] (.bool r_850) := by
  refine ⟨Tryz.call32, ?_⟩
  refine pure_of_awp Tryz.func32 rfl Tryz.ntmps32 (by simp) fun X w => ?_
  show AWp _ _ _ ⟨[(0, .p (.int .i64 r_847))], []⟩
  simp only [survivor_Table_1] at h
  refine awp_seq ?_
  refine awp_region ?_
  refine AL_upto (by exact rfl) (by simp only [go_sem, seval]; exact rfl) ?_
  refine AL_nil ?_
  refine thenA_n ?_
  refine awp_seq ?_
  refine awp_region ?_
  refine AL_upto (by exact rfl) (by simp only [go_sem, seval]; exact rfl) ?_
  obtain ⟨r_848, hr_849, h⟩ := Option.bind_eq_some_iff.1 h
  refine AL_con' rfl (guard_none rfl) rfl (by simp only [go_sem, seval]; exact rfl) (by simp only [go_sem, seval]; all_goals ((repeat' refine And.intro ?_ ?_) <;> first | rfl | (simp; done) | (simp; rfl) | (simp [*]; done) | (simp [*]; rfl))) (survivor_validRule_con r_847 _ hr_849) (.inr rfl) rfl ?_
  refine AL_upto (by exact rfl) (by simp only [go_sem, seval]; exact rfl) ?_
  refine AL_nil ?_
  refine thenA_n ?_
  refine awp_ret ?_
  cases h
  refine retQ_ret (by simp only [Tryz.results32]; simp only [go_sem, seval]; exact rfl) ?_
  simp only [go_sem, seval]
  all_goals ((repeat' refine And.intro ?_ ?_) <;> first | rfl | (simp; done) | (simp; rfl) | (simp [*]; done) | (simp [*]; rfl))
end Go.Proofs.YtdmddoljldjjeaaGreat
set_option linter.unusedVariables false
set_option linter.unusedSimpArgs false
namespace Go.Proofs.YtdmddoljldjjeaaGreat
open Go Go.Ab
set_option maxHeartbeats 4000000 in
theorem survivor_ascending_con (l_851 : List Int) (r_876 : Bool) (h : survivor_ascending l_851 = some r_876) : Con Tryz.prog 108 [(.slc (List.map (PV.int .i64) l_851))] (.bool r_876) := by
  refine ⟨Tryz.call108, ?_⟩
  refine pure_of_awp Tryz.func108 rfl Tryz.ntmps108 (by simp) fun X w => ?_
  show AWp _ _ _ ⟨[(0, .p (.slc (List.map (PV.int .i64) l_851)))], []⟩
  simp only [survivor_ascending] at h
  refine awp_seq ?_
  refine awp_region ?_
  refine AL_upto (by exact rfl) (by simp only [go_sem, seval]; exact rfl) ?_
  refine AL_nil ?_
  refine thenA_n ?_
  refine awp_seq ?_
  refine awp_seq ?_
  refine awp_region ?_
  refine AL_upto (by exact rfl) (by simp only [go_sem, seval]; exact rfl) ?_
  refine AL_nil ?_
  refine thenA_n ?_
  refine awp_block ?_
  obtain ⟨o_871, hL_872, h⟩ := Option.bind_eq_some_iff.1 h
  refine awp_loop_L (fun (s : Int) => ⟨[(0, .p (.slc (List.map (PV.int .i64) l_851))), (3, .p (.int .i64 s))], []⟩) (fun (o : (Unit) ⊕ (Bool)) (e : Exit) (s' : St) => match o with | .inl o_874 => e = (.exit 0) ∧ Le ⟨Tryz.prog, Tryz.f108.ntmps, 0, X, [], fun _ => none, w⟩ s' ⟨[(0, .p (.slc (List.map (PV.int .i64) l_851)))], []⟩ | .inr o_875 => e = .ret ∧ retQ Tryz.prog Tryz.f108 (.bool o_875) .ret s') (by intro o s hT; rcases o with _ | _ <;> (have hh := hT.1; cases hh)) hL_872 (by simp only [go_sem, seval]; all_goals ((repeat' refine And.intro ?_ ?_) <;> first | rfl | (simp; done) | (simp; rfl) | (simp [*]; done) | (simp [*]; rfl))) ?_ ?_
  · clear h
    intro i_858 x h
    simp only [survivor_ascending_l1] at h
    show AWp _ _ _ ⟨[(0, .p (.slc (List.map (PV.int .i64) l_851))), (3, .p (.int .i64 i_858))], []⟩
    refine awp_seq ?_
    refine awp_seq ?_
    refine awp_region ?_
    refine AL_upto (by exact rfl) (by simp only [go_sem, seval]; exact rfl) ?_
    refine AL_nil ?_
    refine thenA_n ?_
    by_cases hb_865 : i_858 < (l_851.length : Int)
    · rw [if_pos hb_865] at h
      have hb_865T := eq_true hb_865
      refine awp_ct (by simp only [go_sem, seval, hb_865T]) ?_
      refine awp_skip ?_
      refine thenA_n ?_
      refine awp_seq ?_
      refine awp_block ?_
      refine awp_seq ?_
      refine awp_drawn_walk mixed (by decide) ?_
      obtain ⟨x_866, hx_867, h⟩ := Option.bind_eq_some_iff.1 h
      obtain ⟨hx_867a, hx_867, hx_867b⟩ := idx_some hx_867
      have hx_867A := eq_true hx_867a
      have hx_867B := eq_true hx_867b
      obtain ⟨x_868, hx_869, h⟩ := Option.bind_eq_some_iff.1 h
      obtain ⟨hx_869a, hx_869, hx_869b⟩ := idx_some hx_869
      have hx_869A := eq_true hx_869a
      have hx_869B := eq_true hx_869b
      refine DGo.upto (by exact rfl) (by simp only [go_sem, seval, hb_865T, hx_867, hx_867A, hx_867B, hx_869, hx_869A, hx_869B]; first | exact ⟨rfl, rfl⟩ | exact rfl) ?_
      refine DGo.fin rfl ?_
      refine thenA_n ?_
      by_cases hb_870 : x_866 ≤ x_868
      · rw [if_pos hb_870] at h
        have hb_870T := eq_true hb_870
        refine awp_ct (by simp only [go_sem, seval, hb_865T, hb_870T]) ?_
        refine awp_seq ?_
        refine awp_region ?_
        refine AL_upto (by exact rfl) (by simp only [go_sem, seval, hb_865T, hb_870T]; exact rfl) ?_
        refine AL_nil ?_
        refine thenA_n ?_
        refine awp_ret ?_
        refine blockA_ret ?_
        refine thenA_ret ?_
        cases h
        refine ⟨rfl, ?_⟩
        refine retQ_ret (by simp only [Tryz.results108]; simp only [go_sem, seval, hb_865T, hb_870T]; exact rfl) ?_
        simp only [go_sem, seval, hb_865T, hb_870T]
        all_goals ((repeat' refine And.intro ?_ ?_) <;> first | rfl | (simp; done) | (simp; rfl) | (simp [*]; done) | (simp [*]; rfl))
      · rw [if_neg hb_870] at h
        have hb_870T := eq_false hb_870
        refine awp_cf (by simp only [go_sem, seval, hb_865T, hb_870T]) ?_
        refine awp_skip ?_
        refine blockA_n ?_
        refine thenA_n ?_
        refine awp_region ?_
        refine AL_upto (by exact rfl) (by simp only [go_sem, seval, hb_865T, hb_870T]; exact rfl) ?_
        refine AL_nil ?_
        cases h
        refine ⟨rfl, ?_⟩
        simp only [go_sem, seval, hb_865T, hb_870T]
        all_goals ((repeat' refine And.intro ?_ ?_) <;> first | rfl | (simp; done) | (simp; rfl) | (simp [*]; done) | (simp [*]; rfl))
    · rw [if_neg hb_865] at h
      have hb_865T := eq_false hb_865
      refine awp_cf (by simp only [go_sem, seval, hb_865T]) ?_
      refine awp_exit ?_
      refine thenA_exit ?_
      cases h
      refine ⟨rfl, ?_⟩
      simp only [go_sem, seval, hb_865T]
      all_goals ((repeat' refine And.intro ?_ ?_) <;> first | rfl | (simp; done) | (simp; rfl) | (simp [*]; done) | (simp [*]; rfl))
  · intro e s' hT
    rcases o_871 with ⟨⟩ | r_873
    · try simp only at h
      try simp only at hT
      obtain ⟨rfl, hle⟩ := hT
      refine Wk.to hle ?_
      clear hle
      refine blockA_here ?_
      refine thenA_n ?_
      refine awp_seq ?_
      refine awp_region ?_
      refine AL_upto (by exact rfl) (by simp only [go_sem, seval]; exact rfl) ?_
      refine AL_nil ?_
      refine thenA_n ?_
      refine awp_ret ?_
      cases h
      refine retQ_ret (by simp only [Tryz.results108]; simp only [go_sem, seval]; exact rfl) ?_
      simp only [go_sem, seval]
      all_goals ((repeat' refine And.intro ?_ ?_) <;> first | rfl | (simp; done) | (simp; rfl) | (simp [*]; done) | (simp [*]; rfl))
    · try simp only at h
      try simp only at hT
      obtain ⟨rfl, hq⟩ := hT
      refine Wk.now ?_
      refine blockA_ret ?_
      refine thenA_ret ?_
      cases h
      exact hq
end Go.Proofs.YtdmddoljldjjeaaGreat
set_option linter.unusedVariables false
set_option linter.unusedSimpArgs false
namespace Go.Proofs.YtdmddoljldjjeaaGreat
open Go Go.Ab
set_option maxHeartbeats 4000000 in
theorem survivor_disjoint_con (clusters_877 : List (List Int)) (r_1000 : (List (Int × Bool)) × Bool) (h : survivor_disjoint clusters_877 = some r_1000) : Con Tryz.prog 71 [(.slc (List.map (encL (PV.int .i64)) clusters_877))] (.tup [(.mapv (encK (PV.int .i64) r_1000.1) (encW PV.bool r_1000.1)), (.bool r_1000.2)]) := by
  refine ⟨Tryz.call71, ?_⟩
  refine pure_of_awp Tryz.func71 rfl Tryz.ntmps71 (by simp) fun X w => ?_
  show AWp _ _ _ ⟨[(0, .p (.slc (List.map (encL (PV.int .i64)) clusters_877)))], []⟩
  simp only [survivor_disjoint] at h
  refine awp_seq ?_
  refine awp_region ?_
  refine AL_upto (by exact rfl) (by simp only [go_sem, seval]; exact rfl) ?_
  refine AL_nil ?_
  refine thenA_n ?_
  refine awp_seq ?_
  refine awp_region ?_
  refine AL_upto (by exact rfl) (by simp only [go_sem, seval]; exact rfl) ?_
  refine AL_nil ?_
  refine thenA_n ?_
  refine awp_seq ?_
  refine awp_seq ?_
  refine awp_region ?_
  refine AL_upto (by exact rfl) (by simp only [go_sem, seval]; exact rfl) ?_
  refine AL_nil ?_
  refine thenA_n ?_
  refine awp_block ?_
  obtain ⟨o_995, hL_996, h⟩ := Option.bind_eq_some_iff.1 h
  refine awp_loop_L (fun (s : (List (Int × Bool)) × Int) => ⟨[(4, .mapo 9 1), (10, .p (.slc (List.map (encL (PV.int .i64)) clusters_877))), (11, .p (.int .i64 (clusters_877.length : Int))), (12, .p (.int .i64 s.2))], [(9, .map 1 (List.map AV.p (encK (PV.int .i64) s.1)) (List.map AV.p (encW PV.bool s.1)))]⟩) (fun (o : ((List (Int × Bool))) ⊕ ((List (Int × Bool)) × Bool)) (e : Exit) (s' : St) => match o with | .inl o_998 => e = (.exit 0) ∧ Le ⟨Tryz.prog, Tryz.f71.ntmps, 0, X, [], fun _ => none, w⟩ s' ⟨[(4, .mapo 9 1)], [(9, .map 1 (List.map AV.p (encK (PV.int .i64) o_998)) (List.map AV.p (encW PV.bool o_998)))]⟩ | .inr o_999 => e = .ret ∧ retQ Tryz.prog Tryz.f71 (.tup [(.mapv (encK (PV.int .i64) o_999.1) (encW PV.bool o_999.1)), (.bool o_999.2)]) .ret s') (by intro o s hT; rcases o with _ | _ <;> (have hh := hT.1; cases hh)) hL_996 (by simp only [go_sem, seval]; all_goals ((repeat' refine And.intro ?_ ?_) <;> first | rfl | (simp; done) | (simp; rfl) | (simp [*]; done) | (simp [*]; rfl))) ?_ ?_
  · clear h
    intro s x h
    obtain ⟨seen_916, t12_917⟩ := s
    simp only [survivor_disjoint_l4] at h
    show AWp _ _ _ ⟨[(4, .mapo 9 1), (10, .p (.slc (List.map (encL (PV.int .i64)) clusters_877))), (11, .p (.int .i64 (clusters_877.length : Int))), (12, .p (.int .i64 t12_917))], [(9, .map 1 (List.map AV.p (encK (PV.int .i64) seen_916)) (List.map AV.p (encW PV.bool seen_916)))]⟩
    refine awp_seq ?_
    refine awp_region ?_
    refine AL_upto (by exact rfl) (by simp only [go_sem, seval]; exact rfl) ?_
    refine AL_nil ?_
    refine thenA_n ?_
    refine awp_seq ?_
    by_cases hb_958 : t12_917 < (clusters_877.length : Int)
    · rw [if_pos hb_958] at h
      have hb_958T := eq_true hb_958
      refine awp_ct (by simp only [go_sem, seval, hb_958T]) ?_
      refine awp_skip ?_
      refine thenA_n ?_
      refine awp_seq ?_
      refine awp_block ?_
      refine awp_seq ?_
      refine awp_region ?_
      obtain ⟨x_961, hx_962, h⟩ := Option.bind_eq_some_iff.1 h
      obtain ⟨hx_962a, hx_962, hx_962b⟩ := idx_some hx_962
      have hx_962A := eq_true hx_962a
      have hx_962B := eq_true hx_962b
      refine AL_upto (by exact rfl) (by simp only [go_sem, seval, hb_958T, hx_962, hx_962A, hx_962B]; exact rfl) ?_
      refine AL_nil ?_
      refine thenA_n ?_
      refine awp_seq ?_
      refine awp_seq ?_
      refine awp_region ?_
      refine AL_upto (by exact rfl) (by simp only [go_sem, seval, hb_958T]; exact rfl) ?_
      obtain ⟨r_963, hr_964, h⟩ := Option.bind_eq_some_iff.1 h
      refine AL_con' rfl (guard_none rfl) rfl (by simp only [go_sem, seval, hb_958T]; exact rfl) (by simp only [go_sem, seval, hb_958T]; all_goals ((repeat' refine And.intro ?_ ?_) <;> first | rfl | (simp; done) | (simp; rfl) | (simp [*]; done) | (simp [*]; rfl))) (survivor_ascending_con x_961 _ hr_964) (.inr rfl) rfl ?_
      refine AL_upto (by exact rfl) (by simp only [go_sem, seval, hb_958T]; exact rfl) ?_
      refine AL_nil ?_
      refine thenA_n ?_
      by_cases hb_965 : r_963 = true
      · rw [if_pos hb_965] at h
        refine awp_cf (by simp only [go_sem, seval, hb_958T, hb_965]) ?_
        refine awp_skip ?_
        refine thenA_n ?_
        refine awp_seq ?_
        refine awp_region ?_
        refine AL_upto (by exact rfl) (by simp only [go_sem, seval, hb_958T, hb_965]; exact rfl) ?_
        refine AL_nil ?_
        refine thenA_n ?_
        refine awp_block ?_
        obtain ⟨o_990, hL_991, h⟩ := Option.bind_eq_some_iff.1 h
        refine awp_loop_L (fun (s : (List (Int × Bool)) × Int) => ⟨[(4, .mapo 9 1), (10, .p (.slc (List.map (encL (PV.int .i64)) clusters_877))), (11, .p (.int .i64 (clusters_877.length : Int))), (12, .p (.int .i64 t12_917)), (19, .p (.slc (List.map (PV.int .i64) x_961))), (20, .p (.int .i64 (x_961.length : Int))), (21, .p (.int .i64 s.2))], [(9, .map 1 (List.map AV.p (encK (PV.int .i64) s.1)) (List.map AV.p (encW PV.bool s.1)))]⟩) (fun (o : ((List (Int × Bool))) ⊕ ((List (Int × Bool)) × Bool)) (e : Exit) (s' : St) => match o with | .inl o_993 => e = (.exit 2) ∧ Le ⟨Tryz.prog, Tryz.f71.ntmps, 0, X, [], fun _ => none, w⟩ s' ⟨[(4, .mapo 9 1), (10, .p (.slc (List.map (encL (PV.int .i64)) clusters_877))), (11, .p (.int .i64 (clusters_877.length : Int))), (12, .p (.int .i64 t12_917))], [(9, .map 1 (List.map AV.p (encK (PV.int .i64) o_993)) (List.map AV.p (encW PV.bool o_993)))]⟩ | .inr o_994 => e = .ret ∧ retQ Tryz.prog Tryz.f71 (.tup [(.mapv (encK (PV.int .i64) o_994.1) (encW PV.bool o_994.1)), (.bool o_994.2)]) .ret s') (by intro o s hT; rcases o with _ | _ <;> (have hh := hT.1; cases hh)) hL_991 (by simp only [go_sem, seval, hb_958T, hb_965]; all_goals ((repeat' refine And.intro ?_ ?_) <;> first | rfl | (simp; done) | (simp; rfl) | (simp [*]; done) | (simp [*]; rfl))) ?_ ?_
        · clear h
          intro s x h
          obtain ⟨seen_973, t21_974⟩ := s
          simp only [survivor_disjoint_l3] at h
          show AWp _ _ _ ⟨[(4, .mapo 9 1), (10, .p (.slc (List.map (encL (PV.int .i64)) clusters_877))), (11, .p (.int .i64 (clusters_877.length : Int))), (12, .p (.int .i64 t12_917)), (19, .p (.slc (List.map (PV.int .i64) x_961))), (20, .p (.int .i64 (x_961.length : Int))), (21, .p (.int .i64 t21_974))], [(9, .map 1 (List.map AV.p (encK (PV.int .i64) seen_973)) (List.map AV.p (encW PV.bool seen_973)))]⟩
          refine awp_seq ?_
          refine awp_region ?_
          refine AL_upto (by exact rfl) (by simp only [go_sem, seval]; exact rfl) ?_
          refine AL_nil ?_
          refine thenA_n ?_
          refine awp_seq ?_
          by_cases hb_984 : t21_974 < (x_961.length : Int)
          · rw [if_pos hb_984] at h
            have hb_984T := eq_true hb_984
            refine awp_ct (by simp only [go_sem, seval, hb_984T]) ?_
            refine awp_skip ?_
            refine thenA_n ?_
            refine awp_seq ?_
            refine awp_block ?_
            refine awp_seq ?_
            refine awp_region ?_
            obtain ⟨x_987, hx_988, h⟩ := Option.bind_eq_some_iff.1 h
            obtain ⟨hx_988a, hx_988, hx_988b⟩ := idx_some hx_988
            have hx_988A := eq_true hx_988a
            have hx_988B := eq_true hx_988b
            refine AL_upto (by exact rfl) (by simp only [go_sem, seval, hb_984T, hx_988, hx_988A, hx_988B]; exact rfl) ?_
            refine AL_nil ?_
            refine thenA_n ?_
            refine awp_seq ?_
            refine awp_seq ?_
            refine awp_region ?_
            refine AL_upto (by exact rfl) (by simp only [go_sem, seval, hb_984T]; exact rfl) ?_
            refine AL_nil ?_
            refine thenA_n ?_
            by_cases hb_989 : ((mget seen_973 x_987).getD false) = true
            · rw [if_pos hb_989] at h
              refine awp_ct (by simp only [go_sem, seval, hb_984T, hb_989]) ?_
              refine awp_seq ?_
              refine awp_region ?_
              refine AL_upto (by exact rfl) (by simp only [go_sem, seval, hb_984T, hb_989]; exact rfl) ?_
              refine AL_nil ?_
              refine thenA_n ?_
              refine awp_ret ?_
              refine thenA_ret ?_
              refine blockA_ret ?_
              refine thenA_ret ?_
              cases h
              refine ⟨rfl, ?_⟩
              refine retQ_ret (by simp only [Tryz.results71]; simp only [go_sem, seval, hb_984T, hb_989]; exact rfl) ?_
              simp only [go_sem, seval, hb_984T, hb_989]
              all_goals ((repeat' refine And.intro ?_ ?_) <;> first | rfl | (simp; done) | (simp; rfl) | (simp [*]; done) | (simp [*]; rfl))
            · rw [if_neg hb_989] at h
              have hb_989F := Bool.eq_false_iff.2 hb_989
              refine awp_cf (by simp only [go_sem, seval, hb_984T, hb_989F]) ?_
              refine awp_skip ?_
              refine thenA_n ?_
              refine awp_region ?_
              refine AL_upto (by exact rfl) (by simp only [go_sem, seval, hb_984T, hb_989F]; exact rfl) ?_
              refine AL_nil ?_
              refine blockA_n ?_
              refine thenA_n ?_
              refine awp_region ?_
              refine AL_upto (by exact rfl) (by simp only [go_sem, seval, hb_984T, hb_989F]; exact rfl) ?_
              refine AL_nil ?_
              cases h
              refine ⟨rfl, ?_⟩
              simp only [go_sem, seval, hb_984T, hb_989F]
              all_goals ((repeat' refine And.intro ?_ ?_) <;> first | rfl | (simp; done) | (simp; rfl) | (simp [*]; done) | (simp [*]; rfl))
          · rw [if_neg hb_984] at h
            have hb_984T := eq_false hb_984
            refine awp_cf (by simp only [go_sem, seval, hb_984T]) ?_
            refine awp_exit ?_
            refine thenA_exit ?_
            cases h
            refine ⟨rfl, ?_⟩
            simp only [go_sem, seval, hb_984T]
            all_goals ((repeat' refine And.intro ?_ ?_) <;> first | rfl | (simp; done) | (simp; rfl) | (simp [*]; done) | (simp [*]; rfl))
        · intro e s' hT
          rcases o_990 with seen_982 | r_992
          · try simp only at h
            try simp only at hT
            obtain ⟨rfl, hle⟩ := hT
            refine Wk.to hle ?_
            clear hle
            refine blockA_here ?_
            refine blockA_n ?_
            refine thenA_n ?_
            refine awp_region ?_
            refine AL_upto (by exact rfl) (by simp only [go_sem, seval, hb_958T, hb_965]; exact rfl) ?_
            refine AL_nil ?_
            cases h
            refine ⟨rfl, ?_⟩
            simp only [go_sem, seval, hb_958T, hb_965]
            all_goals ((repeat' refine And.intro ?_ ?_) <;> first | rfl | (simp; done) | (simp; rfl) | (simp [*]; done) | (simp [*]; rfl))
          · try simp only at h
            try simp only at hT
            obtain ⟨rfl, hq⟩ := hT
            refine Wk.now ?_
            refine blockA_ret ?_
            refine blockA_ret ?_
            refine thenA_ret ?_
            cases h
            refine ⟨rfl, ?_⟩
            exact hq
      · rw [if_neg hb_965] at h
        have hb_965F := Bool.eq_false_iff.2 hb_965
        refine awp_ct (by simp only [go_sem, seval, hb_958T, hb_965F]) ?_
        refine awp_seq ?_
        refine awp_region ?_
        refine AL_upto (by exact rfl) (by simp only [go_sem, seval, hb_958T, hb_965F]; exact rfl) ?_
        refine AL_nil ?_
        refine thenA_n ?_
        refine awp_ret ?_
        refine thenA_ret ?_
        refine blockA_ret ?_
        refine thenA_ret ?_
        cases h
        refine ⟨rfl, ?_⟩
        refine retQ_ret (by simp only [Tryz.results71]; simp only [go_sem, seval, hb_958T, hb_965F]; exact rfl) ?_
        simp only [go_sem, seval, hb_958T, hb_965F]
        all_goals ((repeat' refine And.intro ?_ ?_) <;> first | rfl | (simp; done) | (simp; rfl) | (simp [*]; done) | (simp [*]; rfl))
    · rw [if_neg hb_958] at h
      have hb_958T := eq_false hb_958
      refine awp_cf (by simp only [go_sem, seval, hb_958T]) ?_
      refine awp_exit ?_
      refine thenA_exit ?_
      cases h
      refine ⟨rfl, ?_⟩
      simp only [go_sem, seval, hb_958T]
      all_goals ((repeat' refine And.intro ?_ ?_) <;> first | rfl | (simp; done) | (simp; rfl) | (simp [*]; done) | (simp [*]; rfl))
  · intro e s' hT
    rcases o_995 with seen_956 | r_997
    · try simp only at h
      try simp only at hT
      obtain ⟨rfl, hle⟩ := hT
      refine Wk.to hle ?_
      clear hle
      refine blockA_here ?_
      refine thenA_n ?_
      refine awp_seq ?_
      refine awp_region ?_
      refine AL_upto (by exact rfl) (by simp only [go_sem, seval]; exact rfl) ?_
      refine AL_nil ?_
      refine thenA_n ?_
      refine awp_ret ?_
      cases h
      refine retQ_ret (by simp only [Tryz.results71]; simp only [go_sem, seval]; exact rfl) ?_
      simp only [go_sem, seval]
      all_goals ((repeat' refine And.intro ?_ ?_) <;> first | rfl | (simp; done) | (simp; rfl) | (simp [*]; done) | (simp [*]; rfl))
    · try simp only at h
      try simp only at hT
      obtain ⟨rfl, hq⟩ := hT
      refine Wk.now ?_
      refine blockA_ret ?_
      refine thenA_ret ?_
      cases h
      exact hq
end Go.Proofs.YtdmddoljldjjeaaGreat
set_option linter.unusedVariables false
set_option linter.unusedSimpArgs false
namespace Go.Proofs.YtdmddoljldjjeaaGreat
open Go Go.Ab
set_option maxHeartbeats 4000000 in
theorem slices_ContainsFunc_Row_con (s_1001 : List Row) (f_1002 : Row → Option (Bool)) (f_1002_k : FuncId) (f_1002_cs : List PV) (f_1002_h : ∀ (y_1003 : Row) (r_1004 : Bool), f_1002 y_1003 = some r_1004 → Con Tryz.prog f_1002_k ((encRow y_1003) :: f_1002_cs) (.bool r_1004)) (r_1007 : Bool) (h : slices_ContainsFunc_Row s_1001 f_1002 = some r_1007) : Con Tryz.prog 72 [(.slc (List.map encRow s_1001)), .func (.func f_1002_k) f_1002_cs] (.bool r_1007) := by
  refine ⟨Tryz.call72, ?_⟩
  refine pure_of_awp Tryz.func72 rfl Tryz.ntmps72 (by simp) fun X w => ?_
  show AWp _ _ _ ⟨[(0, .p (.slc (List.map encRow s_1001))), (1, .p (.func (.func f_1002_k) f_1002_cs))], []⟩
  simp only [slices_ContainsFunc_Row] at h
  refine awp_seq ?_
  refine awp_region ?_
  refine AL_upto (by exact rfl) (by simp only [go_sem, seval]; exact rfl) ?_
  refine AL_nil ?_
  refine thenA_n ?_
  refine awp_seq ?_
  refine awp_region ?_
  refine AL_upto (by exact rfl) (by simp only [go_sem, seval]; exact rfl) ?_
  obtain ⟨r_1005, hr_1006, h⟩ := Option.bind_eq_some_iff.1 h
  refine AL_con' rfl (guard_none rfl) rfl (by simp only [go_sem, seval]; exact rfl) (by simp only [go_sem, seval]; all_goals ((repeat' refine And.intro ?_ ?_) <;> first | rfl | (simp; done) | (simp; rfl) | (simp [*]; done) | (simp [*]; rfl))) (slices_IndexFunc_Row_con s_1001 f_1002 f_1002_k f_1002_cs f_1002_h _ hr_1006) (.inr rfl) rfl ?_
  refine AL_upto (by exact rfl) (by simp only [go_sem, seval]; exact rfl) ?_
  refine AL_nil ?_
  refine thenA_n ?_
  refine awp_ret ?_
  cases h
  refine retQ_ret (by simp only [Tryz.results72]; simp only [go_sem, seval]; exact rfl) ?_
  simp only [go_sem, seval]
  all_goals ((repeat' refine And.intro ?_ ?_) <;> first | rfl | (simp; done) | (simp; rfl) | (simp [*]; done) | (simp [*]; rfl))
end Go.Proofs.YtdmddoljldjjeaaGreat
set_option linter.unusedVariables false
set_option linter.unusedSimpArgs false
namespace Go.Proofs.YtdmddoljldjjeaaGreat
open Go Go.Ab
set_option maxHeartbeats 4000000 in
theorem survivor_divides_1_con (r_1008 : Row) (c_1009 : List (Int × Bool)) (r_1010 : Bool) (h : survivor_divides_1 r_1008 c_1009 = some r_1010) : Con Tryz.prog 73 [(encRow r_1008), .imm [.mapv (encK (PV.int .i64) c_1009) (encW PV.bool c_1009)]] (.bool r_1010) := by
  refine ⟨Tryz.call73, ?_⟩
  refine pure_of_awp Tryz.func73 rfl Tryz.ntmps73 (by simp) fun X w => ?_
  show AWp _ _ _ ⟨[(0, .p (encRow r_1008)), (1, .p (.imm [.mapv (encK (PV.int .i64) c_1009) (encW PV.bool c_1009)]))], []⟩
  simp only [survivor_divides_1] at h
  refine awp_seq ?_
  refine awp_region ?_
  refine AL_upto (by exact rfl) (by simp only [go_sem, seval]; exact rfl) ?_
  refine AL_nil ?_
  refine thenA_n ?_
  refine awp_seq ?_
  refine awp_region ?_
  refine AL_upto (by exact rfl) (by simp only [go_sem, seval]; exact rfl) ?_
  refine AL_nil ?_
  refine thenA_n ?_
  refine awp_ret ?_
  cases h
  refine retQ_ret (by simp only [Tryz.results73]; simp only [go_sem, seval]; exact rfl) ?_
  simp only [go_sem, seval]
  all_goals ((repeat' refine And.intro ?_ ?_) <;> first | rfl | (simp; done) | (simp; rfl) | (simp [*]; done) | (simp [*]; rfl))
end Go.Proofs.YtdmddoljldjjeaaGreat
set_option linter.unusedVariables false
set_option linter.unusedSimpArgs false
namespace Go.Proofs.YtdmddoljldjjeaaGreat
open Go Go.Ab
set_option maxHeartbeats 4000000 in
theorem survivor_divides_con (t_1011 : Table) (clusters_1012 : List (List Int)) (r_1022 : Bool) (h : survivor_divides t_1011 clusters_1012 = some r_1022) : Con Tryz.prog 34 [(encTable t_1011), (.slc (List.map (encL (PV.int .i64)) clusters_1012))] (.bool r_1022) := by
  refine ⟨Tryz.call34, ?_⟩
  refine pure_of_awp Tryz.func34 rfl Tryz.ntmps34 (by simp) fun X w => ?_
  show AWp _ _ _ ⟨[(0, .p (encTable t_1011)), (1, .p (.slc (List.map (encL (PV.int .i64)) clusters_1012)))], []⟩
  simp only [survivor_divides] at h
  refine awp_seq ?_
  refine awp_region ?_
  refine AL_upto (by exact rfl) (by simp only [go_sem, seval]; exact rfl) ?_
  refine AL_nil ?_
  refine thenA_n ?_
  refine awp_seq ?_
  refine awp_region ?_
  refine AL_upto (by exact rfl) (by simp only [go_sem, seval]; exact rfl) ?_
  obtain ⟨r_1015, hr_1016, h⟩ := Option.bind_eq_some_iff.1 h
  refine AL_con' rfl (guard_none rfl) rfl (by simp only [go_sem, seval]; exact rfl) (by simp only [go_sem, seval]; all_goals ((repeat' refine And.intro ?_ ?_) <;> first | rfl | (simp; done) | (simp; rfl) | (simp [*]; done) | (simp [*]; rfl))) (survivor_disjoint_con clusters_1012 _ hr_1016) (by first | exact .inl rfl | exact .inl (by simp only [go_sem])) rfl ?_
  refine AL_upto (by exact rfl) (by simp only [go_sem, seval]; exact rfl) ?_
  refine AL_nil ?_
  refine thenA_n ?_
  refine awp_seq ?_
  refine awp_seq ?_
  refine awp_region ?_
  refine AL_upto (by exact rfl) (by simp only [go_sem, seval]; exact rfl) ?_
  by_cases hb_1017 : r_1015.2 = true
  · rw [if_pos hb_1017] at h
    refine AL_known (d := 14) (v := .p (.bool false)) (by simp only [go_sem, seval, hb_1017]) ?_
    refine AL_gt' (guard_true' rfl rfl (by exact rfl) (by exact rfl)) rfl (by simp only [go_sem, seval, hb_1017]; exact rfl) ?_
    refine AL_gt' (guard_true' rfl rfl (by exact rfl) (by exact rfl)) rfl (by simp only [go_sem, seval, hb_1017]; exact rfl) ?_
    refine AL_gt' (guard_true' rfl rfl (by exact rfl) (by exact rfl)) rfl (by simp only [go_sem, seval, hb_1017]; exact rfl) ?_
    refine AL_gt' (guard_true' rfl rfl (by exact rfl) (by exact rfl)) rfl (by simp only [go_sem, seval, hb_1017]; exact rfl) ?_
    refine AL_gt' (guard_true' rfl rfl (by exact rfl) (by exact rfl)) rfl (by simp only [go_sem, seval, hb_1017]; exact rfl) ?_
    refine AL_gt' (guard_true' rfl rfl (by exact rfl) (by exact rfl)) rfl (by simp only [go_sem, seval, hb_1017]; exact rfl) ?_
    refine AL_upto (by exact rfl) (by simp only [go_sem, seval, hb_1017]; exact rfl) ?_
    refine AL_nil ?_
    refine thenA_n ?_
    by_cases hb_1018 : ((r_1015.1.length : Int) != (t_1011.Rows.length : Int)) = true
    · rw [if_pos hb_1018] at h
      refine awp_ct (by simp only [go_sem, seval, hb_1017, hb_1018]) ?_
      refine awp_seq ?_
      refine awp_region ?_
      refine AL_upto (by exact rfl) (by simp only [go_sem, seval, hb_1017, hb_1018]; exact rfl) ?_
      refine AL_nil ?_
      refine thenA_n ?_
      refine awp_ret ?_
      refine thenA_ret ?_
      cases h
      refine retQ_ret (by simp only [Tryz.results34]; simp only [go_sem, seval, hb_1017, hb_1018]; exact rfl) ?_
      simp only [go_sem, seval, hb_1017, hb_1018]
      all_goals ((repeat' refine And.intro ?_ ?_) <;> first | rfl | (simp; done) | (simp; rfl) | (simp [*]; done) | (simp [*]; rfl))
    · rw [if_neg hb_1018] at h
      have hb_1018F := Bool.eq_false_iff.2 hb_1018
      refine awp_cf (by simp only [go_sem, seval, hb_1017, hb_1018F]) ?_
      refine awp_skip ?_
      refine thenA_n ?_
      refine awp_seq ?_
      refine awp_region ?_
      refine AL_upto (by exact rfl) (by simp only [go_sem, seval, hb_1017, hb_1018F]; exact rfl) ?_
      obtain ⟨r_1020, hr_1021, h⟩ := Option.bind_eq_some_iff.1 h
      refine AL_con' rfl (guard_none rfl) rfl (by simp only [go_sem, seval, hb_1017, hb_1018F]; exact rfl) (by simp only [go_sem, seval, hb_1017, hb_1018F]; all_goals ((repeat' refine And.intro ?_ ?_) <;> first | rfl | (simp; done) | (simp; rfl) | (simp [*]; done) | (simp [*]; rfl))) (slices_ContainsFunc_Row_con t_1011.Rows (fun (y_1019 : Row) => survivor_divides_1 y_1019 r_1015.1) 73 [.imm [.mapv (encK (PV.int .i64) r_1015.1) (encW PV.bool r_1015.1)]] (fun y_1019 r h => survivor_divides_1_con y_1019 r_1015.1 r h) _ hr_1021) (.inr rfl) rfl ?_
      refine AL_upto (by exact rfl) (by simp only [go_sem, seval, hb_1017, hb_1018F]; exact rfl) ?_
      refine AL_nil ?_
      refine thenA_n ?_
      refine awp_ret ?_
      cases h
      refine retQ_ret (by simp only [Tryz.results34]; simp only [go_sem, seval, hb_1017, hb_1018F]; exact rfl) ?_
      simp only [go_sem, seval, hb_1017, hb_1018F]
      all_goals ((repeat' refine And.intro ?_ ?_) <;> first | rfl | (simp; done) | (simp; rfl) | (simp [*]; done) | (simp [*]; rfl))
  · rw [if_neg hb_1017] at h
    have hb_1017F := Bool.eq_false_iff.2 hb_1017
    refine AL_known (d := 14) (v := .p (.bool true)) (by simp only [go_sem, seval, hb_1017F]) ?_
    refine AL_skips (by exact rfl) ?_
    refine AL_upto (by exact rfl) (by simp only [go_sem, seval, hb_1017F]; exact rfl) ?_
    refine AL_nil ?_
    refine thenA_n ?_
    refine awp_ct (by simp only [go_sem, seval, hb_1017F]) ?_
    refine awp_seq ?_
    refine awp_region ?_
    refine AL_upto (by exact rfl) (by simp only [go_sem, seval, hb_1017F]; exact rfl) ?_
    refine AL_nil ?_
    refine thenA_n ?_
    refine awp_ret ?_
    refine thenA_ret ?_
    cases h
    refine retQ_ret (by simp only [Tryz.results34]; simp only [go_sem, seval, hb_1017F]; exact rfl) ?_
    simp only [go_sem, seval, hb_1017F]
    all_goals ((repeat' refine And.intro ?_ ?_) <;> first | rfl | (simp; done) | (simp; rfl) | (simp [*]; done) | (simp [*]; rfl))
end Go.Proofs.YtdmddoljldjjeaaGreat
set_option linter.unusedVariables false
set_option linter.unusedSimpArgs false
namespace Go.Proofs.YtdmddoljldjjeaaGreat
open Go Go.Ab
set_option maxHeartbeats 4000000 in
theorem survivor_Table_2_con (a_1133 : List Int) (b_1134 : List Int) (r_1141 : Int) (h : survivor_Table_2 a_1133 b_1134 = some r_1141) : Con Tryz.prog 36 [(.slc (List.map (PV.int .i64) a_1133)), (.slc (List.map (PV.int .i64) b_1134))] (.int .i64 r_1141) := by
  refine ⟨Tryz.call36, ?_⟩
  refine pure_of_awp Tryz.func36 rfl Tryz.ntmps36 (by simp) fun X w => ?_
  show AWp _ _ _ ⟨[(0, .p (.slc (List.map (PV.int .i64) a_1133))), (1, .p (.slc (List.map (PV.int .i64) b_1134)))], []⟩
  simp only [survivor_Table_2] at h
  refine awp_seq ?_
  refine awp_region ?_
  refine AL_upto (by exact rfl) (by simp only [go_sem, seval]; exact rfl) ?_
  refine AL_nil ?_
  refine thenA_n ?_
  refine awp_seq ?_
  refine awp_drawn_walk mixed (by decide) ?_
  obtain ⟨x_1135, hx_1136, h⟩ := Option.bind_eq_some_iff.1 h
  have hx_1136l := eq_true (lt_of_get hx_1136)
  have hx_1136L : ((0 : Int) < (a_1133.length : Int)) = True := eq_true (by have := lt_of_get hx_1136; omega)
  obtain ⟨x_1137, hx_1138, h⟩ := Option.bind_eq_some_iff.1 h
  have hx_1138l := eq_true (lt_of_get hx_1138)
  have hx_1138L : ((0 : Int) < (b_1134.length : Int)) = True := eq_true (by have := lt_of_get hx_1138; omega)
  refine DGo.upto (by exact rfl) (by simp only [go_sem, seval, hx_1136, hx_1136l, hx_1136L, hx_1138, hx_1138l, hx_1138L]; first | exact ⟨rfl, rfl⟩ | exact rfl) ?_
  obtain ⟨r_1139, hr_1140, h⟩ := Option.bind_eq_some_iff.1 h
  refine DGo.con' rfl (guard_none rfl) rfl (by simp only [go_sem, seval]; exact rfl) (by simp only [go_sem, seval]; all_goals ((repeat' refine And.intro ?_ ?_) <;> first | rfl | (simp; done) | (simp; rfl) | (simp [*]; done) | (simp [*]; rfl))) (by simp only [go_sem, seval]; exact rfl) (cmp_Compare_int64_con x_1135 x_1137 _ hr_1140) (.inr rfl) rfl ?_
  refine DGo.upto (by exact rfl) (by simp only [go_sem, seval]; first | exact ⟨rfl, rfl⟩ | exact rfl) ?_
  refine DGo.fin rfl ?_
  refine thenA_n ?_
  refine awp_ret ?_
  cases h
  refine retQ_ret (by simp only [Tryz.results36]; simp only [go_sem, seval]; exact rfl) ?_
  simp only [go_sem, seval]
  all_goals ((repeat' refine And.intro ?_ ?_) <;> first | rfl | (simp; done) | (simp; rfl) | (simp [*]; done) | (simp [*]; rfl))
end Go.Proofs.YtdmddoljldjjeaaGreat
set_option linter.unusedVariables false
set_option linter.unusedSimpArgs false
namespace Go.Proofs.YtdmddoljldjjeaaGreat
open Go Go.Ab
set_option maxHeartbeats 4000000 in
theorem slices_Clone_string_con (l : List (List UInt8)) (r : List (List UInt8)) (h : slices_Clone_string l = some r) : Con Tryz.prog 38 [(.slc (List.map PV.str l))] (.slc (List.map PV.str r)) := by
  obtain ⟨hc, h⟩ := ite_some h
  cases h
  refine ⟨Tryz.call38, ?_⟩
  refine pure_of_awp Tryz.func38 rfl Tryz.ntmps38 (by simp) fun X w => ?_
  show AWp _ _ _ ⟨[(0, .p (.slc (List.map PV.str l)))], []⟩
  refine awp_seq ?_
  refine awp_region ?_
  refine AL_upto (by exact rfl) (by simp only [go_sem, seval]; exact rfl) ?_
  refine AL_nil ?_
  refine thenA_n ?_
  refine awp_seq ?_
  refine awp_seq ?_
  refine awp_region ?_
  refine AL_take 1 (by simp only [go_sem, seval]; exact rfl) ?_
  refine AL_nileq (by simp only [go_sem, seval]; exact rfl) (by simp only [go_sem, seval]) Tryz.underlying22 rfl ?_
  intro b hb
  refine AL_nil ?_
  refine thenA_n ?_
  cases b
  · refine awp_cf (by simp only [go_sem, seval]) ?_
    refine awp_skip ?_
    refine thenA_n ?_
    refine awp_seq ?_
    refine awp_region ?_
    refine AL_upto (by exact rfl) (by simp only [go_sem, seval, hc]; exact rfl) ?_
    refine AL_nil ?_
    refine thenA_n ?_
    refine awp_ret ?_
    refine retQ_ret (by simp only [Tryz.results38]; simp only [go_sem, seval]; exact rfl) ?_
    simp only [go_sem, seval]
    all_goals ((repeat' refine And.intro ?_ ?_) <;> first | rfl | (simp; done) | (simp; rfl) | (simp [*]; done) | (simp [*]; rfl))
  · refine awp_ct (by simp only [go_sem, seval]) ?_
    have hl : l = [] := by
      cases l with
      | nil => rfl
      | cons x l => exact absurd (hb (by simp)) (by simp)
    subst hl
    refine awp_seq ?_
    refine awp_region ?_
    refine AL_upto (by exact rfl) (by simp only [go_sem, seval]; exact rfl) ?_
    refine AL_nil ?_
    refine thenA_n ?_
    refine awp_ret ?_
    refine thenA_ret ?_
    refine retQ_ret (by simp only [Tryz.results38]; simp only [go_sem, seval]; exact rfl) ?_
    simp only [go_sem, seval]
    all_goals ((repeat' refine And.intro ?_ ?_) <;> first | rfl | (simp; done) | (simp; rfl) | (simp [*]; done) | (simp [*]; rfl))
end Go.Proofs.YtdmddoljldjjeaaGreat
set_option linter.unusedVariables false
set_option linter.unusedSimpArgs false
namespace Go.Proofs.YtdmddoljldjjeaaGreat
open Go Go.Ab
set_option maxHeartbeats 4000000 in
theorem slices_Index_int64_con (s_1142 : List Int) (v_1143 : Int) (r_1165 : Int) (h : slices_Index_int64 s_1142 v_1143 = some r_1165) : Con Tryz.prog 119 [(.slc (List.map (PV.int .i64) s_1142)), (.int .i64 v_1143)] (.int .i64 r_1165) := by
  refine ⟨Tryz.call119, ?_⟩
  refine pure_of_awp Tryz.func119 rfl Tryz.ntmps119 (by simp) fun X w => ?_
  show AWp _ _ _ ⟨[(0, .p (.slc (List.map (PV.int .i64) s_1142))), (1, .p (.int .i64 v_1143))], []⟩
  simp only [slices_Index_int64] at h
  refine awp_seq ?_
  refine awp_region ?_
  refine AL_upto (by exact rfl) (by simp only [go_sem, seval]; exact rfl) ?_
  refine AL_nil ?_
  refine thenA_n ?_
  refine awp_seq ?_
  refine awp_seq ?_
  refine awp_region ?_
  refine AL_upto (by exact rfl) (by simp only [go_sem, seval]; exact rfl) ?_
  refine AL_nil ?_
  refine thenA_n ?_
  refine awp_block ?_
  obtain ⟨o_1160, hL_1161, h⟩ := Option.bind_eq_some_iff.1 h
  refine awp_loop_L (fun (s : Int) => ⟨[(0, .p (.slc (List.map (PV.int .i64) s_1142))), (1, .p (.int .i64 v_1143)), (7, .p (.int .i64 (s_1142.length : Int))), (8, .p (.int .i64 s))], []⟩) (fun (o : (Unit) ⊕ (Int)) (e : Exit) (s' : St) => match o with | .inl o_1163 => e = (.exit 0) ∧ Le ⟨Tryz.prog, Tryz.f119.ntmps, 0, X, [], fun _ => none, w⟩ s' ⟨[], []⟩ | .inr o_1164 => e = .ret ∧ retQ Tryz.prog Tryz.f119 (.int .i64 o_1164) .ret s') (by intro o s hT; rcases o with _ | _ <;> (have hh := hT.1; cases hh)) hL_1161 (by simp only [go_sem, seval]; all_goals ((repeat' refine And.intro ?_ ?_) <;> first | rfl | (simp; done) | (simp; rfl) | (simp [*]; done) | (simp [*]; rfl))) ?_ ?_
  · clear h
    intro t8_1149 x h
    simp only [slices_Index_int64_l1] at h
    show AWp _ _ _ ⟨[(0, .p (.slc (List.map (PV.int .i64) s_1142))), (1, .p (.int .i64 v_1143)), (7, .p (.int .i64 (s_1142.length : Int))), (8, .p (.int .i64 t8_1149))], []⟩
    refine awp_seq ?_
    refine awp_region ?_
    refine AL_upto (by exact rfl) (by simp only [go_sem, seval]; exact rfl) ?_
    refine AL_nil ?_
    refine thenA_n ?_
    refine awp_seq ?_
    by_cases hb_1156 : t8_1149 < (s_1142.length : Int)
    · rw [if_pos hb_1156] at h
      have hb_1156T := eq_true hb_1156
      refine awp_ct (by simp only [go_sem, seval, hb_1156T]) ?_
      refine awp_skip ?_
      refine thenA_n ?_
      refine awp_seq ?_
      refine awp_block ?_
      refine awp_seq ?_
      refine awp_region ?_
      refine AL_upto (by exact rfl) (by simp only [go_sem, seval, hb_1156T]; exact rfl) ?_
      refine AL_nil ?_
      refine thenA_n ?_
      refine awp_seq ?_
      refine awp_region ?_
      obtain ⟨x_1157, hx_1158, h⟩ := Option.bind_eq_some_iff.1 h
      obtain ⟨hx_1158a, hx_1158, hx_1158b⟩ := idx_some hx_1158
      have hx_1158A := eq_true hx_1158a
      have hx_1158B := eq_true hx_1158b
      refine AL_upto (by exact rfl) (by simp only [go_sem, seval, hb_1156T, hx_1158, hx_1158A, hx_1158B]; exact rfl) ?_
      refine AL_nil ?_
      refine thenA_n ?_
      by_cases hb_1159 : (v_1143 == x_1157) = true
      · rw [if_pos hb_1159] at h
        refine awp_ct (by simp only [go_sem, seval, hb_1156T, hb_1159]) ?_
        refine awp_seq ?_
        refine awp_region ?_
        refine AL_upto (by exact rfl) (by simp only [go_sem, seval, hb_1156T, hb_1159]; exact rfl) ?_
        refine AL_nil ?_
        refine thenA_n ?_
        refine awp_ret ?_
        refine blockA_ret ?_
        refine thenA_ret ?_
        cases h
        refine ⟨rfl, ?_⟩
        refine retQ_ret (by simp only [Tryz.results119]; simp only [go_sem, seval, hb_1156T, hb_1159]; exact rfl) ?_
        simp only [go_sem, seval, hb_1156T, hb_1159]
        all_goals ((repeat' refine And.intro ?_ ?_) <;> first | rfl | (simp; done) | (simp; rfl) | (simp [*]; done) | (simp [*]; rfl))
      · rw [if_neg hb_1159] at h
        have hb_1159F := Bool.eq_false_iff.2 hb_1159
        refine awp_cf (by simp only [go_sem, seval, hb_1156T, hb_1159F]) ?_
        refine awp_skip ?_
        refine blockA_n ?_
        refine thenA_n ?_
        refine awp_region ?_
        refine AL_upto (by exact rfl) (by simp only [go_sem, seval, hb_1156T, hb_1159F]; exact rfl) ?_
        refine AL_nil ?_
        cases h
        refine ⟨rfl, ?_⟩
        simp only [go_sem, seval, hb_1156T, hb_1159F]
        all_goals ((repeat' refine And.intro ?_ ?_) <;> first | rfl | (simp; done) | (simp; rfl) | (simp [*]; done) | (simp [*]; rfl))
    · rw [if_neg hb_1156] at h
      have hb_1156T := eq_false hb_1156
      refine awp_cf (by simp only [go_sem, seval, hb_1156T]) ?_
      refine awp_exit ?_
      refine thenA_exit ?_
      cases h
      refine ⟨rfl, ?_⟩
      simp only [go_sem, seval, hb_1156T]
      all_goals ((repeat' refine And.intro ?_ ?_) <;> first | rfl | (simp; done) | (simp; rfl) | (simp [*]; done) | (simp [*]; rfl))
  · intro e s' hT
    rcases o_1160 with ⟨⟩ | r_1162
    · try simp only at h
      try simp only at hT
      obtain ⟨rfl, hle⟩ := hT
      refine Wk.to hle ?_
      clear hle
      refine blockA_here ?_
      refine thenA_n ?_
      refine awp_seq ?_
      refine awp_region ?_
      refine AL_upto (by exact rfl) (by simp only [go_sem, seval]; exact rfl) ?_
      refine AL_nil ?_
      refine thenA_n ?_
      refine awp_ret ?_
      cases h
      refine retQ_ret (by simp only [Tryz.results119]; simp only [go_sem, seval]; exact rfl) ?_
      simp only [go_sem, seval]
      all_goals ((repeat' refine And.intro ?_ ?_) <;> first | rfl | (simp; done) | (simp; rfl) | (simp [*]; done) | (simp [*]; rfl))
    · try simp only at h
      try simp only at hT
      obtain ⟨rfl, hq⟩ := hT
      refine Wk.now ?_
      refine blockA_ret ?_
      refine thenA_ret ?_
      cases h
      exact hq
end Go.Proofs.YtdmddoljldjjeaaGreat
set_option linter.unusedVariables false
set_option linter.unusedSimpArgs false
namespace Go.Proofs.YtdmddoljldjjeaaGreat
open Go Go.Ab
set_option maxHeartbeats 4000000 in
theorem slices_Contains_int64_con (s_1166 : List Int) (v_1167 : Int) (r_1170 : Bool) (h : slices_Contains_int64 s_1166 v_1167 = some r_1170) : Con Tryz.prog 77 [(.slc (List.map (PV.int .i64) s_1166)), (.int .i64 v_1167)] (.bool r_1170) := by
  refine ⟨Tryz.call77, ?_⟩
  refine pure_of_awp Tryz.func77 rfl Tryz.ntmps77 (by simp) fun X w => ?_
  show AWp _ _ _ ⟨[(0, .p (.slc (List.map (PV.int .i64) s_1166))), (1, .p (.int .i64 v_1167))], []⟩
  simp only [slices_Contains_int64] at h
  refine awp_seq ?_
  refine awp_region ?_
  refine AL_upto (by exact rfl) (by simp only [go_sem, seval]; exact rfl) ?_
  refine AL_nil ?_
  refine thenA_n ?_
  refine awp_seq ?_
  refine awp_region ?_
  refine AL_upto (by exact rfl) (by simp only [go_sem, seval]; exact rfl) ?_
  obtain ⟨r_1168, hr_1169, h⟩ := Option.bind_eq_some_iff.1 h
  refine AL_con' rfl (guard_none rfl) rfl (by simp only [go_sem, seval]; exact rfl) (by simp only [go_sem, seval]; all_goals ((repeat' refine And.intro ?_ ?_) <;> first | rfl | (simp; done) | (simp; rfl) | (simp [*]; done) | (simp [*]; rfl))) (slices_Index_int64_con s_1166 v_1167 _ hr_1169) (.inr rfl) rfl ?_
  refine AL_upto (by exact rfl) (by simp only [go_sem, seval]; exact rfl) ?_
  refine AL_nil ?_
  refine thenA_n ?_
  refine awp_ret ?_
  cases h
  refine retQ_ret (by simp only [Tryz.results77]; simp only [go_sem, seval]; exact rfl) ?_
  simp only [go_sem, seval]
  all_goals ((repeat' refine And.intro ?_ ?_) <;> first | rfl | (simp; done) | (simp; rfl) | (simp [*]; done) | (simp [*]; rfl))
end Go.Proofs.YtdmddoljldjjeaaGreat
set_option linter.unusedVariables false
set_option linter.unusedSimpArgs false
namespace Go.Proofs.YtdmddoljldjjeaaGreat
open Go Go.Ab
set_option maxHeartbeats 4000000 in
theorem slices_Clone_Value_con (l : List Value) (r : List Value) (h : slices_Clone_Value l = some r) : Con Tryz.prog 145 [(.slc (List.map encValue l))] (.slc (List.map encValue r)) := by
  obtain ⟨hc, h⟩ := ite_some h
  cases h
  refine ⟨Tryz.call145, ?_⟩
  refine pure_of_awp Tryz.func145 rfl Tryz.ntmps145 (by simp) fun X w => ?_
  show AWp _ _ _ ⟨[(0, .p (.slc (List.map encValue l)))], []⟩
  refine awp_seq ?_
  refine awp_region ?_
  refine AL_upto (by exact rfl) (by simp only [go_sem, seval]; exact rfl) ?_
  refine AL_nil ?_
  refine thenA_n ?_
  refine awp_seq ?_
  refine awp_seq ?_
  refine awp_region ?_
  refine AL_take 1 (by simp only [go_sem, seval]; exact rfl) ?_
  refine AL_nileq (by simp only [go_sem, seval]; exact rfl) (by simp only [go_sem, seval]) Tryz.underlying54 rfl ?_
  intro b hb
  refine AL_nil ?_
  refine thenA_n ?_
  cases b
  · refine awp_cf (by simp only [go_sem, seval]) ?_
    refine awp_skip ?_
    refine thenA_n ?_
    refine awp_seq ?_
    refine awp_region ?_
    refine AL_upto (by exact rfl) (by simp only [go_sem, seval, hc]; exact rfl) ?_
    refine AL_nil ?_
    refine thenA_n ?_
    refine awp_ret ?_
    refine retQ_ret (by simp only [Tryz.results145]; simp only [go_sem, seval]; exact rfl) ?_
    simp only [go_sem, seval]
    all_goals ((repeat' refine And.intro ?_ ?_) <;> first | rfl | (simp; done) | (simp; rfl) | (simp [*]; done) | (simp [*]; rfl))
  · refine awp_ct (by simp only [go_sem, seval]) ?_
    have hl : l = [] := by
      cases l with
      | nil => rfl
      | cons x l => exact absurd (hb (by simp)) (by simp)
    subst hl
    refine awp_seq ?_
    refine awp_region ?_
    refine AL_upto (by exact rfl) (by simp only [go_sem, seval]; exact rfl) ?_
    refine AL_nil ?_
    refine thenA_n ?_
    refine awp_ret ?_
    refine thenA_ret ?_
    refine retQ_ret (by simp only [Tryz.results145]; simp only [go_sem, seval]; exact rfl) ?_
    simp only [go_sem, seval]
    all_goals ((repeat' refine And.intro ?_ ?_) <;> first | rfl | (simp; done) | (simp; rfl) | (simp [*]; done) | (simp [*]; rfl))
end Go.Proofs.YtdmddoljldjjeaaGreat
set_option linter.unusedVariables false
set_option linter.unusedSimpArgs false
namespace Go.Proofs.YtdmddoljldjjeaaGreat
open Go Go.Ab
set_option maxHeartbeats 4000000 in
theorem table_copied_con (r_1171 : Row) (r_1174 : Row) (h : table_copied r_1171 = some r_1174) : Con Tryz.prog 120 [(encRow r_1171)] (encRow r_1174) := by
  refine ⟨Tryz.call120, ?_⟩
  refine pure_of_awp Tryz.func120 rfl Tryz.ntmps120 (by simp) fun X w => ?_
  show AWp _ _ _ ⟨[(0, .p (encRow r_1171))], []⟩
  simp only [table_copied] at h
  refine awp_seq ?_
  refine awp_region ?_
  refine AL_upto (by exact rfl) (by simp only [go_sem, seval]; exact rfl) ?_
  refine AL_nil ?_
  refine thenA_n ?_
  refine awp_seq ?_
  refine awp_drawn_walk mixed (by decide) ?_
  refine DGo.upto (by exact rfl) (by simp only [go_sem, seval]; first | exact ⟨rfl, rfl⟩ | exact rfl) ?_
  obtain ⟨r_1172, hr_1173, h⟩ := Option.bind_eq_some_iff.1 h
  refine DGo.con' rfl (guard_none rfl) rfl (by simp only [go_sem, seval]; exact rfl) (by simp only [go_sem, seval]; all_goals ((repeat' refine And.intro ?_ ?_) <;> first | rfl | (simp; done) | (simp; rfl) | (simp [*]; done) | (simp [*]; rfl))) (by simp only [go_sem, seval]; exact rfl) (slices_Clone_Value_con r_1171.Values _ hr_1173) (by first | exact .inl rfl | exact .inl (by simp only [go_sem])) rfl ?_
  refine DGo.upto (by exact rfl) (by simp only [go_sem, seval]; first | exact ⟨rfl, rfl⟩ | exact rfl) ?_
  refine DGo.fin rfl ?_
  refine thenA_n ?_
  refine awp_ret ?_
  cases h
  refine retQ_ret (by simp only [Tryz.results120]; simp only [go_sem, seval]; exact rfl) ?_
  simp only [go_sem, seval]
  all_goals ((repeat' refine And.intro ?_ ?_) <;> first | rfl | (simp; done) | (simp; rfl) | (simp [*]; done) | (simp [*]; rfl))
end Go.Proofs.YtdmddoljldjjeaaGreat
set_option linter.unusedVariables false
set_option linter.unusedSimpArgs false
namespace Go.Proofs.YtdmddoljldjjeaaGreat
open Go Go.Ab
set_option maxHeartbeats 4000000 in
theorem table_with_con (t_1175 : Table) (rows_1176 : List Row) (r_1214 : Table) (h : table_with t_1175 rows_1176 = some r_1214) : Con Tryz.prog 78 [(encTable t_1175), (.slc (List.map encRow rows_1176))] (encTable r_1214) := by
  refine ⟨Tryz.call78, ?_⟩
  refine pure_of_awp Tryz.func78 rfl Tryz.ntmps78 (by simp) fun X w => ?_
  show AWp _ _ _ ⟨[(0, .p (encTable t_1175)), (1, .p (.slc (List.map encRow rows_1176)))], []⟩
  simp only [table_with] at h
  refine awp_seq ?_
  refine awp_region ?_
  refine AL_upto (by exact rfl) (by simp only [go_sem, seval]; exact rfl) ?_
  refine AL_nil ?_
  refine thenA_n ?_
  refine awp_seq ?_
  refine awp_drawn_walk mixed (by decide) ?_
  refine DGo.upto (by exact rfl) (by simp only [go_sem, seval]; first | exact ⟨rfl, rfl⟩ | exact rfl) ?_
  obtain ⟨r_1179, hr_1180, h⟩ := Option.bind_eq_some_iff.1 h
  refine DGo.con' rfl (guard_none rfl) rfl (by simp only [go_sem, seval]; exact rfl) (by simp only [go_sem, seval]; all_goals ((repeat' refine And.intro ?_ ?_) <;> first | rfl | (simp; done) | (simp; rfl) | (simp [*]; done) | (simp [*]; rfl))) (by simp only [go_sem, seval]; exact rfl) (slices_Clone_string_con t_1175.Attrs _ hr_1180) (by first | exact .inl rfl | exact .inl (by simp only [go_sem])) rfl ?_
  refine DGo.upto (by exact rfl) (by simp only [go_sem, seval]; first | exact ⟨rfl, rfl⟩ | exact rfl) ?_
  refine DGo.fin rfl ?_
  refine thenA_n ?_
  refine awp_seq ?_
  refine awp_seq ?_
  refine awp_region ?_
  refine AL_upto (by exact rfl) (by simp only [go_sem, seval]; exact rfl) ?_
  refine AL_nil ?_
  refine thenA_n ?_
  refine awp_block ?_
  obtain ⟨o_1211, hL_1212, h⟩ := Option.bind_eq_some_iff.1 h
  refine awp_loop_L (fun (s : List Row × Int) => ⟨[(4, .loc 4 1 0 0), (5, .loc 5 1 0 0), (14, .p (.slc (List.map encRow rows_1176))), (15, .p (.int .i64 (rows_1176.length : Int))), (16, .p (.int .i64 s.2))], [(4, .arr 25 3 1 [.agg [.p (.str []), .nils, .nils]]), (5, .arr 25 3 1 [.agg [.p (.str t_1175.Name), .p (.slc (List.map PV.str r_1179)), .own 25 1 0 s.1.length]]), (25, .arr 56 2 1 (List.map AV.p (List.map encRow s.1)))]⟩) (fun (o_1213 : List Row) (e : Exit) (s' : St) => e = (.exit 0) ∧ Le ⟨Tryz.prog, Tryz.f78.ntmps, 0, X, [], fun _ => none, w⟩ s' ⟨[(4, .loc 4 1 0 0), (5, .loc 5 1 0 0)], [(4, .arr 25 3 1 [.agg [.p (.str []), .nils, .nils]]), (5, .arr 25 3 1 [.agg [.p (.str t_1175.Name), .p (.slc (List.map PV.str r_1179)), .own 25 1 0 o_1213.length]]), (25, .arr 56 2 1 (List.map AV.p (List.map encRow o_1213)))]⟩) (by intro o s hT; have hh := hT.1; cases hh) hL_1212 (by simp only [go_sem, seval]; all_goals ((repeat' refine And.intro ?_ ?_) <;> first | rfl | (simp; done) | (simp; rfl) | (simp [*]; done) | (simp [*]; rfl))) ?_ ?_
  · clear h
    intro s x h
    obtain ⟨out_1190, t16_1191⟩ := s
    simp only [table_with_l1] at h
    show AWp _ _ _ ⟨[(4, .loc 4 1 0 0), (5, .loc 5 1 0 0), (14, .p (.slc (List.map encRow rows_1176))), (15, .p (.int .i64 (rows_1176.length : Int))), (16, .p (.int .i64 t16_1191))], [(4, .arr 25 3 1 [.agg [.p (.str []), .nils, .nils]]), (5, .arr 25 3 1 [.agg [.p (.str t_1175.Name), .p (.slc (List.map PV.str r_1179)), .own 25 1 0 out_1190.length]]), (25, .arr 56 2 1 (List.map AV.p (List.map encRow out_1190)))]⟩
    refine awp_seq ?_
    refine awp_region ?_
    refine AL_upto (by exact rfl) (by simp only [go_sem, seval]; exact rfl) ?_
    refine AL_nil ?_
    refine thenA_n ?_
    refine awp_seq ?_
    by_cases hb_1203 : t16_1191 < (rows_1176.length : Int)
    · rw [if_pos hb_1203] at h
      have hb_1203T := eq_true hb_1203
      refine awp_ct (by simp only [go_sem, seval, hb_1203T]) ?_
      refine awp_skip ?_
      refine thenA_n ?_
      refine awp_seq ?_
      refine awp_block ?_
      refine awp_seq ?_
      refine awp_region ?_
      obtain ⟨x_1206, hx_1207, h⟩ := Option.bind_eq_some_iff.1 h
      obtain ⟨hx_1207a, hx_1207, hx_1207b⟩ := idx_some hx_1207
      have hx_1207A := eq_true hx_1207a
      have hx_1207B := eq_true hx_1207b
      refine AL_upto (by exact rfl) (by simp only [go_sem, seval, hb_1203T, hx_1207, hx_1207A, hx_1207B]; exact rfl) ?_
      refine AL_nil ?_
      refine thenA_n ?_
      refine awp_drawn_walk mixed (by decide) ?_
      refine DGo.upto (by exact rfl) (by simp only [go_sem, seval, hb_1203T]; first | exact ⟨rfl, rfl⟩ | exact rfl) ?_
      obtain ⟨r_1208, hr_1209, h⟩ := Option.bind_eq_some_iff.1 h
      refine DGo.con' rfl (guard_none rfl) rfl (by simp only [go_sem, seval, hb_1203T]; exact rfl) (by simp only [go_sem, seval, hb_1203T]; all_goals ((repeat' refine And.intro ?_ ?_) <;> first | rfl | (simp; done) | (simp; rfl) | (simp [*]; done) | (simp [*]; rfl))) (by simp only [go_sem, seval, hb_1203T]; exact rfl) (table_copied_con x_1206 _ hr_1209) (by first | exact .inl rfl | exact .inl (by simp only [go_sem])) rfl ?_
      obtain ⟨hc_1210, h⟩ := ite_some h
      refine DGo.upto (by exact rfl) (by simp only [go_sem, seval, hb_1203T, hc_1210]; first | exact ⟨rfl, rfl⟩ | exact rfl) ?_
      refine DGo.fin rfl ?_
      refine blockA_n ?_
      refine thenA_n ?_
      refine awp_region ?_
      refine AL_upto (by exact rfl) (by simp only [go_sem, seval, hb_1203T]; exact rfl) ?_
      refine AL_nil ?_
      cases h
      refine ⟨rfl, ?_⟩
      simp only [go_sem, seval, hb_1203T]
      all_goals ((repeat' refine And.intro ?_ ?_) <;> first | rfl | (simp; done) | (simp; rfl) | (simp [*]; done) | (simp [*]; rfl))
    · rw [if_neg hb_1203] at h
      have hb_1203T := eq_false hb_1203
      refine awp_cf (by simp only [go_sem, seval, hb_1203T]) ?_
      refine awp_exit ?_
      refine thenA_exit ?_
      cases h
      refine ⟨rfl, ?_⟩
      simp only [go_sem, seval, hb_1203T]
      all_goals ((repeat' refine And.intro ?_ ?_) <;> first | rfl | (simp; done) | (simp; rfl) | (simp [*]; done) | (simp [*]; rfl))
  · intro e s' hT
    obtain ⟨out_1201, rfl⟩ : ∃ z, z = o_1211 := ⟨_, rfl⟩
    try simp only at h
    try simp only at hT
    obtain ⟨rfl, hle⟩ := hT
    refine Wk.to hle ?_
    clear hle
    refine blockA_here ?_
    refine thenA_n ?_
    refine awp_seq ?_
    refine awp_region ?_
    refine AL_upto (by exact rfl) (by simp only [go_sem, seval]; exact rfl) ?_
    refine AL_nil ?_
    refine thenA_n ?_
    refine awp_ret ?_
    cases h
    refine retQ_ret (by simp only [Tryz.results78]; simp only [go_sem, seval]; exact rfl) ?_
    simp only [go_sem, seval]
    all_goals ((repeat' refine And.intro ?_ ?_) <;> first | rfl | (simp; done) | (simp; rfl) | (simp [*]; done) | (simp [*]; rfl))
end Go.Proofs.YtdmddoljldjjeaaGreat
set_option linter.unusedVariables false
set_option linter.unusedSimpArgs false
namespace Go.Proofs.YtdmddoljldjjeaaGreat
open Go Go.Ab
set_option maxHeartbeats 4000000 in
theorem table_Keep_con (t_1215 : Table) (ids_1216 : List Int) (r_1261 : Table) (h : table_Keep t_1215 ids_1216 = some r_1261) : Con Tryz.prog 39 [(encTable t_1215), (.slc (List.map (PV.int .i64) ids_1216))] (encTable r_1261) := by
  refine ⟨Tryz.call39, ?_⟩
  refine pure_of_awp Tryz.func39 rfl Tryz.ntmps39 (by simp) fun X w => ?_
  show AWp _ _ _ ⟨[(0, .p (encTable t_1215)), (1, .p (.slc (List.map (PV.int .i64) ids_1216)))], []⟩
  simp only [table_Keep] at h
  refine awp_seq ?_
  refine awp_region ?_
  refine AL_upto (by exact rfl) (by simp only [go_sem, seval]; exact rfl) ?_
  refine AL_nil ?_
  refine thenA_n ?_
  refine awp_seq ?_
  refine awp_region ?_
  refine AL_upto (by exact rfl) (by simp only [go_sem, seval]; exact rfl) ?_
  refine AL_nil ?_
  refine thenA_n ?_
  refine awp_seq ?_
  refine awp_seq ?_
  refine awp_region ?_
  refine AL_upto (by exact rfl) (by simp only [go_sem, seval]; exact rfl) ?_
  refine AL_nil ?_
  refine thenA_n ?_
  refine awp_block ?_
  obtain ⟨o_1256, hL_1257, h⟩ := Option.bind_eq_some_iff.1 h
  refine awp_loop_L (fun (s : List Row × Int) => ⟨[(1, .p (.slc (List.map (PV.int .i64) ids_1216))), (2, .loc 2 1 0 0), (4, .loc 4 1 0 0), (5, .own 22 1 0 s.1.length), (9, .p (.slc (List.map encRow t_1215.Rows))), (10, .p (.int .i64 (t_1215.Rows.length : Int))), (11, .p (.int .i64 s.2))], [(2, .arr 25 3 1 [.p (encTable t_1215)]), (4, .arr 25 3 1 [.agg [.p (.str []), .nils, .nils]]), (22, .arr 56 2 1 (List.map AV.p (List.map encRow s.1)))]⟩) (fun (o_1260 : List Row) (e : Exit) (s' : St) => e = (.exit 0) ∧ Le ⟨Tryz.prog, Tryz.f39.ntmps, 0, X, [], fun _ => none, w⟩ s' ⟨[(2, .loc 2 1 0 0), (4, .loc 4 1 0 0), (5, .own 22 1 0 o_1260.length)], [(2, .arr 25 3 1 [.p (encTable t_1215)]), (4, .arr 25 3 1 [.agg [.p (.str []), .nils, .nils]]), (22, .arr 56 2 1 (List.map AV.p (List.map encRow o_1260)))]⟩) (by intro o s hT; have hh := hT.1; cases hh) hL_1257 (by simp only [go_sem, seval]; all_goals ((repeat' refine And.intro ?_ ?_) <;> first | rfl | (simp; done) | (simp; rfl) | (simp [*]; done) | (simp [*]; rfl))) ?_ ?_
  · clear h
    intro s x h
    obtain ⟨rows_1229, t11_1230⟩ := s
    simp only [table_Keep_l1] at h
    show AWp _ _ _ ⟨[(1, .p (.slc (List.map (PV.int .i64) ids_1216))), (2, .loc 2 1 0 0), (4, .loc 4 1 0 0), (5, .own 22 1 0 rows_1229.length), (9, .p (.slc (List.map encRow t_1215.Rows))), (10, .p (.int .i64 (t_1215.Rows.length : Int))), (11, .p (.int .i64 t11_1230))], [(2, .arr 25 3 1 [.p (encTable t_1215)]), (4, .arr 25 3 1 [.agg [.p (.str []), .nils, .nils]]), (22, .arr 56 2 1 (List.map AV.p (List.map encRow rows_1229)))]⟩
    refine awp_seq ?_
    refine awp_region ?_
    refine AL_upto (by exact rfl) (by simp only [go_sem, seval]; exact rfl) ?_
    refine AL_nil ?_
    refine thenA_n ?_
    refine awp_seq ?_
    by_cases hb_1245 : t11_1230 < (t_1215.Rows.length : Int)
    · rw [if_pos hb_1245] at h
      have hb_1245T := eq_true hb_1245
      refine awp_ct (by simp only [go_sem, seval, hb_1245T]) ?_
      refine awp_skip ?_
      refine thenA_n ?_
      refine awp_seq ?_
      refine awp_block ?_
      refine awp_seq ?_
      refine awp_region ?_
      obtain ⟨x_1248, hx_1249, h⟩ := Option.bind_eq_some_iff.1 h
      obtain ⟨hx_1249a, hx_1249, hx_1249b⟩ := idx_some hx_1249
      have hx_1249A := eq_true hx_1249a
      have hx_1249B := eq_true hx_1249b
      refine AL_upto (by exact rfl) (by simp only [go_sem, seval, hb_1245T, hx_1249, hx_1249A, hx_1249B]; exact rfl) ?_
      refine AL_nil ?_
      refine thenA_n ?_
      refine awp_seq ?_
      refine awp_region ?_
      refine AL_upto (by exact rfl) (by simp only [go_sem, seval, hb_1245T]; exact rfl) ?_
      obtain ⟨r_1252, hr_1253, h⟩ := Option.bind_eq_some_iff.1 h
      refine AL_con' rfl (guard_none rfl) rfl (by simp only [go_sem, seval, hb_1245T]; exact rfl) (by simp only [go_sem, seval, hb_1245T]; all_goals ((repeat' refine And.intro ?_ ?_) <;> first | rfl | (simp; done) | (simp; rfl) | (simp [*]; done) | (simp [*]; rfl))) (slices_Contains_int64_con ids_1216 x_1248.ID _ hr_1253) (.inr rfl) rfl ?_
      refine AL_nil ?_
      refine thenA_n ?_
      by_cases hb_1254 : r_1252 = true
      · rw [if_pos hb_1254] at h
        refine awp_ct (by simp only [go_sem, seval, hb_1245T, hb_1254]) ?_
        refine awp_region ?_
        obtain ⟨hc_1255, h⟩ := ite_some h
        refine AL_upto (by exact rfl) (by simp only [go_sem, seval, hb_1245T, hb_1254, hc_1255]; exact rfl) ?_
        refine AL_nil ?_
        refine blockA_n ?_
        refine thenA_n ?_
        refine awp_region ?_
        refine AL_upto (by exact rfl) (by simp only [go_sem, seval, hb_1245T, hb_1254]; exact rfl) ?_
        refine AL_nil ?_
        cases h
        refine ⟨rfl, ?_⟩
        simp only [go_sem, seval, hb_1245T, hb_1254]
        all_goals ((repeat' refine And.intro ?_ ?_) <;> first | rfl | (simp; done) | (simp; rfl) | (simp [*]; done) | (simp [*]; rfl))
      · rw [if_neg hb_1254] at h
        have hb_1254F := Bool.eq_false_iff.2 hb_1254
        refine awp_cf (by simp only [go_sem, seval, hb_1245T, hb_1254F]) ?_
        refine awp_skip ?_
        refine blockA_n ?_
        refine thenA_n ?_
        refine awp_region ?_
        refine AL_upto (by exact rfl) (by simp only [go_sem, seval, hb_1245T, hb_1254F]; exact rfl) ?_
        refine AL_nil ?_
        cases h
        refine ⟨rfl, ?_⟩
        simp only [go_sem, seval, hb_1245T, hb_1254F]
        all_goals ((repeat' refine And.intro ?_ ?_) <;> first | rfl | (simp; done) | (simp; rfl) | (simp [*]; done) | (simp [*]; rfl))
    · rw [if_neg hb_1245] at h
      have hb_1245T := eq_false hb_1245
      refine awp_cf (by simp only [go_sem, seval, hb_1245T]) ?_
      refine awp_exit ?_
      refine thenA_exit ?_
      cases h
      refine ⟨rfl, ?_⟩
      simp only [go_sem, seval, hb_1245T]
      all_goals ((repeat' refine And.intro ?_ ?_) <;> first | rfl | (simp; done) | (simp; rfl) | (simp [*]; done) | (simp [*]; rfl))
  · intro e s' hT
    obtain ⟨rows_1243, rfl⟩ : ∃ z, z = o_1256 := ⟨_, rfl⟩
    try simp only at h
    try simp only at hT
    obtain ⟨rfl, hle⟩ := hT
    refine Wk.to hle ?_
    clear hle
    refine blockA_here ?_
    refine thenA_n ?_
    refine awp_seq ?_
    refine awp_region ?_
    refine AL_upto (by exact rfl) (by simp only [go_sem, seval]; exact rfl) ?_
    refine AL_le (st' := ⟨[(4, .loc 4 1 0 0), (24, .p (encTable t_1215)), (25, .p (.slc (List.map encRow rows_1243)))], [(4, .arr 25 3 1 [.agg [.p (.str []), .nils, .nils]])]⟩) (by simp only [go_sem, seval]; all_goals ((repeat' refine And.intro ?_ ?_) <;> first | rfl | (simp; done) | (simp; rfl) | (simp [*]; done) | (simp [*]; rfl))) ?_
    obtain ⟨r_1258, hr_1259, h⟩ := Option.bind_eq_some_iff.1 h
    refine AL_con' rfl (guard_none rfl) rfl (by simp only [go_sem, seval]; exact rfl) (by simp only [go_sem, seval]; all_goals ((repeat' refine And.intro ?_ ?_) <;> first | rfl | (simp; done) | (simp; rfl) | (simp [*]; done) | (simp [*]; rfl))) (table_with_con t_1215 rows_1243 _ hr_1259) (by first | exact .inl rfl | exact .inl (by simp only [go_sem])) rfl ?_
    refine AL_upto (by exact rfl) (by simp only [go_sem, seval]; exact rfl) ?_
    refine AL_nil ?_
    refine thenA_n ?_
    refine awp_ret ?_
    cases h
    refine retQ_ret (by simp only [Tryz.results39]; simp only [go_sem, seval]; exact rfl) ?_
    simp only [go_sem, seval]
    all_goals ((repeat' refine And.intro ?_ ?_) <;> first | rfl | (simp; done) | (simp; rfl) | (simp [*]; done) | (simp [*]; rfl))
end Go.Proofs.YtdmddoljldjjeaaGreat
set_option linter.unusedVariables false
set_option linter.unusedSimpArgs false
namespace Go.Proofs.YtdmddoljldjjeaaGreat
open Go Go.Ab
set_option maxHeartbeats 4000000 in
theorem slices_Clone_int64_con (l : List Int) (r : List Int) (h : slices_Clone_int64 l = some r) : Con Tryz.prog 40 [(.slc (List.map (PV.int .i64) l))] (.slc (List.map (PV.int .i64) r)) := by
  obtain ⟨hc, h⟩ := ite_some h
  cases h
  refine ⟨Tryz.call40, ?_⟩
  refine pure_of_awp Tryz.func40 rfl Tryz.ntmps40 (by simp) fun X w => ?_
  show AWp _ _ _ ⟨[(0, .p (.slc (List.map (PV.int .i64) l)))], []⟩
  refine awp_seq ?_
  refine awp_region ?_
  refine AL_upto (by exact rfl) (by simp only [go_sem, seval]; exact rfl) ?_
  refine AL_nil ?_
  refine thenA_n ?_
  refine awp_seq ?_
  refine awp_seq ?_
  refine awp_region ?_
  refine AL_take 1 (by simp only [go_sem, seval]; exact rfl) ?_
  refine AL_nileq (by simp only [go_sem, seval]; exact rfl) (by simp only [go_sem, seval]) Tryz.underlying36 rfl ?_
  intro b hb
  refine AL_nil ?_
  refine thenA_n ?_
  cases b
  · refine awp_cf (by simp only [go_sem, seval]) ?_
    refine awp_skip ?_
    refine thenA_n ?_
    refine awp_seq ?_
    refine awp_region ?_
    refine AL_upto (by exact rfl) (by simp only [go_sem, seval, hc]; exact rfl) ?_
    refine AL_nil ?_
    refine thenA_n ?_
    refine awp_ret ?_
    refine retQ_ret (by simp only [Tryz.results40]; simp only [go_sem, seval]; exact rfl) ?_
    simp only [go_sem, seval]
    all_goals ((repeat' refine And.intro ?_ ?_) <;> first | rfl | (simp; done) | (simp; rfl) | (simp [*]; done) | (simp [*]; rfl))
  · refine awp_ct (by simp only [go_sem, seval]) ?_
    have hl : l = [] := by
      cases l with
      | nil => rfl
      | cons x l => exact absurd (hb (by simp)) (by simp)
    subst hl
    refine awp_seq ?_
    refine awp_region ?_
    refine AL_upto (by exact rfl) (by simp only [go_sem, seval]; exact rfl) ?_
    refine AL_nil ?_
    refine thenA_n ?_
    refine awp_ret ?_
    refine thenA_ret ?_
    refine retQ_ret (by simp only [Tryz.results40]; simp only [go_sem, seval]; exact rfl) ?_
    simp only [go_sem, seval]
    all_goals ((repeat' refine And.intro ?_ ?_) <;> first | rfl | (simp; done) | (simp; rfl) | (simp [*]; done) | (simp [*]; rfl))
end Go.Proofs.YtdmddoljldjjeaaGreat
set_option linter.unusedVariables false
set_option linter.unusedSimpArgs false
namespace Go.Proofs.YtdmddoljldjjeaaGreat
open Go Go.Ab
set_option maxRecDepth 100000 in
set_option maxHeartbeats 4000000 in
theorem bits_Len64_con (x : Int) (r : Int) (h : bits_Len64 x = some r) : Con Tryz.prog 118 [(.int .u64 x)] (.int .i64 r) := by
  obtain ⟨hx, h⟩ := ite_some h
  have hc : x = 0 ∨ x = 1 ∨ x = 2 ∨ x = 3 ∨ x = 4 ∨ x = 5 ∨ x = 6 ∨ x = 7 ∨ x = 8 ∨ x = 9 ∨ x = 10 ∨ x = 11 ∨ x = 12 := by omega
  replace h := Option.some.inj h
  rcases hc with rfl | rfl | rfl | rfl | rfl | rfl | rfl | rfl | rfl | rfl | rfl | rfl | rfl
  all_goals
    subst h
    refine ⟨Tryz.call118, ?_⟩
    refine pure_of_awp Tryz.func118 rfl Tryz.ntmps118 (by simp) fun X w => ?_
    show AWp _ _ _ ⟨[(0, .p (.int .u64 _))], []⟩
    refine awp_seq ?_
    refine awp_region ?_
    refine AL_upto (by exact rfl) (by simp only [go_sem, seval]; exact rfl) ?_
    refine AL_nil ?_
    refine thenA_n ?_
    refine awp_seq ?_
    refine awp_seq ?_
    refine awp_region ?_
    refine AL_upto (by exact rfl) (by simp only [go_sem, seval]; exact rfl) ?_
    refine AL_nil ?_
    refine thenA_n ?_
    refine awp_cf (by simp only [go_sem, seval]; all_goals rfl) ?_
    refine awp_skip ?_
    refine thenA_n ?_
    refine awp_seq ?_
    refine awp_seq ?_
    refine awp_region ?_
    refine AL_upto (by exact rfl) (by simp only [go_sem, seval]; exact rfl) ?_
    refine AL_nil ?_
    refine thenA_n ?_
    refine awp_cf (by simp only [go_sem, seval]; all_goals rfl) ?_
    refine awp_skip ?_
    refine thenA_n ?_
    refine awp_seq ?_
    refine awp_seq ?_
    refine awp_region ?_
    refine AL_upto (by exact rfl) (by simp only [go_sem, seval]; exact rfl) ?_
    refine AL_nil ?_
    refine thenA_n ?_
    refine awp_cf (by simp only [go_sem, seval]; all_goals rfl) ?_
    refine awp_skip ?_
    refine thenA_n ?_
    refine awp_seq ?_
    refine awp_region ?_
    refine AL_upto (by exact rfl) (by exact rfl) ?_
    refine AL_nil ?_
    refine thenA_n ?_
    refine awp_ret ?_
    exact retQ_ret (by exact rfl) rfl
end Go.Proofs.YtdmddoljldjjeaaGreat
set_option linter.unusedVariables false
set_option linter.unusedSimpArgs false
namespace Go.Proofs.YtdmddoljldjjeaaGreat
open Go Go.Ab
set_option maxHeartbeats 4000000 in
theorem bits_Len_con (x_1075 : Int) (r_1078 : Int) (h : bits_Len x_1075 = some r_1078) : Con Tryz.prog 75 [(.int .u64 x_1075)] (.int .i64 r_1078) := by
  refine ⟨Tryz.call75, ?_⟩
  refine pure_of_awp Tryz.func75 rfl Tryz.ntmps75 (by simp) fun X w => ?_
  show AWp _ _ _ ⟨[(0, .p (.int .u64 x_1075))], []⟩
  simp only [bits_Len] at h
  refine awp_seq ?_
  refine awp_region ?_
  refine AL_upto (by exact rfl) (by simp only [go_sem, seval]; exact rfl) ?_
  refine AL_nil ?_
  refine thenA_n ?_
  refine awp_seq ?_
  refine awp_cf (by simp only [go_sem, seval]) ?_
  refine awp_skip ?_
  refine thenA_n ?_
  refine awp_seq ?_
  refine awp_region ?_
  refine AL_upto (by exact rfl) (by simp only [go_sem, seval]; exact rfl) ?_
  obtain ⟨r_1076, hr_1077, h⟩ := Option.bind_eq_some_iff.1 h
  refine AL_con' rfl (guard_none rfl) rfl (by simp only [go_sem, seval]; exact rfl) (by simp only [go_sem, seval]; all_goals ((repeat' refine And.intro ?_ ?_) <;> first | rfl | (simp; done) | (simp; rfl) | (simp [*]; done) | (simp [*]; rfl))) (bits_Len64_con x_1075 _ hr_1077) (.inr rfl) rfl ?_
  refine AL_upto (by exact rfl) (by simp only [go_sem, seval]; exact rfl) ?_
  refine AL_nil ?_
  refine thenA_n ?_
  refine awp_ret ?_
  cases h
  refine retQ_ret (by simp only [Tryz.results75]; simp only [go_sem, seval]; exact rfl) ?_
  simp only [go_sem, seval]
  all_goals ((repeat' refine And.intro ?_ ?_) <;> first | rfl | (simp; done) | (simp; rfl) | (simp [*]; done) | (simp [*]; rfl))
end Go.Proofs.YtdmddoljldjjeaaGreat
set_option linter.unusedVariables false
set_option linter.unusedSimpArgs false
namespace Go.Proofs.YtdmddoljldjjeaaGreat
open Go Go.Ab
set_option maxHeartbeats 4000000 in
theorem survivor_Table_con (t_1304 : Table) (clusters_1305 : List (List Int)) (rules_1306 : List Int) (r_2071 : Merged × Int) (h : survivor_Table t_1304 clusters_1305 rules_1306 = some r_2071) : Con Tryz.prog 10 [(encTable t_1304), (.slc (List.map (encL (PV.int .i64)) clusters_1305)), (.slc (List.map (PV.int .i64) rules_1306))] (.tup [(encMerged r_2071.1), (.int .i64 r_2071.2)]) := by
  refine ⟨Tryz.call10, ?_⟩
  refine pure_of_awp Tryz.func10 rfl Tryz.ntmps10 (by simp) fun X w => ?_
  show AWp _ _ _ ⟨[(0, .p (encTable t_1304)), (1, .p (.slc (List.map (encL (PV.int .i64)) clusters_1305))), (2, .p (.slc (List.map (PV.int .i64) rules_1306)))], []⟩
  simp only [survivor_Table] at h
  refine awp_seq ?_
  refine awp_region ?_
  refine AL_upto (by exact rfl) (by simp only [go_sem, seval]; exact rfl) ?_
  refine AL_nil ?_
  refine thenA_n ?_
  refine awp_seq ?_
  refine awp_seq ?_
  refine awp_region ?_
  refine AL_upto (by exact rfl) (by simp only [go_sem, seval]; exact rfl) ?_
  obtain ⟨r_1309, hr_1310, h⟩ := Option.bind_eq_some_iff.1 h
  refine AL_con' rfl (guard_none rfl) rfl (by simp only [go_sem, seval]; exact rfl) (by simp only [go_sem, seval]; all_goals ((repeat' refine And.intro ?_ ?_) <;> first | rfl | (simp; done) | (simp; rfl) | (simp [*]; done) | (simp [*]; rfl))) (table_Valid_con t_1304 _ hr_1310) (.inr rfl) rfl ?_
  refine AL_upto (by exact rfl) (by simp only [go_sem, seval]; exact rfl) ?_
  refine AL_nil ?_
  refine thenA_n ?_
  refine awp_seq ?_
  refine awp_region ?_
  refine AL_upto (by exact rfl) (by simp only [go_sem, seval]; exact rfl) ?_
  refine AL_nil ?_
  refine thenA_n ?_
  by_cases hb_1311 : (r_1309 != 0) = true
  · rw [if_pos hb_1311] at h
    refine awp_ct (by simp only [go_sem, seval, hb_1311]) ?_
    refine awp_seq ?_
    refine awp_region ?_
    refine AL_upto (by exact rfl) (by simp only [go_sem, seval, hb_1311]; exact rfl) ?_
    refine AL_nil ?_
    refine thenA_n ?_
    refine awp_ret ?_
    refine thenA_ret ?_
    cases h
    refine retQ_ret (by simp only [Tryz.results10]; simp only [go_sem, seval, hb_1311]; exact rfl) ?_
    simp only [go_sem, seval, hb_1311]
    all_goals ((repeat' refine And.intro ?_ ?_) <;> first | rfl | (simp; done) | (simp; rfl) | (simp [*]; done) | (simp [*]; rfl))
  · rw [if_neg hb_1311] at h
    have hb_1311F := Bool.eq_false_iff.2 hb_1311
    refine awp_cf (by simp only [go_sem, seval, hb_1311F]) ?_
    refine awp_skip ?_
    refine thenA_n ?_
    refine awp_seq ?_
    refine awp_seq ?_
    refine awp_region ?_
    refine AL_upto (by exact rfl) (by simp only [go_sem, seval, hb_1311F]; exact rfl) ?_
    refine AL_nil ?_
    refine thenA_n ?_
    by_cases hb_1312 : ((rules_1306.length : Int) != (t_1304.Attrs.length : Int)) = true
    · rw [if_pos hb_1312] at h
      refine awp_ct (by simp only [go_sem, seval, hb_1311F, hb_1312]) ?_
      refine awp_seq ?_
      refine awp_region ?_
      refine AL_upto (by exact rfl) (by simp only [go_sem, seval, hb_1311F, hb_1312]; exact rfl) ?_
      refine AL_nil ?_
      refine thenA_n ?_
      refine awp_ret ?_
      refine thenA_ret ?_
      cases h
      refine retQ_ret (by simp only [Tryz.results10]; simp only [go_sem, seval, hb_1311F, hb_1312]; exact rfl) ?_
      simp only [go_sem, seval, hb_1311F, hb_1312]
      all_goals ((repeat' refine And.intro ?_ ?_) <;> first | rfl | (simp; done) | (simp; rfl) | (simp [*]; done) | (simp [*]; rfl))
    · rw [if_neg hb_1312] at h
      have hb_1312F := Bool.eq_false_iff.2 hb_1312
      refine awp_cf (by simp only [go_sem, seval, hb_1311F, hb_1312F]) ?_
      refine awp_skip ?_
      refine thenA_n ?_
      refine awp_seq ?_
      refine awp_seq ?_
      refine awp_region ?_
      refine AL_upto (by exact rfl) (by simp only [go_sem, seval, hb_1311F, hb_1312F]; exact rfl) ?_
      obtain ⟨r_1314, hr_1315, h⟩ := Option.bind_eq_some_iff.1 h
      refine AL_con' rfl (guard_none rfl) rfl (by simp only [go_sem, seval, hb_1311F, hb_1312F]; exact rfl) (by simp only [go_sem, seval, hb_1311F, hb_1312F]; all_goals ((repeat' refine And.intro ?_ ?_) <;> first | rfl | (simp; done) | (simp; rfl) | (simp [*]; done) | (simp [*]; rfl))) (slices_ContainsFunc_int_con rules_1306 (fun (y_1313 : Int) => survivor_Table_1 y_1313) 32 [] (fun y_1313 r h => survivor_Table_1_con y_1313 r h) _ hr_1315) (.inr rfl) rfl ?_
      refine AL_upto (by exact rfl) (by simp only [go_sem, seval, hb_1311F, hb_1312F]; exact rfl) ?_
      by_cases hb_1316 : r_1314 = true
      · rw [if_pos hb_1316] at h
        refine AL_known (d := 31) (v := .p (.bool true)) (by simp only [go_sem, seval, hb_1311F, hb_1312F, hb_1316]) ?_
        refine AL_skips (by exact rfl) ?_
        refine AL_upto (by exact rfl) (by simp only [go_sem, seval, hb_1311F, hb_1312F, hb_1316]; exact rfl) ?_
        refine AL_nil ?_
        refine thenA_n ?_
        refine awp_ct (by simp only [go_sem, seval, hb_1311F, hb_1312F, hb_1316]) ?_
        refine awp_seq ?_
        refine awp_region ?_
        refine AL_upto (by exact rfl) (by simp only [go_sem, seval, hb_1311F, hb_1312F, hb_1316]; exact rfl) ?_
        refine AL_nil ?_
        refine thenA_n ?_
        refine awp_ret ?_
        refine thenA_ret ?_
        cases h
        refine retQ_ret (by simp only [Tryz.results10]; simp only [go_sem, seval, hb_1311F, hb_1312F, hb_1316]; exact rfl) ?_
        simp only [go_sem, seval, hb_1311F, hb_1312F, hb_1316]
        all_goals ((repeat' refine And.intro ?_ ?_) <;> first | rfl | (simp; done) | (simp; rfl) | (simp [*]; done) | (simp [*]; rfl))
      · rw [if_neg hb_1316] at h
        have hb_1316F := Bool.eq_false_iff.2 hb_1316
        refine AL_known (d := 31) (v := .p (.bool false)) (by simp only [go_sem, seval, hb_1311F, hb_1312F, hb_1316F]) ?_
        refine AL_gt' (guard_true' rfl rfl (by exact rfl) (by exact rfl)) rfl (by simp only [go_sem, seval, hb_1311F, hb_1312F, hb_1316F]; exact rfl) ?_
        refine AL_gt' (guard_true' rfl rfl (by exact rfl) (by exact rfl)) rfl (by simp only [go_sem, seval, hb_1311F, hb_1312F, hb_1316F]; exact rfl) ?_
        obtain ⟨r_1317, hr_1318, h⟩ := Option.bind_eq_some_iff.1 h
        refine AL_con' rfl (guard_true' rfl rfl (by exact rfl) (by exact rfl)) rfl (by simp only [go_sem, seval, hb_1311F, hb_1312F, hb_1316F]; exact rfl) (by simp only [go_sem, seval, hb_1311F, hb_1312F, hb_1316F]; all_goals ((repeat' refine And.intro ?_ ?_) <;> first | rfl | (simp; done) | (simp; rfl) | (simp [*]; done) | (simp [*]; rfl))) (survivor_divides_con t_1304 clusters_1305 _ hr_1318) (.inr rfl) rfl ?_
        refine AL_gt' (guard_true' rfl rfl (by exact rfl) (by exact rfl)) rfl (by simp only [go_sem, seval, hb_1311F, hb_1312F, hb_1316F]; exact rfl) ?_
        refine AL_upto (by exact rfl) (by simp only [go_sem, seval, hb_1311F, hb_1312F, hb_1316F]; exact rfl) ?_
        refine AL_nil ?_
        refine thenA_n ?_
        by_cases hb_1319 : r_1317 = true
        · rw [if_pos hb_1319] at h
          refine awp_cf (by simp only [go_sem, seval, hb_1311F, hb_1312F, hb_1316F, hb_1319]) ?_
          refine awp_skip ?_
          refine thenA_n ?_
          refine awp_seq ?_
          refine awp_region ?_
          refine AL_upto (by exact rfl) (by simp only [go_sem, seval, hb_1311F, hb_1312F, hb_1316F, hb_1319]; exact rfl) ?_
          obtain ⟨hc_1324, h⟩ := ite_some h
          refine AL_le (st' := ⟨[(2, .p (.slc (List.map (PV.int .i64) rules_1306))), (3, .loc 3 1 0 0), (6, .loc 6 1 0 0), (38, .p (.slc (List.map (encL (PV.int .i64)) clusters_1305)))], [(3, .arr 25 3 1 [.p (encTable t_1304)]), (6, .arr 31 5 1 [.agg [.p (.str []), .nils, .nils, .nils, .nils]])]⟩) (by simp only [go_sem, seval, hb_1311F, hb_1312F, hb_1316F, hb_1319, hc_1324]; all_goals ((repeat' refine And.intro ?_ ?_) <;> first | rfl | (simp; done) | (simp; rfl) | (simp [*]; done) | (simp [*]; rfl))) ?_
          refine AL_inline (avs := [.p (.slc (List.map (encL (PV.int .i64)) clusters_1305))]) 100 rfl (guard_none rfl) rfl Tryz.func11 rfl Tryz.call11 Tryz.ntmps11 (by simp) (by simp only [go_sem, seval, hb_1311F, hb_1312F, hb_1316F, hb_1319, hc_1324]; all_goals rfl) ?_
          intro inj_1325 w_1326
          refine awp_post (T := fun e s' => (e = .normal ∨ e = .ret) ∧ Le ⟨Tryz.prog, 8, 100, X, [(3, .arr 25 3 1 [.p (encTable t_1304)]), (6, .arr 31 5 1 [.agg [.p (.str []), .nils, .nils, .nils, .nils]])], inj_1325, w_1326⟩ s' ⟨[(2, .own 105 1 0 clusters_1305.length)], [(3, .arr 25 3 1 [.p (encTable t_1304)]), (6, .arr 31 5 1 [.agg [.p (.str []), .nils, .nils, .nils, .nils]]), (105, .arr 36 1 1 (List.map AV.p (List.map (encL (PV.int .i64)) clusters_1305)))]⟩) ?_ ?_
          · show AWp _ _ _ ⟨[(0, .p (.slc (List.map (encL (PV.int .i64)) clusters_1305)))], [(3, .arr 25 3 1 [.p (encTable t_1304)]), (6, .arr 31 5 1 [.agg [.p (.str []), .nils, .nils, .nils, .nils]])]⟩
            refine awp_seq ?_
            refine awp_region ?_
            refine AL_upto (by exact rfl) (by simp only [go_sem, seval, hb_1311F, hb_1312F, hb_1316F, hb_1319, hc_1324]; exact rfl) ?_
            refine AL_nil ?_
            refine thenA_n ?_
            refine awp_seq ?_
            refine awp_seq ?_
            refine awp_region ?_
            refine AL_take 1 (by simp only [go_sem, seval, hb_1311F, hb_1312F, hb_1316F, hb_1319, hc_1324]; exact rfl) ?_
            refine AL_nileq (by simp only [go_sem, seval, hb_1311F, hb_1312F, hb_1316F, hb_1319, hc_1324]; exact rfl) (by simp only [go_sem, seval, hb_1311F, hb_1312F, hb_1316F, hb_1319, hc_1324]) Tryz.underlying26 rfl ?_
            intro b hb
            refine AL_nil ?_
            refine thenA_n ?_
            cases b
            · refine awp_cf (by simp only [go_sem, seval, hb_1311F, hb_1312F, hb_1316F, hb_1319, hc_1324]) ?_
              refine awp_skip ?_
              refine thenA_n ?_
              refine awp_seq ?_
              refine awp_region ?_
              refine AL_upto (by exact rfl) (by simp only [go_sem, seval, hb_1311F, hb_1312F, hb_1316F, hb_1319, hc_1324]; exact rfl) ?_
              refine AL_nil ?_
              refine thenA_n ?_
              refine awp_ret ?_
              refine ⟨.inr rfl, ?_⟩
              simp only [go_sem, seval, hb_1311F, hb_1312F, hb_1316F, hb_1319, hc_1324]
              all_goals ((repeat' refine And.intro ?_ ?_) <;> first | rfl | (simp; done) | (simp; rfl) | (simp [*]; done) | (simp [*]; rfl))
            · refine awp_ct (by simp only [go_sem, seval, hb_1311F, hb_1312F, hb_1316F, hb_1319, hc_1324]) ?_
              have hl_1327 : clusters_1305 = [] := by
                rcases hz : clusters_1305 with _ | ⟨x, z⟩
                · rfl
                · rw [hz] at hb; exact absurd (hb (by simp)) (by simp)
              refine awp_seq ?_
              refine awp_region ?_
              refine AL_upto (by exact rfl) (by simp only [go_sem, seval, hb_1311F, hb_1312F, hb_1316F, hb_1319, hc_1324]; exact rfl) ?_
              refine AL_nil ?_
              refine thenA_n ?_
              refine awp_ret ?_
              refine thenA_ret ?_
              refine ⟨.inr rfl, ?_⟩
              simp only [go_sem, seval, hb_1311F, hb_1312F, hb_1316F, hb_1319, hc_1324, hl_1327]
              all_goals ((repeat' refine And.intro ?_ ?_) <;> first | rfl | (simp; done) | (simp; rfl) | (simp [*]; done) | (simp [*]; rfl))
          intro e s' hT
          obtain ⟨he, hle⟩ := hT
          refine Wk.to hle ?_
          refine inlQ_any he (by simp only [Tryz.results11]; simp only [go_sem, seval, hb_1311F, hb_1312F, hb_1316F, hb_1319, hc_1324]; exact rfl) ?_
          clear hle he
          refine AL_upto (by exact rfl) (by simp only [go_sem, seval, hb_1311F, hb_1312F, hb_1316F, hb_1319, hc_1324]; exact rfl) ?_
          refine AL_nil ?_
          refine thenA_n ?_
          refine awp_seq ?_
          refine awp_region ?_
          refine AL_upto (by exact rfl) (by simp only [go_sem, seval, hb_1311F, hb_1312F, hb_1316F, hb_1319, hc_1324]; exact rfl) ?_
          refine AL_le (st' := ⟨[(2, .p (.slc (List.map (PV.int .i64) rules_1306))), (3, .loc 3 1 0 0), (6, .loc 6 1 0 0), (9, .own 105 1 0 clusters_1305.length), (40, .own 105 1 0 clusters_1305.length)], [(3, .arr 25 3 1 [.p (encTable t_1304)]), (6, .arr 31 5 1 [.agg [.p (.str []), .nils, .nils, .nils, .nils]]), (105, .arr 36 1 1 (List.map AV.p (List.map (encL (PV.int .i64)) clusters_1305)))]⟩) (by simp only [go_sem, seval, hb_1311F, hb_1312F, hb_1316F, hb_1319, hc_1324]; all_goals ((repeat' refine And.intro ?_ ?_) <;> first | rfl | (simp; done) | (simp; rfl) | (simp [*]; done) | (simp [*]; rfl))) ?_
          refine AL_inline (avs := [.own 105 1 0 clusters_1305.length, .p (.func (.func 36) [])]) 376 rfl (guard_none rfl) rfl Tryz.func35 rfl Tryz.call35 Tryz.ntmps35 (by simp) (by simp only [go_sem, seval, hb_1311F, hb_1312F, hb_1316F, hb_1319, hc_1324]; all_goals rfl) ?_
          intro inj_1656 w_1657
          show AWp _ _ _ ⟨[(0, .own 105 1 0 clusters_1305.length), (1, .p (.func (.func 36) []))], [(3, .arr 25 3 1 [.p (encTable t_1304)]), (6, .arr 31 5 1 [.agg [.p (.str []), .nils, .nils, .nils, .nils]]), (105, .arr 36 1 1 (List.map AV.p (List.map (encL (PV.int .i64)) clusters_1305)))]⟩
          refine awp_seq ?_
          refine awp_region ?_
          refine AL_upto (by exact rfl) (by simp only [go_sem, seval, hb_1311F, hb_1312F, hb_1316F, hb_1319, hc_1324]; exact rfl) ?_
          refine AL_nil ?_
          refine thenA_n ?_
          refine awp_region ?_
          refine AL_upto (by exact rfl) (by simp only [go_sem, seval, hb_1311F, hb_1312F, hb_1316F, hb_1319, hc_1324]; exact rfl) ?_
          obtain ⟨r_1658, hr_1659, h⟩ := Option.bind_eq_some_iff.1 h
          refine AL_con' rfl (guard_none rfl) rfl (by simp only [go_sem, seval, hb_1311F, hb_1312F, hb_1316F, hb_1319, hc_1324]; exact rfl) (by simp only [go_sem, seval, hb_1311F, hb_1312F, hb_1316F, hb_1319, hc_1324]; all_goals ((repeat' refine And.intro ?_ ?_) <;> first | rfl | (simp; done) | (simp; rfl) | (simp [*]; done) | (simp [*]; rfl))) (bits_Len_con (IntKind.u64.wrap ((clusters_1305.length : Nat) : Int)) _ hr_1659) (.inr rfl) rfl ?_
          refine AL_upto (by exact rfl) (by simp only [go_sem, seval, hb_1311F, hb_1312F, hb_1316F, hb_1319, hc_1324]; exact rfl) ?_
          refine AL_le (st' := ⟨[(7, .own 105 1 0 clusters_1305.length), (8, .p (.int .i64 ((clusters_1305.length : Nat) : Int))), (11, .p (.int .i64 r_1658)), (12, .p (.func (.func 36) []))], [(3, .arr 25 3 1 [.p (encTable t_1304)]), (6, .arr 31 5 1 [.agg [.p (.str []), .nils, .nils, .nils, .nils]]), (105, .arr 36 1 1 (List.map AV.p (List.map (encL (PV.int .i64)) clusters_1305)))]⟩) (by simp only [go_sem, seval, hb_1311F, hb_1312F, hb_1316F, hb_1319, hc_1324]; all_goals ((repeat' refine And.intro ?_ ?_) <;> first | rfl | (simp; done) | (simp; rfl) | (simp [*]; done) | (simp [*]; rfl))) ?_
          refine AL_inline (avs := [.own 105 1 0 clusters_1305.length, .p (.int .i64 0), .p (.int .i64 ((clusters_1305.length : Nat) : Int)), .p (.int .i64 r_1658), .p (.func (.func 36) [])]) 390 rfl (guard_none rfl) rfl Tryz.func74 rfl Tryz.call74 Tryz.ntmps74 (by simp) (by simp only [go_sem, seval, hb_1311F, hb_1312F, hb_1316F, hb_1319, hc_1324]; all_goals rfl) ?_
          intro inj_1660 w_1661
          show AWp _ _ _ ⟨[(0, .own 105 1 0 clusters_1305.length), (1, .p (.int .i64 0)), (2, .p (.int .i64 ((clusters_1305.length : Nat) : Int))), (3, .p (.int .i64 r_1658)), (4, .p (.func (.func 36) []))], [(3, .arr 25 3 1 [.p (encTable t_1304)]), (6, .arr 31 5 1 [.agg [.p (.str []), .nils, .nils, .nils, .nils]]), (105, .arr 36 1 1 (List.map AV.p (List.map (encL (PV.int .i64)) clusters_1305)))]⟩
          refine awp_seq ?_
          refine awp_region ?_
          refine AL_upto (by exact rfl) (by simp only [go_sem, seval, hb_1311F, hb_1312F, hb_1316F, hb_1319, hc_1324]; exact rfl) ?_
          refine AL_nil ?_
          refine thenA_n ?_
          refine awp_seq ?_
          refine awp_region ?_
          refine AL_upto (by exact rfl) (by simp only [go_sem, seval, hb_1311F, hb_1312F, hb_1316F, hb_1319, hc_1324]; exact rfl) ?_
          refine AL_nil ?_
          refine thenA_n ?_
          refine awp_block ?_
          obtain ⟨o_1979, hL_1980, h⟩ := Option.bind_eq_some_iff.1 h
          refine awp_loop_L (fun (s : Unit) => ⟨[(0, .own 105 1 0 clusters_1305.length), (1, .p (.int .i64 0)), (2, .p (.int .i64 ((clusters_1305.length : Nat) : Int))), (3, .p (.int .i64 r_1658)), (4, .p (.func (.func 36) [])), (10, .p (.bool true)), (11, .p (.bool true))], [(3, .arr 25 3 1 [.p (encTable t_1304)]), (6, .arr 31 5 1 [.agg [.p (.str []), .nils, .nils, .nils, .nils]]), (105, .arr 36 1 1 (List.map AV.p (List.map (encL (PV.int .i64)) clusters_1305)))]⟩) (fun (o_2070 : List (List Int)) (e : Exit) (s' : St) => e = .ret ∧ Le ⟨Tryz.prog, 148, 390, X, [(3, .arr 25 3 1 [.p (encTable t_1304)]), (6, .arr 31 5 1 [.agg [.p (.str []), .nils, .nils, .nils, .nils]]), (105, .arr 36 1 1 (List.map AV.p (List.map (encL (PV.int .i64)) clusters_1305)))], inj_1660, w_1661⟩ s' ⟨[], [(3, .arr 25 3 1 [.p (encTable t_1304)]), (6, .arr 31 5 1 [.agg [.p (.str []), .nils, .nils, .nils, .nils]]), (105, .arr 36 1 1 (List.map AV.p (List.map (encL (PV.int .i64)) o_2070)))]⟩) (by intro o s hT; have hh := hT.1; cases hh) hL_1980 (by simp only [go_sem, seval, hb_1311F, hb_1312F, hb_1316F, hb_1319, hc_1324]; all_goals ((repeat' refine And.intro ?_ ?_) <;> first | rfl | (simp; done) | (simp; rfl) | (simp [*]; done) | (simp [*]; rfl))) ?_ ?_
          · clear h
            intro s x h
            simp only [survivor_Table_l18] at h
            show AWp _ _ _ ⟨[(0, .own 105 1 0 clusters_1305.length), (1, .p (.int .i64 0)), (2, .p (.int .i64 ((clusters_1305.length : Nat) : Int))), (3, .p (.int .i64 r_1658)), (4, .p (.func (.func 36) [])), (10, .p (.bool true)), (11, .p (.bool true))], [(3, .arr 25 3 1 [.p (encTable t_1304)]), (6, .arr 31 5 1 [.agg [.p (.str []), .nils, .nils, .nils, .nils]]), (105, .arr 36 1 1 (List.map AV.p (List.map (encL (PV.int .i64)) clusters_1305)))]⟩
            refine awp_block ?_
            refine awp_seq ?_
            refine awp_region ?_
            refine AL_upto (by exact rfl) (by simp only [go_sem, seval]; exact rfl) ?_
            refine AL_nil ?_
            refine thenA_n ?_
            refine awp_seq ?_
            refine awp_seq ?_
            refine awp_region ?_
            refine AL_upto (by exact rfl) (by simp only [go_sem, seval]; exact rfl) ?_
            refine AL_nil ?_
            refine thenA_n ?_
            by_cases hb_1821 : (IntKind.i64.wrap (((clusters_1305.length : Nat) : Int) - 0)) ≤ 12
            · rw [if_pos hb_1821] at h
              have hb_1821T := eq_true hb_1821
              refine awp_ct (by simp only [go_sem, seval, hb_1821T]) ?_
              refine awp_seq ?_
              refine awp_region ?_
              refine AL_upto (by exact rfl) (by simp only [go_sem, seval, hb_1821T]; exact rfl) ?_
              refine AL_le (st' := ⟨[(26, .own 105 1 0 clusters_1305.length), (27, .p (.int .i64 0)), (28, .p (.int .i64 ((clusters_1305.length : Nat) : Int))), (29, .p (.func (.func 36) []))], [(3, .arr 25 3 1 [.p (encTable t_1304)]), (6, .arr 31 5 1 [.agg [.p (.str []), .nils, .nils, .nils, .nils]]), (105, .arr 36 1 1 (List.map AV.p (List.map (encL (PV.int .i64)) clusters_1305)))]⟩) (by simp only [go_sem, seval, hb_1821T]; all_goals ((repeat' refine And.intro ?_ ?_) <;> first | rfl | (simp; done) | (simp; rfl) | (simp [*]; done) | (simp [*]; rfl))) ?_
              refine AL_inline (avs := [.own 105 1 0 clusters_1305.length, .p (.int .i64 0), .p (.int .i64 ((clusters_1305.length : Nat) : Int)), .p (.func (.func 36) [])]) 591 rfl (guard_none rfl) rfl Tryz.func109 rfl Tryz.call109 Tryz.ntmps109 (by simp) (by simp only [go_sem, seval, hb_1821T]; all_goals rfl) ?_
              intro inj_1822 w_1823
              show AWp _ _ _ ⟨[(0, .own 105 1 0 clusters_1305.length), (1, .p (.int .i64 0)), (2, .p (.int .i64 ((clusters_1305.length : Nat) : Int))), (3, .p (.func (.func 36) []))], [(3, .arr 25 3 1 [.p (encTable t_1304)]), (6, .arr 31 5 1 [.agg [.p (.str []), .nils, .nils, .nils, .nils]]), (105, .arr 36 1 1 (List.map AV.p (List.map (encL (PV.int .i64)) clusters_1305)))]⟩
              refine awp_seq ?_
              refine awp_region ?_
              refine AL_upto (by exact rfl) (by simp only [go_sem, seval, hb_1821T]; exact rfl) ?_
              refine AL_nil ?_
              refine thenA_n ?_
              refine awp_block ?_
              obtain ⟨o_1974, hL_1975, h⟩ := Option.bind_eq_some_iff.1 h
              refine awp_loop_L (fun (s : List (List Int) × Int) => ⟨[(0, .own 105 1 0 s.1.length), (1, .p (.int .i64 0)), (2, .p (.int .i64 ((clusters_1305.length : Nat) : Int))), (3, .p (.func (.func 36) [])), (8, .p (.int .i64 s.2))], [(3, .arr 25 3 1 [.p (encTable t_1304)]), (6, .arr 31 5 1 [.agg [.p (.str []), .nils, .nils, .nils, .nils]]), (105, .arr 36 1 1 (List.map AV.p (List.map (encL (PV.int .i64)) s.1)))]⟩) (fun (o_1977 : List (List Int)) (e : Exit) (s' : St) => e = (.exit 0) ∧ Le ⟨Tryz.prog, 53, 591, X, [(3, .arr 25 3 1 [.p (encTable t_1304)]), (6, .arr 31 5 1 [.agg [.p (.str []), .nils, .nils, .nils, .nils]]), (105, .arr 36 1 1 (List.map AV.p (List.map (encL (PV.int .i64)) clusters_1305)))], inj_1822, w_1823⟩ s' ⟨[], [(3, .arr 25 3 1 [.p (encTable t_1304)]), (6, .arr 31 5 1 [.agg [.p (.str []), .nils, .nils, .nils, .nils]]), (105, .arr 36 1 1 (List.map AV.p (List.map (encL (PV.int .i64)) o_1977)))]⟩) (by intro o s hT; have hh := hT.1; cases hh) hL_1975 (by simp only [go_sem, seval, hb_1821T]; all_goals ((repeat' refine And.intro ?_ ?_) <;> first | rfl | (simp; done) | (simp; rfl) | (simp [*]; done) | (simp [*]; rfl))) ?_ ?_
              · clear h
                intro s x h
                obtain ⟨data_1873, i_1874⟩ := s
                simp only [survivor_Table_l17] at h
                show AWp _ _ _ ⟨[(0, .own 105 1 0 data_1873.length), (1, .p (.int .i64 0)), (2, .p (.int .i64 ((clusters_1305.length : Nat) : Int))), (3, .p (.func (.func 36) [])), (8, .p (.int .i64 i_1874))], [(3, .arr 25 3 1 [.p (encTable t_1304)]), (6, .arr 31 5 1 [.agg [.p (.str []), .nils, .nils, .nils, .nils]]), (105, .arr 36 1 1 (List.map AV.p (List.map (encL (PV.int .i64)) data_1873)))]⟩
                refine awp_seq ?_
                refine awp_seq ?_
                refine awp_region ?_
                refine AL_upto (by exact rfl) (by simp only [go_sem, seval]; exact rfl) ?_
                refine AL_nil ?_
                refine thenA_n ?_
                by_cases hb_1925 : i_1874 < ((clusters_1305.length : Nat) : Int)
                · rw [if_pos hb_1925] at h
                  have hb_1925T := eq_true hb_1925
                  refine awp_ct (by simp only [go_sem, seval, hb_1925T]) ?_
                  refine awp_skip ?_
                  refine thenA_n ?_
                  refine awp_seq ?_
                  refine awp_block ?_
                  refine awp_seq ?_
                  refine awp_region ?_
                  refine AL_upto (by exact rfl) (by simp only [go_sem, seval, hb_1925T]; exact rfl) ?_
                  refine AL_nil ?_
                  refine thenA_n ?_
                  refine awp_block ?_
                  obtain ⟨o_1971, hL_1972, h⟩ := Option.bind_eq_some_iff.1 h
                  refine awp_loop_L (fun (s : List (List Int) × Int) => ⟨[(0, .own 105 1 0 s.1.length), (1, .p (.int .i64 0)), (2, .p (.int .i64 ((clusters_1305.length : Nat) : Int))), (3, .p (.func (.func 36) [])), (8, .p (.int .i64 i_1874)), (9, .p (.int .i64 s.2))], [(3, .arr 25 3 1 [.p (encTable t_1304)]), (6, .arr 31 5 1 [.agg [.p (.str []), .nils, .nils, .nils, .nils]]), (105, .arr 36 1 1 (List.map AV.p (List.map (encL (PV.int .i64)) s.1)))]⟩) (fun (o_1973 : List (List Int)) (e : Exit) (s' : St) => e = (.exit 2) ∧ Le ⟨Tryz.prog, 53, 591, X, [(3, .arr 25 3 1 [.p (encTable t_1304)]), (6, .arr 31 5 1 [.agg [.p (.str []), .nils, .nils, .nils, .nils]]), (105, .arr 36 1 1 (List.map AV.p (List.map (encL (PV.int .i64)) clusters_1305)))], inj_1822, w_1823⟩ s' ⟨[(0, .own 105 1 0 o_1973.length), (1, .p (.int .i64 0)), (2, .p (.int .i64 ((clusters_1305.length : Nat) : Int))), (3, .p (.func (.func 36) [])), (8, .p (.int .i64 i_1874))], [(3, .arr 25 3 1 [.p (encTable t_1304)]), (6, .arr 31 5 1 [.agg [.p (.str []), .nils, .nils, .nils, .nils]]), (105, .arr 36 1 1 (List.map AV.p (List.map (encL (PV.int .i64)) o_1973)))]⟩) (by intro o s hT; have hh := hT.1; cases hh) hL_1972 (by simp only [go_sem, seval, hb_1925T]; all_goals ((repeat' refine And.intro ?_ ?_) <;> first | rfl | (simp; done) | (simp; rfl) | (simp [*]; done) | (simp [*]; rfl))) ?_ ?_
                  · clear h
                    intro s x h
                    obtain ⟨data_1940, j_1941⟩ := s
                    simp only [survivor_Table_l16] at h
                    show AWp _ _ _ ⟨[(0, .own 105 1 0 data_1940.length), (1, .p (.int .i64 0)), (2, .p (.int .i64 ((clusters_1305.length : Nat) : Int))), (3, .p (.func (.func 36) [])), (8, .p (.int .i64 i_1874)), (9, .p (.int .i64 j_1941))], [(3, .arr 25 3 1 [.p (encTable t_1304)]), (6, .arr 31 5 1 [.agg [.p (.str []), .nils, .nils, .nils, .nils]]), (105, .arr 36 1 1 (List.map AV.p (List.map (encL (PV.int .i64)) data_1940)))]⟩
                    refine awp_seq ?_
                    refine awp_seq ?_
                    refine awp_drawn_walk mixed (by decide) ?_
                    refine DGo.upto (by exact rfl) (by simp only [go_sem, seval]; first | exact ⟨rfl, rfl⟩ | exact rfl) ?_
                    by_cases hb_1957 : j_1941 > 0
                    · rw [if_pos hb_1957] at h
                      have hb_1957T := eq_true hb_1957
                      refine DGo.known' (d := 21) (v := .p (.bool true)) (by simp only [go_sem, seval, hb_1957T]) ?_
                      refine DGo.gt' (guard_true' rfl rfl (by exact rfl) (by exact rfl)) rfl (by simp only [go_sem, seval, hb_1957T]; first | exact ⟨rfl, rfl⟩ | exact rfl) ?_
                      refine DGo.gt' (guard_true' rfl rfl (by exact rfl) (by exact rfl)) rfl (by simp only [go_sem, seval, hb_1957T]; first | exact ⟨rfl, rfl⟩ | exact rfl) ?_
                      refine DGo.gt' (guard_true' rfl rfl (by exact rfl) (by exact rfl)) rfl (by simp only [go_sem, seval, hb_1957T]; first | exact ⟨rfl, rfl⟩ | exact rfl) ?_
                      obtain ⟨x_1960, hx_1961, h⟩ := Option.bind_eq_some_iff.1 h
                      obtain ⟨hx_1961a, hx_1961, hx_1961b⟩ := idx_some hx_1961
                      have hx_1961A := eq_true hx_1961a
                      have hx_1961B := eq_true hx_1961b
                      refine DGo.gt' (guard_true' rfl rfl (by exact rfl) (by exact rfl)) rfl (by simp only [go_sem, seval, hb_1957T, hx_1961, hx_1961A, hx_1961B]; first | exact ⟨rfl, rfl⟩ | exact rfl) ?_
                      refine DGo.gt' (guard_true' rfl rfl (by exact rfl) (by exact rfl)) rfl (by simp only [go_sem, seval, hb_1957T, hx_1961, hx_1961A, hx_1961B]; first | exact ⟨rfl, rfl⟩ | exact rfl) ?_
                      refine DGo.gt' (guard_true' rfl rfl (by exact rfl) (by exact rfl)) rfl (by simp only [go_sem, seval, hb_1957T]; first | exact ⟨rfl, rfl⟩ | exact rfl) ?_
                      refine DGo.gt' (guard_true' rfl rfl (by exact rfl) (by exact rfl)) rfl (by simp only [go_sem, seval, hb_1957T]; first | exact ⟨rfl, rfl⟩ | exact rfl) ?_
                      refine DGo.gt' (guard_true' rfl rfl (by exact rfl) (by exact rfl)) rfl (by simp only [go_sem, seval, hb_1957T]; first | exact ⟨rfl, rfl⟩ | exact rfl) ?_
                      obtain ⟨x_1964, hx_1965, h⟩ := Option.bind_eq_some_iff.1 h
                      obtain ⟨hx_1965a, hx_1965, hx_1965b⟩ := idx_some hx_1965
                      have hx_1965A := eq_true hx_1965a
                      have hx_1965B := eq_true hx_1965b
                      refine DGo.gt' (guard_true' rfl rfl (by exact rfl) (by exact rfl)) rfl (by simp only [go_sem, seval, hb_1957T, hx_1965, hx_1965A, hx_1965B]; first | exact ⟨rfl, rfl⟩ | exact rfl) ?_
                      refine DGo.gt' (guard_true' rfl rfl (by exact rfl) (by exact rfl)) rfl (by simp only [go_sem, seval, hb_1957T, hx_1965, hx_1965A, hx_1965B]; first | exact ⟨rfl, rfl⟩ | exact rfl) ?_
                      obtain ⟨r_1966, hr_1967, h⟩ := Option.bind_eq_some_iff.1 h
                      refine DGo.con' rfl (guard_true' rfl rfl (by exact rfl) (by exact rfl)) rfl (by simp only [go_sem, seval, hb_1957T]; exact rfl) (by simp only [go_sem, seval, hb_1957T]; all_goals ((repeat' refine And.intro ?_ ?_) <;> first | rfl | (simp; done) | (simp; rfl) | (simp [*]; done) | (simp [*]; rfl))) (by simp only [go_sem, seval, hb_1957T]; exact rfl) (survivor_Table_2_con x_1960 x_1964 _ hr_1967) (.inr rfl) rfl ?_
                      refine DGo.gt' (guard_true' rfl rfl (by exact rfl) (by exact rfl)) rfl (by simp only [go_sem, seval, hb_1957T]; first | exact ⟨rfl, rfl⟩ | exact rfl) ?_
                      refine DGo.upto (by exact rfl) (by simp only [go_sem, seval, hb_1957T]; first | exact ⟨rfl, rfl⟩ | exact rfl) ?_
                      refine DGo.fin rfl ?_
                      refine thenA_n ?_
                      by_cases hb_1968 : r_1966 < 0
                      · rw [if_pos hb_1968] at h
                        have hb_1968T := eq_true hb_1968
                        refine awp_ct (by simp only [go_sem, seval, hb_1957T, hb_1968T]) ?_
                        refine awp_skip ?_
                        refine thenA_n ?_
                        refine awp_seq ?_
                        refine awp_block ?_
                        refine awp_drawn_walk mixed (by decide) ?_
                        obtain ⟨x_1969, hx_1970, h⟩ := Option.bind_eq_some_iff.1 h
                        obtain ⟨hx_1970a, hx_1970, hx_1970b⟩ := idx_some hx_1970
                        have hx_1970A := eq_true hx_1970a
                        have hx_1970B := eq_true (by simpa only [List.length_set] using hx_1970b)
                        refine DGo.upto (by exact rfl) (by simp only [go_sem, seval, hb_1957T, hb_1968T, hx_1965, hx_1965A, hx_1965B, hx_1961, hx_1961A, hx_1961B, hx_1970, hx_1970A, hx_1970B]; first | exact ⟨rfl, rfl⟩ | exact rfl) ?_
                        refine DGo.fin rfl ?_
                        refine blockA_n ?_
                        refine thenA_n ?_
                        refine awp_region ?_
                        refine AL_upto (by exact rfl) (by simp only [go_sem, seval, hb_1957T, hb_1968T]; exact rfl) ?_
                        refine AL_nil ?_
                        cases h
                        refine ⟨rfl, ?_⟩
                        simp only [go_sem, seval, hb_1957T, hb_1968T]
                        all_goals ((repeat' refine And.intro ?_ ?_) <;> first | rfl | (simp; done) | (simp; rfl) | (simp [*]; done) | (simp [*]; rfl))
                      · rw [if_neg hb_1968] at h
                        have hb_1968T := eq_false hb_1968
                        refine awp_cf (by simp only [go_sem, seval, hb_1957T, hb_1968T]) ?_
                        refine awp_exit ?_
                        refine thenA_exit ?_
                        cases h
                        refine ⟨rfl, ?_⟩
                        simp only [go_sem, seval, hb_1957T, hb_1968T]
                        all_goals ((repeat' refine And.intro ?_ ?_) <;> first | rfl | (simp; done) | (simp; rfl) | (simp [*]; done) | (simp [*]; rfl))
                    · rw [if_neg hb_1957] at h
                      have hb_1957T := eq_false hb_1957
                      refine DGo.known' (d := 21) (v := .p (.bool false)) (by simp only [go_sem, seval, hb_1957T]) ?_
                      refine DGo.skips (by exact rfl) ?_
                      refine DGo.upto (by exact rfl) (by simp only [go_sem, seval, hb_1957T]; first | exact ⟨rfl, rfl⟩ | exact rfl) ?_
                      refine DGo.fin rfl ?_
                      refine thenA_n ?_
                      refine awp_cf (by simp only [go_sem, seval, hb_1957T]) ?_
                      refine awp_exit ?_
                      refine thenA_exit ?_
                      cases h
                      refine ⟨rfl, ?_⟩
                      simp only [go_sem, seval, hb_1957T]
                      all_goals ((repeat' refine And.intro ?_ ?_) <;> first | rfl | (simp; done) | (simp; rfl) | (simp [*]; done) | (simp [*]; rfl))
                  · intro e s' hT
                    obtain ⟨data_1956, rfl⟩ : ∃ z, z = o_1971 := ⟨_, rfl⟩
                    try simp only at h
                    try simp only at hT
                    obtain ⟨rfl, hle⟩ := hT
                    refine Wk.to hle ?_
                    clear hle
                    refine blockA_here ?_
                    refine blockA_n ?_
                    refine thenA_n ?_
                    refine awp_region ?_
                    refine AL_upto (by exact rfl) (by simp only [go_sem, seval, hb_1925T]; exact rfl) ?_
                    refine AL_nil ?_
                    cases h
                    refine ⟨rfl, ?_⟩
                    simp only [go_sem, seval, hb_1925T]
                    all_goals ((repeat' refine And.intro ?_ ?_) <;> first | rfl | (simp; done) | (simp; rfl) | (simp [*]; done) | (simp [*]; rfl))
                · rw [if_neg hb_1925] at h
                  have hb_1925T := eq_false hb_1925
                  refine awp_cf (by simp only [go_sem, seval, hb_1925T]) ?_
                  refine awp_exit ?_
                  refine thenA_exit ?_
                  cases h
                  refine ⟨rfl, ?_⟩
                  simp only [go_sem, seval, hb_1925T]
                  all_goals ((repeat' refine And.intro ?_ ?_) <;> first | rfl | (simp; done) | (simp; rfl) | (simp [*]; done) | (simp [*]; rfl))
              · intro e s' hT
                obtain ⟨b_1924, rfl⟩ : ∃ z, z = o_1974 := ⟨_, rfl⟩
                try simp only at h
                try simp only at hT
                obtain ⟨rfl, hle⟩ := hT
                refine Wk.to hle ?_
                clear hle
                refine blockA_here ?_
                refine inlQ_n (by simp only [Tryz.results109]; simp only [go_sem, seval, hb_1821T]; exact rfl) ?_
                obtain ⟨hn_1976, h⟩ := ite_some h
                refine AL_le (st' := ⟨[(30, .p (.tup []))], [(3, .arr 25 3 1 [.p (encTable t_1304)]), (6, .arr 31 5 1 [.agg [.p (.str []), .nils, .nils, .nils, .nils]]), (105, .arr 36 1 1 (List.map AV.p (List.map (encL (PV.int .i64)) b_1924)))]⟩) (by simp only [go_sem, seval, hb_1821T, hn_1976]; all_goals ((repeat' refine And.intro ?_ ?_) <;> first | rfl | (simp; done) | (simp; rfl) | (simp [*]; done) | (simp [*]; rfl))) ?_
                refine AL_nil ?_
                refine thenA_n ?_
                refine awp_ret ?_
                refine thenA_ret ?_
                refine blockA_ret ?_
                cases h
                refine ⟨rfl, ?_⟩
                simp only [go_sem, seval, hb_1821T]
                all_goals ((repeat' refine And.intro ?_ ?_) <;> first | rfl | (simp; done) | (simp; rfl) | (simp [*]; done) | (simp [*]; rfl))
            · rw [if_neg hb_1821] at h
              have hb_1821T := eq_false hb_1821
              cases h
          · intro e s' hT
            obtain ⟨b_1820, rfl⟩ : ∃ z, z = o_1979 := ⟨_, rfl⟩
            try simp only at h
            try simp only at hT
            obtain ⟨rfl, hle⟩ := hT
            refine Wk.to hle ?_
            clear hle
            refine blockA_ret ?_
            refine inlQ_ret (by simp only [Tryz.results74]; simp only [go_sem, seval, hb_1311F, hb_1312F, hb_1316F, hb_1319, hc_1324]; exact rfl) ?_
            obtain ⟨hn_1981, h⟩ := ite_some h
            refine AL_le (st' := ⟨[(13, .p (.tup []))], [(3, .arr 25 3 1 [.p (encTable t_1304)]), (6, .arr 31 5 1 [.agg [.p (.str []), .nils, .nils, .nils, .nils]]), (105, .arr 36 1 1 (List.map AV.p (List.map (encL (PV.int .i64)) b_1820)))]⟩) (by simp only [go_sem, seval, hb_1311F, hb_1312F, hb_1316F, hb_1319, hc_1324, hn_1981]; all_goals ((repeat' refine And.intro ?_ ?_) <;> first | rfl | (simp; done) | (simp; rfl) | (simp [*]; done) | (simp [*]; rfl))) ?_
            refine AL_nil ?_
            refine inlQ_n (by simp only [Tryz.results35]; simp only [go_sem, seval, hb_1311F, hb_1312F, hb_1316F, hb_1319, hc_1324]; exact rfl) ?_
            obtain ⟨hn_1982, h⟩ := ite_some h
            refine AL_le (st' := ⟨[(2, .p (.slc (List.map (PV.int .i64) rules_1306))), (3, .loc 3 1 0 0), (6, .loc 6 1 0 0), (9, .own 105 1 0 b_1820.length), (41, .p (.tup []))], [(3, .arr 25 3 1 [.p (encTable t_1304)]), (6, .arr 31 5 1 [.agg [.p (.str []), .nils, .nils, .nils, .nils]]), (105, .arr 36 1 1 (List.map AV.p (List.map (encL (PV.int .i64)) b_1820)))]⟩) (by simp only [go_sem, seval, hb_1311F, hb_1312F, hb_1316F, hb_1319, hc_1324, hn_1982]; all_goals ((repeat' refine And.intro ?_ ?_) <;> first | rfl | (simp; done) | (simp; rfl) | (simp [*]; done) | (simp [*]; rfl))) ?_
            refine AL_nil ?_
            refine thenA_n ?_
            refine awp_seq ?_
            refine awp_drawn_walk mixed (by decide) ?_
            refine DGo.upto (by exact rfl) (by simp only [go_sem, seval, hb_1311F, hb_1312F, hb_1316F, hb_1319, hc_1324]; first | exact ⟨rfl, rfl⟩ | exact rfl) ?_
            obtain ⟨r_1985, hr_1986, h⟩ := Option.bind_eq_some_iff.1 h
            refine DGo.con' rfl (guard_none rfl) rfl (by simp only [go_sem, seval, hb_1311F, hb_1312F, hb_1316F, hb_1319, hc_1324]; exact rfl) (by simp only [go_sem, seval, hb_1311F, hb_1312F, hb_1316F, hb_1319, hc_1324]; all_goals ((repeat' refine And.intro ?_ ?_) <;> first | rfl | (simp; done) | (simp; rfl) | (simp [*]; done) | (simp [*]; rfl))) (by simp only [go_sem, seval, hb_1311F, hb_1312F, hb_1316F, hb_1319, hc_1324]; exact rfl) (slices_Clone_string_con t_1304.Attrs _ hr_1986) (by first | exact .inl rfl | exact .inl (by simp only [go_sem])) rfl ?_
            refine DGo.upto (by exact rfl) (by simp only [go_sem, seval, hb_1311F, hb_1312F, hb_1316F, hb_1319, hc_1324]; first | exact ⟨rfl, rfl⟩ | exact rfl) ?_
            refine DGo.fin rfl ?_
            refine thenA_n ?_
            refine awp_seq ?_
            refine awp_seq ?_
            refine awp_region ?_
            refine AL_upto (by exact rfl) (by simp only [go_sem, seval, hb_1311F, hb_1312F, hb_1316F, hb_1319, hc_1324]; exact rfl) ?_
            refine AL_nil ?_
            refine thenA_n ?_
            refine awp_block ?_
            obtain ⟨o_2065, hL_2066, h⟩ := Option.bind_eq_some_iff.1 h
            refine awp_loop_L (fun (s : List Row × List (List Int) × List (List Int) × Int) => ⟨[(2, .p (.slc (List.map (PV.int .i64) rules_1306))), (3, .loc 3 1 0 0), (6, .loc 6 1 0 0), (10, .loc 10 1 0 0), (49, .own 105 1 0 b_1820.length), (50, .p (.int .i64 ((b_1820.length : Nat) : Int))), (51, .p (.int .i64 s.2.2.2))], [(3, .arr 25 3 1 [.p (encTable t_1304)]), (6, .arr 31 5 1 [.agg [.p (.str []), .nils, .nils, .nils, .nils]]), (10, .arr 31 5 1 [.agg [.p (.str t_1304.Name), .p (.slc (List.map PV.str r_1985)), .own 74 1 0 s.1.length, .own 82 1 0 s.2.1.length, .own 88 1 0 s.2.2.1.length]]), (74, .arr 56 2 1 (List.map AV.p (List.map encRow s.1))), (82, .arr 36 1 1 (List.map AV.p (List.map (encL (PV.int .i64)) s.2.1))), (88, .arr 36 1 1 (List.map AV.p (List.map (encL (PV.int .i64)) s.2.2.1))), (105, .arr 36 1 1 (List.map AV.p (List.map (encL (PV.int .i64)) b_1820)))]⟩) (fun (o : (List Row × List (List Int) × List (List Int)) ⊕ (Merged × Int)) (e : Exit) (s' : St) => match o with | .inl o_2068 => e = (.exit 0) ∧ Le ⟨Tryz.prog, Tryz.f10.ntmps, 0, X, [], fun _ => none, w⟩ s' ⟨[(6, .loc 6 1 0 0), (10, .loc 10 1 0 0)], [(6, .arr 31 5 1 [.agg [.p (.str []), .nils, .nils, .nils, .nils]]), (10, .arr 31 5 1 [.agg [.p (.str t_1304.Name), .p (.slc (List.map PV.str r_1985)), .own 74 1 0 o_2068.1.length, .own 82 1 0 o_2068.2.1.length, .own 88 1 0 o_2068.2.2.length]]), (74, .arr 56 2 1 (List.map AV.p (List.map encRow o_2068.1))), (82, .arr 36 1 1 (List.map AV.p (List.map (encL (PV.int .i64)) o_2068.2.1))), (88, .arr 36 1 1 (List.map AV.p (List.map (encL (PV.int .i64)) o_2068.2.2)))]⟩ | .inr o_2069 => e = .ret ∧ retQ Tryz.prog Tryz.f10 (.tup [(encMerged o_2069.1), (.int .i64 o_2069.2)]) .ret s') (by intro o s hT; rcases o with _ | _ <;> (have hh := hT.1; cases hh)) hL_2066 (by simp only [go_sem, seval, hb_1311F, hb_1312F, hb_1316F, hb_1319, hc_1324]; all_goals ((repeat' refine And.intro ?_ ?_) <;> first | rfl | (simp; done) | (simp; rfl) | (simp [*]; done) | (simp [*]; rfl))) ?_ ?_
            · clear h
              intro s x h
              obtain ⟨out_2010, out_2011, out_2012, t51_2013⟩ := s
              simp only [survivor_Table_l19] at h
              show AWp _ _ _ ⟨[(2, .p (.slc (List.map (PV.int .i64) rules_1306))), (3, .loc 3 1 0 0), (6, .loc 6 1 0 0), (10, .loc 10 1 0 0), (49, .own 105 1 0 b_1820.length), (50, .p (.int .i64 ((b_1820.length : Nat) : Int))), (51, .p (.int .i64 t51_2013))], [(3, .arr 25 3 1 [.p (encTable t_1304)]), (6, .arr 31 5 1 [.agg [.p (.str []), .nils, .nils, .nils, .nils]]), (10, .arr 31 5 1 [.agg [.p (.str t_1304.Name), .p (.slc (List.map PV.str r_1985)), .own 74 1 0 out_2010.length, .own 82 1 0 out_2011.length, .own 88 1 0 out_2012.length]]), (74, .arr 56 2 1 (List.map AV.p (List.map encRow out_2010))), (82, .arr 36 1 1 (List.map AV.p (List.map (encL (PV.int .i64)) out_2011))), (88, .arr 36 1 1 (List.map AV.p (List.map (encL (PV.int .i64)) out_2012))), (105, .arr 36 1 1 (List.map AV.p (List.map (encL (PV.int .i64)) b_1820)))]⟩
              refine awp_seq ?_
              refine awp_region ?_
              refine AL_upto (by exact rfl) (by simp only [go_sem, seval]; exact rfl) ?_
              refine AL_nil ?_
              refine thenA_n ?_
              refine awp_seq ?_
              by_cases hb_2042 : t51_2013 < ((b_1820.length : Nat) : Int)
              · rw [if_pos hb_2042] at h
                have hb_2042T := eq_true hb_2042
                refine awp_ct (by simp only [go_sem, seval, hb_2042T]) ?_
                refine awp_skip ?_
                refine thenA_n ?_
                refine awp_seq ?_
                refine awp_block ?_
                refine awp_seq ?_
                refine awp_region ?_
                obtain ⟨x_2045, hx_2046, h⟩ := Option.bind_eq_some_iff.1 h
                obtain ⟨hx_2046a, hx_2046, hx_2046b⟩ := idx_some hx_2046
                have hx_2046A := eq_true hx_2046a
                have hx_2046B := eq_true hx_2046b
                refine AL_upto (by exact rfl) (by simp only [go_sem, seval, hb_2042T, hx_2046, hx_2046A, hx_2046B]; exact rfl) ?_
                refine AL_nil ?_
                refine thenA_n ?_
                refine awp_seq ?_
                refine awp_region ?_
                refine AL_upto (by exact rfl) (by simp only [go_sem, seval, hb_2042T]; exact rfl) ?_
                obtain ⟨r_2051, hr_2052, h⟩ := Option.bind_eq_some_iff.1 h
                refine AL_con' rfl (guard_none rfl) rfl (by simp only [go_sem, seval, hb_2042T]; exact rfl) (by simp only [go_sem, seval, hb_2042T]; all_goals ((repeat' refine And.intro ?_ ?_) <;> first | rfl | (simp; done) | (simp; rfl) | (simp [*]; done) | (simp [*]; rfl))) (table_Keep_con t_1304 x_2045 _ hr_2052) (by first | exact .inl rfl | exact .inl (by simp only [go_sem])) rfl ?_
                refine AL_upto (by exact rfl) (by simp only [go_sem, seval, hb_2042T]; exact rfl) ?_
                obtain ⟨r_2053, hr_2054, h⟩ := Option.bind_eq_some_iff.1 h
                refine AL_con' rfl (guard_none rfl) rfl (by simp only [go_sem, seval, hb_2042T]; exact rfl) (by simp only [go_sem, seval, hb_2042T]; all_goals ((repeat' refine And.intro ?_ ?_) <;> first | rfl | (simp; done) | (simp; rfl) | (simp [*]; done) | (simp [*]; rfl))) (survivor_Merge_con r_2051.Rows rules_1306 _ hr_2054) (by first | exact .inl rfl | exact .inl (by simp only [go_sem])) rfl ?_
                refine AL_upto (by exact rfl) (by simp only [go_sem, seval, hb_2042T]; exact rfl) ?_
                refine AL_nil ?_
                refine thenA_n ?_
                refine awp_seq ?_
                refine awp_seq ?_
                refine awp_region ?_
                refine AL_upto (by exact rfl) (by simp only [go_sem, seval, hb_2042T]; exact rfl) ?_
                refine AL_nil ?_
                refine thenA_n ?_
                by_cases hb_2055 : (r_2053.2.2 != 0) = true
                · rw [if_pos hb_2055] at h
                  refine awp_ct (by simp only [go_sem, seval, hb_2042T, hb_2055]) ?_
                  refine awp_seq ?_
                  refine awp_region ?_
                  refine AL_upto (by exact rfl) (by simp only [go_sem, seval, hb_2042T, hb_2055]; exact rfl) ?_
                  refine AL_nil ?_
                  refine thenA_n ?_
                  refine awp_ret ?_
                  refine thenA_ret ?_
                  refine blockA_ret ?_
                  refine thenA_ret ?_
                  cases h
                  refine ⟨rfl, ?_⟩
                  refine retQ_ret (by simp only [Tryz.results10]; simp only [go_sem, seval, hb_2042T, hb_2055]; exact rfl) ?_
                  simp only [go_sem, seval, hb_2042T, hb_2055]
                  all_goals ((repeat' refine And.intro ?_ ?_) <;> first | rfl | (simp; done) | (simp; rfl) | (simp [*]; done) | (simp [*]; rfl))
                · rw [if_neg hb_2055] at h
                  have hb_2055F := Bool.eq_false_iff.2 hb_2055
                  refine awp_cf (by simp only [go_sem, seval, hb_2042T, hb_2055F]) ?_
                  refine awp_skip ?_
                  refine thenA_n ?_
                  refine awp_seq ?_
                  refine awp_region ?_
                  obtain ⟨hc_2057, h⟩ := ite_some h
                  refine AL_upto (by exact rfl) (by simp only [go_sem, seval, hb_2042T, hb_2055F, hc_2057]; exact rfl) ?_
                  refine AL_nil ?_
                  refine thenA_n ?_
                  refine awp_seq ?_
                  refine awp_drawn_walk mixed (by decide) ?_
                  refine DGo.upto (by exact rfl) (by simp only [go_sem, seval, hb_2042T, hb_2055F]; first | exact ⟨rfl, rfl⟩ | exact rfl) ?_
                  obtain ⟨r_2061, hr_2062, h⟩ := Option.bind_eq_some_iff.1 h
                  refine DGo.con' rfl (guard_none rfl) rfl (by simp only [go_sem, seval, hb_2042T, hb_2055F]; exact rfl) (by simp only [go_sem, seval, hb_2042T, hb_2055F]; all_goals ((repeat' refine And.intro ?_ ?_) <;> first | rfl | (simp; done) | (simp; rfl) | (simp [*]; done) | (simp [*]; rfl))) (by simp only [go_sem, seval, hb_2042T, hb_2055F]; exact rfl) (slices_Clone_int64_con x_2045 _ hr_2062) (by first | exact .inl rfl | exact .inl (by simp only [go_sem])) rfl ?_
                  obtain ⟨hc_2063, h⟩ := ite_some h
                  refine DGo.upto (by exact rfl) (by simp only [go_sem, seval, hb_2042T, hb_2055F, hc_2063]; first | exact ⟨rfl, rfl⟩ | exact rfl) ?_
                  refine DGo.fin rfl ?_
                  refine thenA_n ?_
                  refine awp_region ?_
                  obtain ⟨hc_2064, h⟩ := ite_some h
                  refine AL_upto (by exact rfl) (by simp only [go_sem, seval, hb_2042T, hb_2055F, hc_2064]; exact rfl) ?_
                  refine AL_nil ?_
                  refine blockA_n ?_
                  refine thenA_n ?_
                  refine awp_region ?_
                  refine AL_upto (by exact rfl) (by simp only [go_sem, seval, hb_2042T, hb_2055F]; exact rfl) ?_
                  refine AL_nil ?_
                  cases h
                  refine ⟨rfl, ?_⟩
                  simp only [go_sem, seval, hb_2042T, hb_2055F]
                  all_goals ((repeat' refine And.intro ?_ ?_) <;> first | rfl | (simp; done) | (simp; rfl) | (simp [*]; done) | (simp [*]; rfl))
              · rw [if_neg hb_2042] at h
                have hb_2042T := eq_false hb_2042
                refine awp_cf (by simp only [go_sem, seval, hb_2042T]) ?_
                refine awp_exit ?_
                refine thenA_exit ?_
                cases h
                refine ⟨rfl, ?_⟩
                simp only [go_sem, seval, hb_2042T]
                all_goals ((repeat' refine And.intro ?_ ?_) <;> first | rfl | (simp; done) | (simp; rfl) | (simp [*]; done) | (simp [*]; rfl))
            · intro e s' hT
              rcases o_2065 with ⟨out_2038, out_2039, out_2040⟩ | r_2067
              · try simp only at h
                try simp only at hT
                obtain ⟨rfl, hle⟩ := hT
                refine Wk.to hle ?_
                clear hle
                refine blockA_here ?_
                refine thenA_n ?_
                refine awp_seq ?_
                refine awp_region ?_
                refine AL_upto (by exact rfl) (by simp only [go_sem, seval, hb_1311F, hb_1312F, hb_1316F, hb_1319, hc_1324]; exact rfl) ?_
                refine AL_nil ?_
                refine thenA_n ?_
                refine awp_ret ?_
                cases h
                refine retQ_ret (by simp only [Tryz.results10]; simp only [go_sem, seval, hb_1311F, hb_1312F, hb_1316F, hb_1319, hc_1324]; exact rfl) ?_
                simp only [go_sem, seval, hb_1311F, hb_1312F, hb_1316F, hb_1319, hc_1324]
                all_goals ((repeat' refine And.intro ?_ ?_) <;> first | rfl | (simp; done) | (simp; rfl) | (simp [*]; done) | (simp [*]; rfl))
              · try simp only at h
                try simp only at hT
                obtain ⟨rfl, hq⟩ := hT
                refine Wk.now ?_
                refine blockA_ret ?_
                refine thenA_ret ?_
                cases h
                exact hq
        · rw [if_neg hb_1319] at h
          have hb_1319F := Bool.eq_false_iff.2 hb_1319
          refine awp_ct (by simp only [go_sem, seval, hb_1311F, hb_1312F, hb_1316F, hb_1319F]) ?_
          refine awp_seq ?_
          refine awp_region ?_
          refine AL_upto (by exact rfl) (by simp only [go_sem, seval, hb_1311F, hb_1312F, hb_1316F, hb_1319F]; exact rfl) ?_
          refine AL_nil ?_
          refine thenA_n ?_
          refine awp_ret ?_
          refine thenA_ret ?_
          cases h
          refine retQ_ret (by simp only [Tryz.results10]; simp only [go_sem, seval, hb_1311F, hb_1312F, hb_1316F, hb_1319F]; exact rfl) ?_
          simp only [go_sem, seval, hb_1311F, hb_1312F, hb_1316F, hb_1319F]
          all_goals ((repeat' refine And.intro ?_ ?_) <;> first | rfl | (simp; done) | (simp; rfl) | (simp [*]; done) | (simp [*]; rfl))
end Go.Proofs.YtdmddoljldjjeaaGreat
set_option linter.unusedVariables false
set_option linter.unusedSimpArgs false
namespace Go.Proofs.YtdmddoljldjjeaaGreat
open Go Go.Ab
set_option maxHeartbeats 4000000 in
theorem slices_Equal_Value_con (s1_3690 : List Value) (s2_3691 : List Value) (r_3720 : Bool) (h : slices_Equal_Value s1_3690 s2_3691 = some r_3720) : Con Tryz.prog 87 [(.slc (List.map encValue s1_3690)), (.slc (List.map encValue s2_3691))] (.bool r_3720) := by
  refine ⟨Tryz.call87, ?_⟩
  refine pure_of_awp Tryz.func87 rfl Tryz.ntmps87 (by simp) fun X w => ?_
  show AWp _ _ _ ⟨[(0, .p (.slc (List.map encValue s1_3690))), (1, .p (.slc (List.map encValue s2_3691)))], []⟩
  simp only [slices_Equal_Value] at h
  refine awp_seq ?_
  refine awp_region ?_
  refine AL_upto (by exact rfl) (by simp only [go_sem, seval]; exact rfl) ?_
  refine AL_nil ?_
  refine thenA_n ?_
  refine awp_seq ?_
  refine awp_seq ?_
  refine awp_region ?_
  refine AL_upto (by exact rfl) (by simp only [go_sem, seval]; exact rfl) ?_
  refine AL_nil ?_
  refine thenA_n ?_
  by_cases hb_3692 : ((s1_3690.length : Int) != (s2_3691.length : Int)) = true
  · rw [if_pos hb_3692] at h
    refine awp_ct (by simp only [go_sem, seval, hb_3692]) ?_
    refine awp_seq ?_
    refine awp_region ?_
    refine AL_upto (by exact rfl) (by simp only [go_sem, seval, hb_3692]; exact rfl) ?_
    refine AL_nil ?_
    refine thenA_n ?_
    refine awp_ret ?_
    refine thenA_ret ?_
    cases h
    refine retQ_ret (by simp only [Tryz.results87]; simp only [go_sem, seval, hb_3692]; exact rfl) ?_
    simp only [go_sem, seval, hb_3692]
    all_goals ((repeat' refine And.intro ?_ ?_) <;> first | rfl | (simp; done) | (simp; rfl) | (simp [*]; done) | (simp [*]; rfl))
  · rw [if_neg hb_3692] at h
    have hb_3692F := Bool.eq_false_iff.2 hb_3692
    refine awp_cf (by simp only [go_sem, seval, hb_3692F]) ?_
    refine awp_skip ?_
    refine thenA_n ?_
    refine awp_seq ?_
    refine awp_seq ?_
    refine awp_region ?_
    refine AL_upto (by exact rfl) (by simp only [go_sem, seval, hb_3692F]; exact rfl) ?_
    refine AL_nil ?_
    refine thenA_n ?_
    refine awp_block ?_
    obtain ⟨o_3715, hL_3716, h⟩ := Option.bind_eq_some_iff.1 h
    refine awp_loop_L (fun (s : Int) => ⟨[(0, .p (.slc (List.map encValue s1_3690))), (1, .p (.slc (List.map encValue s2_3691))), (12, .p (.int .i64 (s1_3690.length : Int))), (13, .p (.int .i64 s))], []⟩) (fun (o : (Unit) ⊕ (Bool)) (e : Exit) (s' : St) => match o with | .inl o_3718 => e = (.exit 0) ∧ Le ⟨Tryz.prog, Tryz.f87.ntmps, 0, X, [], fun _ => none, w⟩ s' ⟨[], []⟩ | .inr o_3719 => e = .ret ∧ retQ Tryz.prog Tryz.f87 (.bool o_3719) .ret s') (by intro o s hT; rcases o with _ | _ <;> (have hh := hT.1; cases hh)) hL_3716 (by simp only [go_sem, seval, hb_3692F]; all_goals ((repeat' refine And.intro ?_ ?_) <;> first | rfl | (simp; done) | (simp; rfl) | (simp [*]; done) | (simp [*]; rfl))) ?_ ?_
    · clear h
      intro t13_3700 x h
      simp only [slices_Equal_Value_l1] at h
      show AWp _ _ _ ⟨[(0, .p (.slc (List.map encValue s1_3690))), (1, .p (.slc (List.map encValue s2_3691))), (12, .p (.int .i64 (s1_3690.length : Int))), (13, .p (.int .i64 t13_3700))], []⟩
      refine awp_seq ?_
      refine awp_region ?_
      refine AL_upto (by exact rfl) (by simp only [go_sem, seval]; exact rfl) ?_
      refine AL_nil ?_
      refine thenA_n ?_
      refine awp_seq ?_
      by_cases hb_3709 : t13_3700 < (s1_3690.length : Int)
      · rw [if_pos hb_3709] at h
        have hb_3709T := eq_true hb_3709
        refine awp_ct (by simp only [go_sem, seval, hb_3709T]) ?_
        refine awp_skip ?_
        refine thenA_n ?_
        refine awp_seq ?_
        refine awp_block ?_
        refine awp_seq ?_
        refine awp_region ?_
        refine AL_upto (by exact rfl) (by simp only [go_sem, seval, hb_3709T]; exact rfl) ?_
        refine AL_nil ?_
        refine thenA_n ?_
        refine awp_seq ?_
        refine awp_drawn_walk mixed (by decide) ?_
        obtain ⟨x_3710, hx_3711, h⟩ := Option.bind_eq_some_iff.1 h
        obtain ⟨hx_3711a, hx_3711, hx_3711b⟩ := idx_some hx_3711
        have hx_3711A := eq_true hx_3711a
        have hx_3711B := eq_true hx_3711b
        obtain ⟨x_3712, hx_3713, h⟩ := Option.bind_eq_some_iff.1 h
        obtain ⟨hx_3713a, hx_3713, hx_3713b⟩ := idx_some hx_3713
        have hx_3713A := eq_true hx_3713a
        have hx_3713B := eq_true hx_3713b
        refine DGo.upto (by exact rfl) (by simp only [go_sem, seval, hb_3709T, hx_3711, hx_3711A, hx_3711B, hx_3713, hx_3713A, hx_3713B]; first | exact ⟨rfl, rfl⟩ | exact rfl) ?_
        refine DGo.fin rfl ?_
        refine thenA_n ?_
        by_cases hb_3714 : ((x_3710.Kind == x_3712.Kind) && ((x_3710.Num == x_3712.Num) && (x_3710.Str == x_3712.Str))) = true
        · rw [if_pos hb_3714] at h
          refine awp_cf (by simp only [go_sem, seval, hb_3709T, hb_3714]) ?_
          refine awp_skip ?_
          refine blockA_n ?_
          refine thenA_n ?_
          refine awp_region ?_
          refine AL_upto (by exact rfl) (by simp only [go_sem, seval, hb_3709T, hb_3714]; exact rfl) ?_
          refine AL_nil ?_
          cases h
          refine ⟨rfl, ?_⟩
          simp only [go_sem, seval, hb_3709T, hb_3714]
          all_goals ((repeat' refine And.intro ?_ ?_) <;> first | rfl | (simp; done) | (simp; rfl) | (simp [*]; done) | (simp [*]; rfl))
        · rw [if_neg hb_3714] at h
          have hb_3714F := Bool.eq_false_iff.2 hb_3714
          refine awp_ct (by simp only [go_sem, seval, hb_3709T, hb_3714F]) ?_
          refine awp_seq ?_
          refine awp_region ?_
          refine AL_upto (by exact rfl) (by simp only [go_sem, seval, hb_3709T, hb_3714F]; exact rfl) ?_
          refine AL_nil ?_
          refine thenA_n ?_
          refine awp_ret ?_
          refine blockA_ret ?_
          refine thenA_ret ?_
          cases h
          refine ⟨rfl, ?_⟩
          refine retQ_ret (by simp only [Tryz.results87]; simp only [go_sem, seval, hb_3709T, hb_3714F]; exact rfl) ?_
          simp only [go_sem, seval, hb_3709T, hb_3714F]
          all_goals ((repeat' refine And.intro ?_ ?_) <;> first | rfl | (simp; done) | (simp; rfl) | (simp [*]; done) | (simp [*]; rfl))
      · rw [if_neg hb_3709] at h
        have hb_3709T := eq_false hb_3709
        refine awp_cf (by simp only [go_sem, seval, hb_3709T]) ?_
        refine awp_exit ?_
        refine thenA_exit ?_
        cases h
        refine ⟨rfl, ?_⟩
        simp only [go_sem, seval, hb_3709T]
        all_goals ((repeat' refine And.intro ?_ ?_) <;> first | rfl | (simp; done) | (simp; rfl) | (simp [*]; done) | (simp [*]; rfl))
    · intro e s' hT
      rcases o_3715 with ⟨⟩ | r_3717
      · try simp only at h
        try simp only at hT
        obtain ⟨rfl, hle⟩ := hT
        refine Wk.to hle ?_
        clear hle
        refine blockA_here ?_
        refine thenA_n ?_
        refine awp_seq ?_
        refine awp_region ?_
        refine AL_upto (by exact rfl) (by simp only [go_sem, seval, hb_3692F]; exact rfl) ?_
        refine AL_nil ?_
        refine thenA_n ?_
        refine awp_ret ?_
        cases h
        refine retQ_ret (by simp only [Tryz.results87]; simp only [go_sem, seval, hb_3692F]; exact rfl) ?_
        simp only [go_sem, seval, hb_3692F]
        all_goals ((repeat' refine And.intro ?_ ?_) <;> first | rfl | (simp; done) | (simp; rfl) | (simp [*]; done) | (simp [*]; rfl))
      · try simp only at h
        try simp only at hT
        obtain ⟨rfl, hq⟩ := hT
        refine Wk.now ?_
        refine blockA_ret ?_
        refine thenA_ret ?_
        cases h
        exact hq
end Go.Proofs.YtdmddoljldjjeaaGreat
set_option linter.unusedVariables false
set_option linter.unusedSimpArgs false
namespace Go.Proofs.YtdmddoljldjjeaaGreat
open Go Go.Ab
set_option maxHeartbeats 4000000 in
theorem survivor_equal_1_con (x_3721 : Row) (y_3722 : Row) (r_3726 : Bool) (h : survivor_equal_1 x_3721 y_3722 = some r_3726) : Con Tryz.prog 86 [(encRow x_3721), (encRow y_3722)] (.bool r_3726) := by
  refine ⟨Tryz.call86, ?_⟩
  refine pure_of_awp Tryz.func86 rfl Tryz.ntmps86 (by simp) fun X w => ?_
  show AWp _ _ _ ⟨[(0, .p (encRow x_3721)), (1, .p (encRow y_3722))], []⟩
  simp only [survivor_equal_1] at h
  refine awp_seq ?_
  refine awp_region ?_
  refine AL_upto (by exact rfl) (by simp only [go_sem, seval]; exact rfl) ?_
  refine AL_nil ?_
  refine thenA_n ?_
  refine awp_seq ?_
  refine awp_region ?_
  refine AL_upto (by exact rfl) (by simp only [go_sem, seval]; exact rfl) ?_
  by_cases hb_3723 : (x_3721.ID == y_3722.ID) = true
  · rw [if_pos hb_3723] at h
    refine AL_known (d := 10) (v := .p (.bool true)) (by simp only [go_sem, seval, hb_3723]) ?_
    refine AL_gt' (guard_true' rfl rfl (by exact rfl) (by exact rfl)) rfl (by simp only [go_sem, seval, hb_3723]; exact rfl) ?_
    refine AL_gt' (guard_true' rfl rfl (by exact rfl) (by exact rfl)) rfl (by simp only [go_sem, seval, hb_3723]; exact rfl) ?_
    refine AL_gt' (guard_true' rfl rfl (by exact rfl) (by exact rfl)) rfl (by simp only [go_sem, seval, hb_3723]; exact rfl) ?_
    refine AL_gt' (guard_true' rfl rfl (by exact rfl) (by exact rfl)) rfl (by simp only [go_sem, seval, hb_3723]; exact rfl) ?_
    obtain ⟨r_3724, hr_3725, h⟩ := Option.bind_eq_some_iff.1 h
    refine AL_con' rfl (guard_true' rfl rfl (by exact rfl) (by exact rfl)) rfl (by simp only [go_sem, seval, hb_3723]; exact rfl) (by simp only [go_sem, seval, hb_3723]; all_goals ((repeat' refine And.intro ?_ ?_) <;> first | rfl | (simp; done) | (simp; rfl) | (simp [*]; done) | (simp [*]; rfl))) (slices_Equal_Value_con x_3721.Values y_3722.Values _ hr_3725) (.inr rfl) rfl ?_
    refine AL_upto (by exact rfl) (by simp only [go_sem, seval, hb_3723]; exact rfl) ?_
    refine AL_nil ?_
    refine thenA_n ?_
    refine awp_ret ?_
    cases h
    refine retQ_ret (by simp only [Tryz.results86]; simp only [go_sem, seval, hb_3723]; exact rfl) ?_
    simp only [go_sem, seval, hb_3723]
    all_goals ((repeat' refine And.intro ?_ ?_) <;> first | rfl | (simp; done) | (simp; rfl) | (simp [*]; done) | (simp [*]; rfl))
  · rw [if_neg hb_3723] at h
    have hb_3723F := Bool.eq_false_iff.2 hb_3723
    refine AL_known (d := 10) (v := .p (.bool false)) (by simp only [go_sem, seval, hb_3723F]) ?_
    refine AL_skips (by exact rfl) ?_
    refine AL_upto (by exact rfl) (by simp only [go_sem, seval, hb_3723F]; exact rfl) ?_
    refine AL_nil ?_
    refine thenA_n ?_
    refine awp_ret ?_
    cases h
    refine retQ_ret (by simp only [Tryz.results86]; simp only [go_sem, seval, hb_3723F]; exact rfl) ?_
    simp only [go_sem, seval, hb_3723F]
    all_goals ((repeat' refine And.intro ?_ ?_) <;> first | rfl | (simp; done) | (simp; rfl) | (simp [*]; done) | (simp [*]; rfl))
end Go.Proofs.YtdmddoljldjjeaaGreat
set_option linter.unusedVariables false
set_option linter.unusedSimpArgs false
namespace Go.Proofs.YtdmddoljldjjeaaGreat
open Go Go.Ab
set_option maxHeartbeats 4000000 in
theorem slices_Equal_string_con (s1_3727 : List (List UInt8)) (s2_3728 : List (List UInt8)) (r_3757 : Bool) (h : slices_Equal_string s1_3727 s2_3728 = some r_3757) : Con Tryz.prog 88 [(.slc (List.map PV.str s1_3727)), (.slc (List.map PV.str s2_3728))] (.bool r_3757) := by
  refine ⟨Tryz.call88, ?_⟩
  refine pure_of_awp Tryz.func88 rfl Tryz.ntmps88 (by simp) fun X w => ?_
  show AWp _ _ _ ⟨[(0, .p (.slc (List.map PV.str s1_3727))), (1, .p (.slc (List.map PV.str s2_3728)))], []⟩
  simp only [slices_Equal_string] at h
  refine awp_seq ?_
  refine awp_region ?_
  refine AL_upto (by exact rfl) (by simp only [go_sem, seval]; exact rfl) ?_
  refine AL_nil ?_
  refine thenA_n ?_
  refine awp_seq ?_
  refine awp_seq ?_
  refine awp_region ?_
  refine AL_upto (by exact rfl) (by simp only [go_sem, seval]; exact rfl) ?_
  refine AL_nil ?_
  refine thenA_n ?_
  by_cases hb_3729 : ((s1_3727.length : Int) != (s2_3728.length : Int)) = true
  · rw [if_pos hb_3729] at h
    refine awp_ct (by simp only [go_sem, seval, hb_3729]) ?_
    refine awp_seq ?_
    refine awp_region ?_
    refine AL_upto (by exact rfl) (by simp only [go_sem, seval, hb_3729]; exact rfl) ?_
    refine AL_nil ?_
    refine thenA_n ?_
    refine awp_ret ?_
    refine thenA_ret ?_
    cases h
    refine retQ_ret (by simp only [Tryz.results88]; simp only [go_sem, seval, hb_3729]; exact rfl) ?_
    simp only [go_sem, seval, hb_3729]
    all_goals ((repeat' refine And.intro ?_ ?_) <;> first | rfl | (simp; done) | (simp; rfl) | (simp [*]; done) | (simp [*]; rfl))
  · rw [if_neg hb_3729] at h
    have hb_3729F := Bool.eq_false_iff.2 hb_3729
    refine awp_cf (by simp only [go_sem, seval, hb_3729F]) ?_
    refine awp_skip ?_
    refine thenA_n ?_
    refine awp_seq ?_
    refine awp_seq ?_
    refine awp_region ?_
    refine AL_upto (by exact rfl) (by simp only [go_sem, seval, hb_3729F]; exact rfl) ?_
    refine AL_nil ?_
    refine thenA_n ?_
    refine awp_block ?_
    obtain ⟨o_3752, hL_3753, h⟩ := Option.bind_eq_some_iff.1 h
    refine awp_loop_L (fun (s : Int) => ⟨[(0, .p (.slc (List.map PV.str s1_3727))), (1, .p (.slc (List.map PV.str s2_3728))), (12, .p (.int .i64 (s1_3727.length : Int))), (13, .p (.int .i64 s))], []⟩) (fun (o : (Unit) ⊕ (Bool)) (e : Exit) (s' : St) => match o with | .inl o_3755 => e = (.exit 0) ∧ Le ⟨Tryz.prog, Tryz.f88.ntmps, 0, X, [], fun _ => none, w⟩ s' ⟨[], []⟩ | .inr o_3756 => e = .ret ∧ retQ Tryz.prog Tryz.f88 (.bool o_3756) .ret s') (by intro o s hT; rcases o with _ | _ <;> (have hh := hT.1; cases hh)) hL_3753 (by simp only [go_sem, seval, hb_3729F]; all_goals ((repeat' refine And.intro ?_ ?_) <;> first | rfl | (simp; done) | (simp; rfl) | (simp [*]; done) | (simp [*]; rfl))) ?_ ?_
    · clear h
      intro t13_3737 x h
      simp only [slices_Equal_string_l1] at h
      show AWp _ _ _ ⟨[(0, .p (.slc (List.map PV.str s1_3727))), (1, .p (.slc (List.map PV.str s2_3728))), (12, .p (.int .i64 (s1_3727.length : Int))), (13, .p (.int .i64 t13_3737))], []⟩
      refine awp_seq ?_
      refine awp_region ?_
      refine AL_upto (by exact rfl) (by simp only [go_sem, seval]; exact rfl) ?_
      refine AL_nil ?_
      refine thenA_n ?_
      refine awp_seq ?_
      by_cases hb_3746 : t13_3737 < (s1_3727.length : Int)
      · rw [if_pos hb_3746] at h
        have hb_3746T := eq_true hb_3746
        refine awp_ct (by simp only [go_sem, seval, hb_3746T]) ?_
        refine awp_skip ?_
        refine thenA_n ?_
        refine awp_seq ?_
        refine awp_block ?_
        refine awp_seq ?_
        refine awp_region ?_
        refine AL_upto (by exact rfl) (by simp only [go_sem, seval, hb_3746T]; exact rfl) ?_
        refine AL_nil ?_
        refine thenA_n ?_
        refine awp_seq ?_
        refine awp_drawn_walk mixed (by decide) ?_
        obtain ⟨x_3747, hx_3748, h⟩ := Option.bind_eq_some_iff.1 h
        obtain ⟨hx_3748a, hx_3748, hx_3748b⟩ := idx_some hx_3748
        have hx_3748A := eq_true hx_3748a
        have hx_3748B := eq_true hx_3748b
        obtain ⟨x_3749, hx_3750, h⟩ := Option.bind_eq_some_iff.1 h
        obtain ⟨hx_3750a, hx_3750, hx_3750b⟩ := idx_some hx_3750
        have hx_3750A := eq_true hx_3750a
        have hx_3750B := eq_true hx_3750b
        refine DGo.upto (by exact rfl) (by simp only [go_sem, seval, hb_3746T, hx_3748, hx_3748A, hx_3748B, hx_3750, hx_3750A, hx_3750B]; first | exact ⟨rfl, rfl⟩ | exact rfl) ?_
        refine DGo.fin rfl ?_
        refine thenA_n ?_
        by_cases hb_3751 : (x_3747 == x_3749) = true
        · rw [if_pos hb_3751] at h
          refine awp_cf (by simp only [go_sem, seval, hb_3746T, hb_3751]) ?_
          refine awp_skip ?_
          refine blockA_n ?_
          refine thenA_n ?_
          refine awp_region ?_
          refine AL_upto (by exact rfl) (by simp only [go_sem, seval, hb_3746T, hb_3751]; exact rfl) ?_
          refine AL_nil ?_
          cases h
          refine ⟨rfl, ?_⟩
          simp only [go_sem, seval, hb_3746T, hb_3751]
          all_goals ((repeat' refine And.intro ?_ ?_) <;> first | rfl | (simp; done) | (simp; rfl) | (simp [*]; done) | (simp [*]; rfl))
        · rw [if_neg hb_3751] at h
          have hb_3751F := Bool.eq_false_iff.2 hb_3751
          refine awp_ct (by simp only [go_sem, seval, hb_3746T, hb_3751F]) ?_
          refine awp_seq ?_
          refine awp_region ?_
          refine AL_upto (by exact rfl) (by simp only [go_sem, seval, hb_3746T, hb_3751F]; exact rfl) ?_
          refine AL_nil ?_
          refine thenA_n ?_
          refine awp_ret ?_
          refine blockA_ret ?_
          refine thenA_ret ?_
          cases h
          refine ⟨rfl, ?_⟩
          refine retQ_ret (by simp only [Tryz.results88]; simp only [go_sem, seval, hb_3746T, hb_3751F]; exact rfl) ?_
          simp only [go_sem, seval, hb_3746T, hb_3751F]
          all_goals ((repeat' refine And.intro ?_ ?_) <;> first | rfl | (simp; done) | (simp; rfl) | (simp [*]; done) | (simp [*]; rfl))
      · rw [if_neg hb_3746] at h
        have hb_3746T := eq_false hb_3746
        refine awp_cf (by simp only [go_sem, seval, hb_3746T]) ?_
        refine awp_exit ?_
        refine thenA_exit ?_
        cases h
        refine ⟨rfl, ?_⟩
        simp only [go_sem, seval, hb_3746T]
        all_goals ((repeat' refine And.intro ?_ ?_) <;> first | rfl | (simp; done) | (simp; rfl) | (simp [*]; done) | (simp [*]; rfl))
    · intro e s' hT
      rcases o_3752 with ⟨⟩ | r_3754
      · try simp only at h
        try simp only at hT
        obtain ⟨rfl, hle⟩ := hT
        refine Wk.to hle ?_
        clear hle
        refine blockA_here ?_
        refine thenA_n ?_
        refine awp_seq ?_
        refine awp_region ?_
        refine AL_upto (by exact rfl) (by simp only [go_sem, seval, hb_3729F]; exact rfl) ?_
        refine AL_nil ?_
        refine thenA_n ?_
        refine awp_ret ?_
        cases h
        refine retQ_ret (by simp only [Tryz.results88]; simp only [go_sem, seval, hb_3729F]; exact rfl) ?_
        simp only [go_sem, seval, hb_3729F]
        all_goals ((repeat' refine And.intro ?_ ?_) <;> first | rfl | (simp; done) | (simp; rfl) | (simp [*]; done) | (simp [*]; rfl))
      · try simp only at h
        try simp only at hT
        obtain ⟨rfl, hq⟩ := hT
        refine Wk.now ?_
        refine blockA_ret ?_
        refine thenA_ret ?_
        cases h
        exact hq
end Go.Proofs.YtdmddoljldjjeaaGreat
set_option linter.unusedVariables false
set_option linter.unusedSimpArgs false
namespace Go.Proofs.YtdmddoljldjjeaaGreat
open Go Go.Ab
set_option maxHeartbeats 4000000 in
theorem slices_EqualFunc_Row_con (s1_3758 : List Row) (s2_3759 : List Row) (eq_3760 : Row → Row → Option (Bool)) (eq_3760_k : FuncId) (eq_3760_cs : List PV) (eq_3760_h : ∀ (y_3761 : Row) (y_3762 : Row) (r_3763 : Bool), eq_3760 y_3761 y_3762 = some r_3763 → Con Tryz.prog eq_3760_k ((encRow y_3761) :: (encRow y_3762) :: eq_3760_cs) (.bool r_3763)) (r_3810 : Bool) (h : slices_EqualFunc_Row s1_3758 s2_3759 eq_3760 = some r_3810) : Con Tryz.prog 89 [(.slc (List.map encRow s1_3758)), (.slc (List.map encRow s2_3759)), .func (.func eq_3760_k) eq_3760_cs] (.bool r_3810) := by
  refine ⟨Tryz.call89, ?_⟩
  refine pure_of_awp Tryz.func89 rfl Tryz.ntmps89 (by simp) fun X w => ?_
  show AWp _ _ _ ⟨[(0, .p (.slc (List.map encRow s1_3758))), (1, .p (.slc (List.map encRow s2_3759))), (2, .p (.func (.func eq_3760_k) eq_3760_cs))], []⟩
  simp only [slices_EqualFunc_Row] at h
  refine awp_seq ?_
  refine awp_region ?_
  refine AL_upto (by exact rfl) (by simp only [go_sem, seval]; exact rfl) ?_
  refine AL_nil ?_
  refine thenA_n ?_
  refine awp_seq ?_
  refine awp_seq ?_
  refine awp_region ?_
  refine AL_upto (by exact rfl) (by simp only [go_sem, seval]; exact rfl) ?_
  refine AL_nil ?_
  refine thenA_n ?_
  by_cases hb_3764 : ((s1_3758.length : Int) != (s2_3759.length : Int)) = true
  · rw [if_pos hb_3764] at h
    refine awp_ct (by simp only [go_sem, seval, hb_3764]) ?_
    refine awp_seq ?_
    refine awp_region ?_
    refine AL_upto (by exact rfl) (by simp only [go_sem, seval, hb_3764]; exact rfl) ?_
    refine AL_nil ?_
    refine thenA_n ?_
    refine awp_ret ?_
    refine thenA_ret ?_
    cases h
    refine retQ_ret (by simp only [Tryz.results89]; simp only [go_sem, seval, hb_3764]; exact rfl) ?_
    simp only [go_sem, seval, hb_3764]
    all_goals ((repeat' refine And.intro ?_ ?_) <;> first | rfl | (simp; done) | (simp; rfl) | (simp [*]; done) | (simp [*]; rfl))
  · rw [if_neg hb_3764] at h
    have hb_3764F := Bool.eq_false_iff.2 hb_3764
    refine awp_cf (by simp only [go_sem, seval, hb_3764F]) ?_
    refine awp_skip ?_
    refine thenA_n ?_
    refine awp_seq ?_
    refine awp_seq ?_
    refine awp_region ?_
    refine AL_upto (by exact rfl) (by simp only [go_sem, seval, hb_3764F]; exact rfl) ?_
    refine AL_nil ?_
    refine thenA_n ?_
    refine awp_block ?_
    obtain ⟨o_3805, hL_3806, h⟩ := Option.bind_eq_some_iff.1 h
    refine awp_loop_L (fun (s : Int) => ⟨[(1, .p (.slc (List.map encRow s2_3759))), (2, .p (.func (.func eq_3760_k) eq_3760_cs)), (15, .p (.slc (List.map encRow s1_3758))), (16, .p (.int .i64 (s1_3758.length : Int))), (17, .p (.int .i64 s))], []⟩) (fun (o : (Unit) ⊕ (Bool)) (e : Exit) (s' : St) => match o with | .inl o_3808 => e = (.exit 0) ∧ Le ⟨Tryz.prog, Tryz.f89.ntmps, 0, X, [], fun _ => none, w⟩ s' ⟨[], []⟩ | .inr o_3809 => e = .ret ∧ retQ Tryz.prog Tryz.f89 (.bool o_3809) .ret s') (by intro o s hT; rcases o with _ | _ <;> (have hh := hT.1; cases hh)) hL_3806 (by simp only [go_sem, seval, hb_3764F]; all_goals ((repeat' refine And.intro ?_ ?_) <;> first | rfl | (simp; done) | (simp; rfl) | (simp [*]; done) | (simp [*]; rfl))) ?_ ?_
    · clear h
      intro t17_3778 x h
      simp only [slices_EqualFunc_Row_l1] at h
      show AWp _ _ _ ⟨[(1, .p (.slc (List.map encRow s2_3759))), (2, .p (.func (.func eq_3760_k) eq_3760_cs)), (15, .p (.slc (List.map encRow s1_3758))), (16, .p (.int .i64 (s1_3758.length : Int))), (17, .p (.int .i64 t17_3778))], []⟩
      refine awp_seq ?_
      refine awp_region ?_
      refine AL_upto (by exact rfl) (by simp only [go_sem, seval]; exact rfl) ?_
      refine AL_nil ?_
      refine thenA_n ?_
      refine awp_seq ?_
      by_cases hb_3793 : t17_3778 < (s1_3758.length : Int)
      · rw [if_pos hb_3793] at h
        have hb_3793T := eq_true hb_3793
        refine awp_ct (by simp only [go_sem, seval, hb_3793T]) ?_
        refine awp_skip ?_
        refine thenA_n ?_
        refine awp_seq ?_
        refine awp_block ?_
        refine awp_seq ?_
        refine awp_region ?_
        obtain ⟨x_3796, hx_3797, h⟩ := Option.bind_eq_some_iff.1 h
        obtain ⟨hx_3797a, hx_3797, hx_3797b⟩ := idx_some hx_3797
        have hx_3797A := eq_true hx_3797a
        have hx_3797B := eq_true hx_3797b
        refine AL_upto (by exact rfl) (by simp only [go_sem, seval, hb_3793T, hx_3797, hx_3797A, hx_3797B]; exact rfl) ?_
        refine AL_nil ?_
        refine thenA_n ?_
        refine awp_seq ?_
        refine awp_region ?_
        obtain ⟨x_3800, hx_3801, h⟩ := Option.bind_eq_some_iff.1 h
        obtain ⟨hx_3801a, hx_3801, hx_3801b⟩ := idx_some hx_3801
        have hx_3801A := eq_true hx_3801a
        have hx_3801B := eq_true hx_3801b
        refine AL_upto (by exact rfl) (by simp only [go_sem, seval, hb_3793T, hx_3801, hx_3801A, hx_3801B]; exact rfl) ?_
        refine AL_nil ?_
        refine thenA_n ?_
        refine awp_seq ?_
        refine awp_region ?_
        refine AL_upto (by exact rfl) (by simp only [go_sem, seval, hb_3793T]; exact rfl) ?_
        obtain ⟨r_3802, hr_3803, h⟩ := Option.bind_eq_some_iff.1 h
        refine AL_con' rfl (guard_none rfl) rfl (by simp only [go_sem, seval, hb_3793T]; exact rfl) (by simp only [go_sem, seval, hb_3793T]; all_goals ((repeat' refine And.intro ?_ ?_) <;> first | rfl | (simp; done) | (simp; rfl) | (simp [*]; done) | (simp [*]; rfl))) (eq_3760_h x_3796 x_3800 _ hr_3803) (.inr rfl) rfl ?_
        refine AL_upto (by exact rfl) (by simp only [go_sem, seval, hb_3793T]; exact rfl) ?_
        refine AL_nil ?_
        refine thenA_n ?_
        by_cases hb_3804 : r_3802 = true
        · rw [if_pos hb_3804] at h
          refine awp_cf (by simp only [go_sem, seval, hb_3793T, hb_3804]) ?_
          refine awp_skip ?_
          refine blockA_n ?_
          refine thenA_n ?_
          refine awp_region ?_
          refine AL_upto (by exact rfl) (by simp only [go_sem, seval, hb_3793T, hb_3804]; exact rfl) ?_
          refine AL_nil ?_
          cases h
          refine ⟨rfl, ?_⟩
          simp only [go_sem, seval, hb_3793T, hb_3804]
          all_goals ((repeat' refine And.intro ?_ ?_) <;> first | rfl | (simp; done) | (simp; rfl) | (simp [*]; done) | (simp [*]; rfl))
        · rw [if_neg hb_3804] at h
          have hb_3804F := Bool.eq_false_iff.2 hb_3804
          refine awp_ct (by simp only [go_sem, seval, hb_3793T, hb_3804F]) ?_
          refine awp_seq ?_
          refine awp_region ?_
          refine AL_upto (by exact rfl) (by simp only [go_sem, seval, hb_3793T, hb_3804F]; exact rfl) ?_
          refine AL_nil ?_
          refine thenA_n ?_
          refine awp_ret ?_
          refine blockA_ret ?_
          refine thenA_ret ?_
          cases h
          refine ⟨rfl, ?_⟩
          refine retQ_ret (by simp only [Tryz.results89]; simp only [go_sem, seval, hb_3793T, hb_3804F]; exact rfl) ?_
          simp only [go_sem, seval, hb_3793T, hb_3804F]
          all_goals ((repeat' refine And.intro ?_ ?_) <;> first | rfl | (simp; done) | (simp; rfl) | (simp [*]; done) | (simp [*]; rfl))
      · rw [if_neg hb_3793] at h
        have hb_3793T := eq_false hb_3793
        refine awp_cf (by simp only [go_sem, seval, hb_3793T]) ?_
        refine awp_exit ?_
        refine thenA_exit ?_
        cases h
        refine ⟨rfl, ?_⟩
        simp only [go_sem, seval, hb_3793T]
        all_goals ((repeat' refine And.intro ?_ ?_) <;> first | rfl | (simp; done) | (simp; rfl) | (simp [*]; done) | (simp [*]; rfl))
    · intro e s' hT
      rcases o_3805 with ⟨⟩ | r_3807
      · try simp only at h
        try simp only at hT
        obtain ⟨rfl, hle⟩ := hT
        refine Wk.to hle ?_
        clear hle
        refine blockA_here ?_
        refine thenA_n ?_
        refine awp_seq ?_
        refine awp_region ?_
        refine AL_upto (by exact rfl) (by simp only [go_sem, seval, hb_3764F]; exact rfl) ?_
        refine AL_nil ?_
        refine thenA_n ?_
        refine awp_ret ?_
        cases h
        refine retQ_ret (by simp only [Tryz.results89]; simp only [go_sem, seval, hb_3764F]; exact rfl) ?_
        simp only [go_sem, seval, hb_3764F]
        all_goals ((repeat' refine And.intro ?_ ?_) <;> first | rfl | (simp; done) | (simp; rfl) | (simp [*]; done) | (simp [*]; rfl))
      · try simp only at h
        try simp only at hT
        obtain ⟨rfl, hq⟩ := hT
        refine Wk.now ?_
        refine blockA_ret ?_
        refine thenA_ret ?_
        cases h
        exact hq
end Go.Proofs.YtdmddoljldjjeaaGreat
set_option linter.unusedVariables false
set_option linter.unusedSimpArgs false
namespace Go.Proofs.YtdmddoljldjjeaaGreat
open Go Go.Ab
set_option maxHeartbeats 4000000 in
theorem slices_EqualFunc_Lint64_con (s1_3811 : List (List Int)) (s2_3812 : List (List Int)) (eq_3813 : (List Int) → (List Int) → Option (Bool)) (eq_3813_k : FuncId) (eq_3813_cs : List PV) (eq_3813_h : ∀ (y_3814 : List Int) (y_3815 : List Int) (r_3816 : Bool), eq_3813 y_3814 y_3815 = some r_3816 → Con Tryz.prog eq_3813_k ((.slc (List.map (PV.int .i64) y_3814)) :: (.slc (List.map (PV.int .i64) y_3815)) :: eq_3813_cs) (.bool r_3816)) (r_3863 : Bool) (h : slices_EqualFunc_Lint64 s1_3811 s2_3812 eq_3813 = some r_3863) : Con Tryz.prog 90 [(.slc (List.map (encL (PV.int .i64)) s1_3811)), (.slc (List.map (encL (PV.int .i64)) s2_3812)), .func (.func eq_3813_k) eq_3813_cs] (.bool r_3863) := by
  refine ⟨Tryz.call90, ?_⟩
  refine pure_of_awp Tryz.func90 rfl Tryz.ntmps90 (by simp) fun X w => ?_
  show AWp _ _ _ ⟨[(0, .p (.slc (List.map (encL (PV.int .i64)) s1_3811))), (1, .p (.slc (List.map (encL (PV.int .i64)) s2_3812))), (2, .p (.func (.func eq_3813_k) eq_3813_cs))], []⟩
  simp only [slices_EqualFunc_Lint64] at h
  refine awp_seq ?_
  refine awp_region ?_
  refine AL_upto (by exact rfl) (by simp only [go_sem, seval]; exact rfl) ?_
  refine AL_nil ?_
  refine thenA_n ?_
  refine awp_seq ?_
  refine awp_seq ?_
  refine awp_region ?_
  refine AL_upto (by exact rfl) (by simp only [go_sem, seval]; exact rfl) ?_
  refine AL_nil ?_
  refine thenA_n ?_
  by_cases hb_3817 : ((s1_3811.length : Int) != (s2_3812.length : Int)) = true
  · rw [if_pos hb_3817] at h
    refine awp_ct (by simp only [go_sem, seval, hb_3817]) ?_
    refine awp_seq ?_
    refine awp_region ?_
    refine AL_upto (by exact rfl) (by simp only [go_sem, seval, hb_3817]; exact rfl) ?_
    refine AL_nil ?_
    refine thenA_n ?_
    refine awp_ret ?_
    refine thenA_ret ?_
    cases h
    refine retQ_ret (by simp only [Tryz.results90]; simp only [go_sem, seval, hb_3817]; exact rfl) ?_
    simp only [go_sem, seval, hb_3817]
    all_goals ((repeat' refine And.intro ?_ ?_) <;> first | rfl | (simp; done) | (simp; rfl) | (simp [*]; done) | (simp [*]; rfl))
  · rw [if_neg hb_3817] at h
    have hb_3817F := Bool.eq_false_iff.2 hb_3817
    refine awp_cf (by simp only [go_sem, seval, hb_3817F]) ?_
    refine awp_skip ?_
    refine thenA_n ?_
    refine awp_seq ?_
    refine awp_seq ?_
    refine awp_region ?_
    refine AL_upto (by exact rfl) (by simp only [go_sem, seval, hb_3817F]; exact rfl) ?_
    refine AL_nil ?_
    refine thenA_n ?_
    refine awp_block ?_
    obtain ⟨o_3858, hL_3859, h⟩ := Option.bind_eq_some_iff.1 h
    refine awp_loop_L (fun (s : Int) => ⟨[(1, .p (.slc (List.map (encL (PV.int .i64)) s2_3812))), (2, .p (.func (.func eq_3813_k) eq_3813_cs)), (15, .p (.slc (List.map (encL (PV.int .i64)) s1_3811))), (16, .p (.int .i64 (s1_3811.length : Int))), (17, .p (.int .i64 s))], []⟩) (fun (o : (Unit) ⊕ (Bool)) (e : Exit) (s' : St) => match o with | .inl o_3861 => e = (.exit 0) ∧ Le ⟨Tryz.prog, Tryz.f90.ntmps, 0, X, [], fun _ => none, w⟩ s' ⟨[], []⟩ | .inr o_3862 => e = .ret ∧ retQ Tryz.prog Tryz.f90 (.bool o_3862) .ret s') (by intro o s hT; rcases o with _ | _ <;> (have hh := hT.1; cases hh)) hL_3859 (by simp only [go_sem, seval, hb_3817F]; all_goals ((repeat' refine And.intro ?_ ?_) <;> first | rfl | (simp; done) | (simp; rfl) | (simp [*]; done) | (simp [*]; rfl))) ?_ ?_
    · clear h
      intro t17_3831 x h
      simp only [slices_EqualFunc_Lint64_l1] at h
      show AWp _ _ _ ⟨[(1, .p (.slc (List.map (encL (PV.int .i64)) s2_3812))), (2, .p (.func (.func eq_3813_k) eq_3813_cs)), (15, .p (.slc (List.map (encL (PV.int .i64)) s1_3811))), (16, .p (.int .i64 (s1_3811.length : Int))), (17, .p (.int .i64 t17_3831))], []⟩
      refine awp_seq ?_
      refine awp_region ?_
      refine AL_upto (by exact rfl) (by simp only [go_sem, seval]; exact rfl) ?_
      refine AL_nil ?_
      refine thenA_n ?_
      refine awp_seq ?_
      by_cases hb_3846 : t17_3831 < (s1_3811.length : Int)
      · rw [if_pos hb_3846] at h
        have hb_3846T := eq_true hb_3846
        refine awp_ct (by simp only [go_sem, seval, hb_3846T]) ?_
        refine awp_skip ?_
        refine thenA_n ?_
        refine awp_seq ?_
        refine awp_block ?_
        refine awp_seq ?_
        refine awp_region ?_
        obtain ⟨x_3849, hx_3850, h⟩ := Option.bind_eq_some_iff.1 h
        obtain ⟨hx_3850a, hx_3850, hx_3850b⟩ := idx_some hx_3850
        have hx_3850A := eq_true hx_3850a
        have hx_3850B := eq_true hx_3850b
        refine AL_upto (by exact rfl) (by simp only [go_sem, seval, hb_3846T, hx_3850, hx_3850A, hx_3850B]; exact rfl) ?_
        refine AL_nil ?_
        refine thenA_n ?_
        refine awp_seq ?_
        refine awp_region ?_
        obtain ⟨x_3853, hx_3854, h⟩ := Option.bind_eq_some_iff.1 h
        obtain ⟨hx_3854a, hx_3854, hx_3854b⟩ := idx_some hx_3854
        have hx_3854A := eq_true hx_3854a
        have hx_3854B := eq_true hx_3854b
        refine AL_upto (by exact rfl) (by simp only [go_sem, seval, hb_3846T, hx_3854, hx_3854A, hx_3854B]; exact rfl) ?_
        refine AL_nil ?_
        refine thenA_n ?_
        refine awp_seq ?_
        refine awp_region ?_
        refine AL_upto (by exact rfl) (by simp only [go_sem, seval, hb_3846T]; exact rfl) ?_
        obtain ⟨r_3855, hr_3856, h⟩ := Option.bind_eq_some_iff.1 h
        refine AL_con' rfl (guard_none rfl) rfl (by simp only [go_sem, seval, hb_3846T]; exact rfl) (by simp only [go_sem, seval, hb_3846T]; all_goals ((repeat' refine And.intro ?_ ?_) <;> first | rfl | (simp; done) | (simp; rfl) | (simp [*]; done) | (simp [*]; rfl))) (eq_3813_h x_3849 x_3853 _ hr_3856) (.inr rfl) rfl ?_
        refine AL_upto (by exact rfl) (by simp only [go_sem, seval, hb_3846T]; exact rfl) ?_
        refine AL_nil ?_
        refine thenA_n ?_
        by_cases hb_3857 : r_3855 = true
        · rw [if_pos hb_3857] at h
          refine awp_cf (by simp only [go_sem, seval, hb_3846T, hb_3857]) ?_
          refine awp_skip ?_
          refine blockA_n ?_
          refine thenA_n ?_
          refine awp_region ?_
          refine AL_upto (by exact rfl) (by simp only [go_sem, seval, hb_3846T, hb_3857]; exact rfl) ?_
          refine AL_nil ?_
          cases h
          refine ⟨rfl, ?_⟩
          simp only [go_sem, seval, hb_3846T, hb_3857]
          all_goals ((repeat' refine And.intro ?_ ?_) <;> first | rfl | (simp; done) | (simp; rfl) | (simp [*]; done) | (simp [*]; rfl))
        · rw [if_neg hb_3857] at h
          have hb_3857F := Bool.eq_false_iff.2 hb_3857
          refine awp_ct (by simp only [go_sem, seval, hb_3846T, hb_3857F]) ?_
          refine awp_seq ?_
          refine awp_region ?_
          refine AL_upto (by exact rfl) (by simp only [go_sem, seval, hb_3846T, hb_3857F]; exact rfl) ?_
          refine AL_nil ?_
          refine thenA_n ?_
          refine awp_ret ?_
          refine blockA_ret ?_
          refine thenA_ret ?_
          cases h
          refine ⟨rfl, ?_⟩
          refine retQ_ret (by simp only [Tryz.results90]; simp only [go_sem, seval, hb_3846T, hb_3857F]; exact rfl) ?_
          simp only [go_sem, seval, hb_3846T, hb_3857F]
          all_goals ((repeat' refine And.intro ?_ ?_) <;> first | rfl | (simp; done) | (simp; rfl) | (simp [*]; done) | (simp [*]; rfl))
      · rw [if_neg hb_3846] at h
        have hb_3846T := eq_false hb_3846
        refine awp_cf (by simp only [go_sem, seval, hb_3846T]) ?_
        refine awp_exit ?_
        refine thenA_exit ?_
        cases h
        refine ⟨rfl, ?_⟩
        simp only [go_sem, seval, hb_3846T]
        all_goals ((repeat' refine And.intro ?_ ?_) <;> first | rfl | (simp; done) | (simp; rfl) | (simp [*]; done) | (simp [*]; rfl))
    · intro e s' hT
      rcases o_3858 with ⟨⟩ | r_3860
      · try simp only at h
        try simp only at hT
        obtain ⟨rfl, hle⟩ := hT
        refine Wk.to hle ?_
        clear hle
        refine blockA_here ?_
        refine thenA_n ?_
        refine awp_seq ?_
        refine awp_region ?_
        refine AL_upto (by exact rfl) (by simp only [go_sem, seval, hb_3817F]; exact rfl) ?_
        refine AL_nil ?_
        refine thenA_n ?_
        refine awp_ret ?_
        cases h
        refine retQ_ret (by simp only [Tryz.results90]; simp only [go_sem, seval, hb_3817F]; exact rfl) ?_
        simp only [go_sem, seval, hb_3817F]
        all_goals ((repeat' refine And.intro ?_ ?_) <;> first | rfl | (simp; done) | (simp; rfl) | (simp [*]; done) | (simp [*]; rfl))
      · try simp only at h
        try simp only at hT
        obtain ⟨rfl, hq⟩ := hT
        refine Wk.now ?_
        refine blockA_ret ?_
        refine thenA_ret ?_
        cases h
        exact hq
end Go.Proofs.YtdmddoljldjjeaaGreat
set_option linter.unusedVariables false
set_option linter.unusedSimpArgs false
namespace Go.Proofs.YtdmddoljldjjeaaGreat
open Go Go.Ab
set_option maxHeartbeats 4000000 in
theorem slices_Equal_int64_con (s1_3864 : List Int) (s2_3865 : List Int) (r_3894 : Bool) (h : slices_Equal_int64 s1_3864 s2_3865 = some r_3894) : Con Tryz.prog 91 [(.slc (List.map (PV.int .i64) s1_3864)), (.slc (List.map (PV.int .i64) s2_3865))] (.bool r_3894) := by
  refine ⟨Tryz.call91, ?_⟩
  refine pure_of_awp Tryz.func91 rfl Tryz.ntmps91 (by simp) fun X w => ?_
  show AWp _ _ _ ⟨[(0, .p (.slc (List.map (PV.int .i64) s1_3864))), (1, .p (.slc (List.map (PV.int .i64) s2_3865)))], []⟩
  simp only [slices_Equal_int64] at h
  refine awp_seq ?_
  refine awp_region ?_
  refine AL_upto (by exact rfl) (by simp only [go_sem, seval]; exact rfl) ?_
  refine AL_nil ?_
  refine thenA_n ?_
  refine awp_seq ?_
  refine awp_seq ?_
  refine awp_region ?_
  refine AL_upto (by exact rfl) (by simp only [go_sem, seval]; exact rfl) ?_
  refine AL_nil ?_
  refine thenA_n ?_
  by_cases hb_3866 : ((s1_3864.length : Int) != (s2_3865.length : Int)) = true
  · rw [if_pos hb_3866] at h
    refine awp_ct (by simp only [go_sem, seval, hb_3866]) ?_
    refine awp_seq ?_
    refine awp_region ?_
    refine AL_upto (by exact rfl) (by simp only [go_sem, seval, hb_3866]; exact rfl) ?_
    refine AL_nil ?_
    refine thenA_n ?_
    refine awp_ret ?_
    refine thenA_ret ?_
    cases h
    refine retQ_ret (by simp only [Tryz.results91]; simp only [go_sem, seval, hb_3866]; exact rfl) ?_
    simp only [go_sem, seval, hb_3866]
    all_goals ((repeat' refine And.intro ?_ ?_) <;> first | rfl | (simp; done) | (simp; rfl) | (simp [*]; done) | (simp [*]; rfl))
  · rw [if_neg hb_3866] at h
    have hb_3866F := Bool.eq_false_iff.2 hb_3866
    refine awp_cf (by simp only [go_sem, seval, hb_3866F]) ?_
    refine awp_skip ?_
    refine thenA_n ?_
    refine awp_seq ?_
    refine awp_seq ?_
    refine awp_region ?_
    refine AL_upto (by exact rfl) (by simp only [go_sem, seval, hb_3866F]; exact rfl) ?_
    refine AL_nil ?_
    refine thenA_n ?_
    refine awp_block ?_
    obtain ⟨o_3889, hL_3890, h⟩ := Option.bind_eq_some_iff.1 h
    refine awp_loop_L (fun (s : Int) => ⟨[(0, .p (.slc (List.map (PV.int .i64) s1_3864))), (1, .p (.slc (List.map (PV.int .i64) s2_3865))), (12, .p (.int .i64 (s1_3864.length : Int))), (13, .p (.int .i64 s))], []⟩) (fun (o : (Unit) ⊕ (Bool)) (e : Exit) (s' : St) => match o with | .inl o_3892 => e = (.exit 0) ∧ Le ⟨Tryz.prog, Tryz.f91.ntmps, 0, X, [], fun _ => none, w⟩ s' ⟨[], []⟩ | .inr o_3893 => e = .ret ∧ retQ Tryz.prog Tryz.f91 (.bool o_3893) .ret s') (by intro o s hT; rcases o with _ | _ <;> (have hh := hT.1; cases hh)) hL_3890 (by simp only [go_sem, seval, hb_3866F]; all_goals ((repeat' refine And.intro ?_ ?_) <;> first | rfl | (simp; done) | (simp; rfl) | (simp [*]; done) | (simp [*]; rfl))) ?_ ?_
    · clear h
      intro t13_3874 x h
      simp only [slices_Equal_int64_l1] at h
      show AWp _ _ _ ⟨[(0, .p (.slc (List.map (PV.int .i64) s1_3864))), (1, .p (.slc (List.map (PV.int .i64) s2_3865))), (12, .p (.int .i64 (s1_3864.length : Int))), (13, .p (.int .i64 t13_3874))], []⟩
      refine awp_seq ?_
      refine awp_region ?_
      refine AL_upto (by exact rfl) (by simp only [go_sem, seval]; exact rfl) ?_
      refine AL_nil ?_
      refine thenA_n ?_
      refine awp_seq ?_
      by_cases hb_3883 : t13_3874 < (s1_3864.length : Int)
      · rw [if_pos hb_3883] at h
        have hb_3883T := eq_true hb_3883
        refine awp_ct (by simp only [go_sem, seval, hb_3883T]) ?_
        refine awp_skip ?_
        refine thenA_n ?_
        refine awp_seq ?_
        refine awp_block ?_
        refine awp_seq ?_
        refine awp_region ?_
        refine AL_upto (by exact rfl) (by simp only [go_sem, seval, hb_3883T]; exact rfl) ?_
        refine AL_nil ?_
        refine thenA_n ?_
        refine awp_seq ?_
        refine awp_drawn_walk mixed (by decide) ?_
        obtain ⟨x_3884, hx_3885, h⟩ := Option.bind_eq_some_iff.1 h
        obtain ⟨hx_3885a, hx_3885, hx_3885b⟩ := idx_some hx_3885
        have hx_3885A := eq_true hx_3885a
        have hx_3885B := eq_true hx_3885b
        obtain ⟨x_3886, hx_3887, h⟩ := Option.bind_eq_some_iff.1 h
        obtain ⟨hx_3887a, hx_3887, hx_3887b⟩ := idx_some hx_3887
        have hx_3887A := eq_true hx_3887a
        have hx_3887B := eq_true hx_3887b
        refine DGo.upto (by exact rfl) (by simp only [go_sem, seval, hb_3883T, hx_3885, hx_3885A, hx_3885B, hx_3887, hx_3887A, hx_3887B]; first | exact ⟨rfl, rfl⟩ | exact rfl) ?_
        refine DGo.fin rfl ?_
        refine thenA_n ?_
        by_cases hb_3888 : (x_3884 != x_3886) = true
        · rw [if_pos hb_3888] at h
          refine awp_ct (by simp only [go_sem, seval, hb_3883T, hb_3888]) ?_
          refine awp_seq ?_
          refine awp_region ?_
          refine AL_upto (by exact rfl) (by simp only [go_sem, seval, hb_3883T, hb_3888]; exact rfl) ?_
          refine AL_nil ?_
          refine thenA_n ?_
          refine awp_ret ?_
          refine blockA_ret ?_
          refine thenA_ret ?_
          cases h
          refine ⟨rfl, ?_⟩
          refine retQ_ret (by simp only [Tryz.results91]; simp only [go_sem, seval, hb_3883T, hb_3888]; exact rfl) ?_
          simp only [go_sem, seval, hb_3883T, hb_3888]
          all_goals ((repeat' refine And.intro ?_ ?_) <;> first | rfl | (simp; done) | (simp; rfl) | (simp [*]; done) | (simp [*]; rfl))
        · rw [if_neg hb_3888] at h
          have hb_3888F := Bool.eq_false_iff.2 hb_3888
          refine awp_cf (by simp only [go_sem, seval, hb_3883T, hb_3888F]) ?_
          refine awp_skip ?_
          refine blockA_n ?_
          refine thenA_n ?_
          refine awp_region ?_
          refine AL_upto (by exact rfl) (by simp only [go_sem, seval, hb_3883T, hb_3888F]; exact rfl) ?_
          refine AL_nil ?_
          cases h
          refine ⟨rfl, ?_⟩
          simp only [go_sem, seval, hb_3883T, hb_3888F]
          all_goals ((repeat' refine And.intro ?_ ?_) <;> first | rfl | (simp; done) | (simp; rfl) | (simp [*]; done) | (simp [*]; rfl))
      · rw [if_neg hb_3883] at h
        have hb_3883T := eq_false hb_3883
        refine awp_cf (by simp only [go_sem, seval, hb_3883T]) ?_
        refine awp_exit ?_
        refine thenA_exit ?_
        cases h
        refine ⟨rfl, ?_⟩
        simp only [go_sem, seval, hb_3883T]
        all_goals ((repeat' refine And.intro ?_ ?_) <;> first | rfl | (simp; done) | (simp; rfl) | (simp [*]; done) | (simp [*]; rfl))
    · intro e s' hT
      rcases o_3889 with ⟨⟩ | r_3891
      · try simp only at h
        try simp only at hT
        obtain ⟨rfl, hle⟩ := hT
        refine Wk.to hle ?_
        clear hle
        refine blockA_here ?_
        refine thenA_n ?_
        refine awp_seq ?_
        refine awp_region ?_
        refine AL_upto (by exact rfl) (by simp only [go_sem, seval, hb_3866F]; exact rfl) ?_
        refine AL_nil ?_
        refine thenA_n ?_
        refine awp_ret ?_
        cases h
        refine retQ_ret (by simp only [Tryz.results91]; simp only [go_sem, seval, hb_3866F]; exact rfl) ?_
        simp only [go_sem, seval, hb_3866F]
        all_goals ((repeat' refine And.intro ?_ ?_) <;> first | rfl | (simp; done) | (simp; rfl) | (simp [*]; done) | (simp [*]; rfl))
      · try simp only at h
        try simp only at hT
        obtain ⟨rfl, hq⟩ := hT
        refine Wk.now ?_
        refine blockA_ret ?_
        refine thenA_ret ?_
        cases h
        exact hq
end Go.Proofs.YtdmddoljldjjeaaGreat
set_option linter.unusedVariables false
set_option linter.unusedSimpArgs false
namespace Go.Proofs.YtdmddoljldjjeaaGreat
open Go Go.Ab
set_option maxHeartbeats 4000000 in
theorem survivor_equal_con (a_3895 : Merged) (b_3896 : Merged) (r_3915 : Bool) (h : survivor_equal a_3895 b_3896 = some r_3915) : Con Tryz.prog 48 [(encMerged a_3895), (encMerged b_3896)] (.bool r_3915) := by
  refine ⟨Tryz.call48, ?_⟩
  refine pure_of_awp Tryz.func48 rfl Tryz.ntmps48 (by simp) fun X w => ?_
  show AWp _ _ _ ⟨[(0, .p (encMerged a_3895)), (1, .p (encMerged b_3896))], []⟩
  simp only [survivor_equal] at h
  refine awp_seq ?_
  refine awp_region ?_
  refine AL_upto (by exact rfl) (by simp only [go_sem, seval]; exact rfl) ?_
  refine AL_nil ?_
  refine thenA_n ?_
  refine awp_seq ?_
  refine awp_region ?_
  refine AL_upto (by exact rfl) (by simp only [go_sem, seval]; exact rfl) ?_
  refine AL_nil ?_
  refine thenA_n ?_
  refine awp_seq ?_
  refine awp_region ?_
  refine AL_upto (by exact rfl) (by simp only [go_sem, seval]; exact rfl) ?_
  by_cases hb_3897 : (a_3895.Table.Name == b_3896.Table.Name) = true
  · rw [if_pos hb_3897] at h
    refine AL_known (d := 13) (v := .p (.bool true)) (by simp only [go_sem, seval, hb_3897]) ?_
    refine AL_gt' (guard_true' rfl rfl (by exact rfl) (by exact rfl)) rfl (by simp only [go_sem, seval, hb_3897]; exact rfl) ?_
    refine AL_gt' (guard_true' rfl rfl (by exact rfl) (by exact rfl)) rfl (by simp only [go_sem, seval, hb_3897]; exact rfl) ?_
    refine AL_gt' (guard_true' rfl rfl (by exact rfl) (by exact rfl)) rfl (by simp only [go_sem, seval, hb_3897]; exact rfl) ?_
    refine AL_gt' (guard_true' rfl rfl (by exact rfl) (by exact rfl)) rfl (by simp only [go_sem, seval, hb_3897]; exact rfl) ?_
    refine AL_gt' (guard_true' rfl rfl (by exact rfl) (by exact rfl)) rfl (by simp only [go_sem, seval, hb_3897]; exact rfl) ?_
    refine AL_gt' (guard_true' rfl rfl (by exact rfl) (by exact rfl)) rfl (by simp only [go_sem, seval, hb_3897]; exact rfl) ?_
    obtain ⟨r_3898, hr_3899, h⟩ := Option.bind_eq_some_iff.1 h
    refine AL_con' rfl (guard_true' rfl rfl (by exact rfl) (by exact rfl)) rfl (by simp only [go_sem, seval, hb_3897]; exact rfl) (by simp only [go_sem, seval, hb_3897]; all_goals ((repeat' refine And.intro ?_ ?_) <;> first | rfl | (simp; done) | (simp; rfl) | (simp [*]; done) | (simp [*]; rfl))) (slices_Equal_string_con a_3895.Table.Attrs b_3896.Table.Attrs _ hr_3899) (.inr rfl) rfl ?_
    refine AL_upto (by exact rfl) (by simp only [go_sem, seval, hb_3897]; exact rfl) ?_
    by_cases hb_3900 : r_3898 = true
    · rw [if_pos hb_3900] at h
      refine AL_known (d := 22) (v := .p (.bool true)) (by simp only [go_sem, seval, hb_3897, hb_3900]) ?_
      refine AL_gt' (guard_true' rfl rfl (by exact rfl) (by exact rfl)) rfl (by simp only [go_sem, seval, hb_3897, hb_3900]; exact rfl) ?_
      refine AL_gt' (guard_true' rfl rfl (by exact rfl) (by exact rfl)) rfl (by simp only [go_sem, seval, hb_3897, hb_3900]; exact rfl) ?_
      refine AL_gt' (guard_true' rfl rfl (by exact rfl) (by exact rfl)) rfl (by simp only [go_sem, seval, hb_3897, hb_3900]; exact rfl) ?_
      refine AL_gt' (guard_true' rfl rfl (by exact rfl) (by exact rfl)) rfl (by simp only [go_sem, seval, hb_3897, hb_3900]; exact rfl) ?_
      refine AL_gt' (guard_true' rfl rfl (by exact rfl) (by exact rfl)) rfl (by simp only [go_sem, seval, hb_3897, hb_3900]; exact rfl) ?_
      refine AL_gt' (guard_true' rfl rfl (by exact rfl) (by exact rfl)) rfl (by simp only [go_sem, seval, hb_3897, hb_3900]; exact rfl) ?_
      refine AL_gt' (guard_true' rfl rfl (by exact rfl) (by exact rfl)) rfl (by simp only [go_sem, seval, hb_3897, hb_3900]; exact rfl) ?_
      obtain ⟨r_3903, hr_3904, h⟩ := Option.bind_eq_some_iff.1 h
      refine AL_con' rfl (guard_true' rfl rfl (by exact rfl) (by exact rfl)) rfl (by simp only [go_sem, seval, hb_3897, hb_3900]; exact rfl) (by simp only [go_sem, seval, hb_3897, hb_3900]; all_goals ((repeat' refine And.intro ?_ ?_) <;> first | rfl | (simp; done) | (simp; rfl) | (simp [*]; done) | (simp [*]; rfl))) (slices_EqualFunc_Row_con a_3895.Table.Rows b_3896.Table.Rows (fun (y_3901 : Row) (y_3902 : Row) => survivor_equal_1 y_3901 y_3902) 86 [] (fun y_3901 y_3902 r h => survivor_equal_1_con y_3901 y_3902 r h) _ hr_3904) (.inr rfl) rfl ?_
      refine AL_upto (by exact rfl) (by simp only [go_sem, seval, hb_3897, hb_3900]; exact rfl) ?_
      by_cases hb_3905 : r_3903 = true
      · rw [if_pos hb_3905] at h
        refine AL_known (d := 32) (v := .p (.bool true)) (by simp only [go_sem, seval, hb_3897, hb_3900, hb_3905]) ?_
        refine AL_gt' (guard_true' rfl rfl (by exact rfl) (by exact rfl)) rfl (by simp only [go_sem, seval, hb_3897, hb_3900, hb_3905]; exact rfl) ?_
        refine AL_gt' (guard_true' rfl rfl (by exact rfl) (by exact rfl)) rfl (by simp only [go_sem, seval, hb_3897, hb_3900, hb_3905]; exact rfl) ?_
        refine AL_gt' (guard_true' rfl rfl (by exact rfl) (by exact rfl)) rfl (by simp only [go_sem, seval, hb_3897, hb_3900, hb_3905]; exact rfl) ?_
        refine AL_gt' (guard_true' rfl rfl (by exact rfl) (by exact rfl)) rfl (by simp only [go_sem, seval, hb_3897, hb_3900, hb_3905]; exact rfl) ?_
        obtain ⟨r_3908, hr_3909, h⟩ := Option.bind_eq_some_iff.1 h
        refine AL_con' rfl (guard_true' rfl rfl (by exact rfl) (by exact rfl)) rfl (by simp only [go_sem, seval, hb_3897, hb_3900, hb_3905]; exact rfl) (by simp only [go_sem, seval, hb_3897, hb_3900, hb_3905]; all_goals ((repeat' refine And.intro ?_ ?_) <;> first | rfl | (simp; done) | (simp; rfl) | (simp [*]; done) | (simp [*]; rfl))) (slices_EqualFunc_Lint64_con a_3895.Clusters b_3896.Clusters (fun (y_3906 : List Int) (y_3907 : List Int) => slices_Equal_int64 y_3906 y_3907) 91 [] (fun y_3906 y_3907 r h => slices_Equal_int64_con y_3906 y_3907 r h) _ hr_3909) (.inr rfl) rfl ?_
        refine AL_upto (by exact rfl) (by simp only [go_sem, seval, hb_3897, hb_3900, hb_3905]; exact rfl) ?_
        by_cases hb_3910 : r_3908 = true
        · rw [if_pos hb_3910] at h
          refine AL_known (d := 39) (v := .p (.bool true)) (by simp only [go_sem, seval, hb_3897, hb_3900, hb_3905, hb_3910]) ?_
          refine AL_gt' (guard_true' rfl rfl (by exact rfl) (by exact rfl)) rfl (by simp only [go_sem, seval, hb_3897, hb_3900, hb_3905, hb_3910]; exact rfl) ?_
          refine AL_gt' (guard_true' rfl rfl (by exact rfl) (by exact rfl)) rfl (by simp only [go_sem, seval, hb_3897, hb_3900, hb_3905, hb_3910]; exact rfl) ?_
          refine AL_gt' (guard_true' rfl rfl (by exact rfl) (by exact rfl)) rfl (by simp only [go_sem, seval, hb_3897, hb_3900, hb_3905, hb_3910]; exact rfl) ?_
          refine AL_gt' (guard_true' rfl rfl (by exact rfl) (by exact rfl)) rfl (by simp only [go_sem, seval, hb_3897, hb_3900, hb_3905, hb_3910]; exact rfl) ?_
          obtain ⟨r_3913, hr_3914, h⟩ := Option.bind_eq_some_iff.1 h
          refine AL_con' rfl (guard_true' rfl rfl (by exact rfl) (by exact rfl)) rfl (by simp only [go_sem, seval, hb_3897, hb_3900, hb_3905, hb_3910]; exact rfl) (by simp only [go_sem, seval, hb_3897, hb_3900, hb_3905, hb_3910]; all_goals ((repeat' refine And.intro ?_ ?_) <;> first | rfl | (simp; done) | (simp; rfl) | (simp [*]; done) | (simp [*]; rfl))) (slices_EqualFunc_Lint64_con a_3895.Origins b_3896.Origins (fun (y_3911 : List Int) (y_3912 : List Int) => slices_Equal_int64 y_3911 y_3912) 91 [] (fun y_3911 y_3912 r h => slices_Equal_int64_con y_3911 y_3912 r h) _ hr_3914) (.inr rfl) rfl ?_
          refine AL_upto (by exact rfl) (by simp only [go_sem, seval, hb_3897, hb_3900, hb_3905, hb_3910]; exact rfl) ?_
          refine AL_nil ?_
          refine thenA_n ?_
          refine awp_ret ?_
          cases h
          refine retQ_ret (by simp only [Tryz.results48]; simp only [go_sem, seval, hb_3897, hb_3900, hb_3905, hb_3910]; exact rfl) ?_
          simp only [go_sem, seval, hb_3897, hb_3900, hb_3905, hb_3910]
          all_goals ((repeat' refine And.intro ?_ ?_) <;> first | rfl | (simp; done) | (simp; rfl) | (simp [*]; done) | (simp [*]; rfl))
        · rw [if_neg hb_3910] at h
          have hb_3910F := Bool.eq_false_iff.2 hb_3910
          refine AL_known (d := 39) (v := .p (.bool false)) (by simp only [go_sem, seval, hb_3897, hb_3900, hb_3905, hb_3910F]) ?_
          refine AL_skips (by exact rfl) ?_
          refine AL_upto (by exact rfl) (by simp only [go_sem, seval, hb_3897, hb_3900, hb_3905, hb_3910F]; exact rfl) ?_
          refine AL_nil ?_
          refine thenA_n ?_
          refine awp_ret ?_
          cases h
          refine retQ_ret (by simp only [Tryz.results48]; simp only [go_sem, seval, hb_3897, hb_3900, hb_3905, hb_3910F]; exact rfl) ?_
          simp only [go_sem, seval, hb_3897, hb_3900, hb_3905, hb_3910F]
          all_goals ((repeat' refine And.intro ?_ ?_) <;> first | rfl | (simp; done) | (simp; rfl) | (simp [*]; done) | (simp [*]; rfl))
      · rw [if_neg hb_3905] at h
        have hb_3905F := Bool.eq_false_iff.2 hb_3905
        refine AL_known (d := 32) (v := .p (.bool false)) (by simp only [go_sem, seval, hb_3897, hb_3900, hb_3905F]) ?_
        refine AL_skips (by exact rfl) ?_
        refine AL_upto (by exact rfl) (by simp only [go_sem, seval, hb_3897, hb_3900, hb_3905F]; exact rfl) ?_
        refine AL_skips (by exact rfl) ?_
        refine AL_upto (by exact rfl) (by simp only [go_sem, seval, hb_3897, hb_3900, hb_3905F]; exact rfl) ?_
        refine AL_nil ?_
        refine thenA_n ?_
        refine awp_ret ?_
        cases h
        refine retQ_ret (by simp only [Tryz.results48]; simp only [go_sem, seval, hb_3897, hb_3900, hb_3905F]; exact rfl) ?_
        simp only [go_sem, seval, hb_3897, hb_3900, hb_3905F]
        all_goals ((repeat' refine And.intro ?_ ?_) <;> first | rfl | (simp; done) | (simp; rfl) | (simp [*]; done) | (simp [*]; rfl))
    · rw [if_neg hb_3900] at h
      have hb_3900F := Bool.eq_false_iff.2 hb_3900
      refine AL_known (d := 22) (v := .p (.bool false)) (by simp only [go_sem, seval, hb_3897, hb_3900F]) ?_
      refine AL_skips (by exact rfl) ?_
      refine AL_upto (by exact rfl) (by simp only [go_sem, seval, hb_3897, hb_3900F]; exact rfl) ?_
      refine AL_skips (by exact rfl) ?_
      refine AL_upto (by exact rfl) (by simp only [go_sem, seval, hb_3897, hb_3900F]; exact rfl) ?_
      refine AL_skips (by exact rfl) ?_
      refine AL_upto (by exact rfl) (by simp only [go_sem, seval, hb_3897, hb_3900F]; exact rfl) ?_
      refine AL_nil ?_
      refine thenA_n ?_
      refine awp_ret ?_
      cases h
      refine retQ_ret (by simp only [Tryz.results48]; simp only [go_sem, seval, hb_3897, hb_3900F]; exact rfl) ?_
      simp only [go_sem, seval, hb_3897, hb_3900F]
      all_goals ((repeat' refine And.intro ?_ ?_) <;> first | rfl | (simp; done) | (simp; rfl) | (simp [*]; done) | (simp [*]; rfl))
  · rw [if_neg hb_3897] at h
    have hb_3897F := Bool.eq_false_iff.2 hb_3897
    refine AL_known (d := 13) (v := .p (.bool false)) (by simp only [go_sem, seval, hb_3897F]) ?_
    refine AL_skips (by exact rfl) ?_
    refine AL_upto (by exact rfl) (by simp only [go_sem, seval, hb_3897F]; exact rfl) ?_
    refine AL_skips (by exact rfl) ?_
    refine AL_upto (by exact rfl) (by simp only [go_sem, seval, hb_3897F]; exact rfl) ?_
    refine AL_skips (by exact rfl) ?_
    refine AL_upto (by exact rfl) (by simp only [go_sem, seval, hb_3897F]; exact rfl) ?_
    refine AL_skips (by exact rfl) ?_
    refine AL_upto (by exact rfl) (by simp only [go_sem, seval, hb_3897F]; exact rfl) ?_
    refine AL_nil ?_
    refine thenA_n ?_
    refine awp_ret ?_
    cases h
    refine retQ_ret (by simp only [Tryz.results48]; simp only [go_sem, seval, hb_3897F]; exact rfl) ?_
    simp only [go_sem, seval, hb_3897F]
    all_goals ((repeat' refine And.intro ?_ ?_) <;> first | rfl | (simp; done) | (simp; rfl) | (simp [*]; done) | (simp [*]; rfl))
end Go.Proofs.YtdmddoljldjjeaaGreat
set_option linter.unusedVariables false
set_option linter.unusedSimpArgs false
namespace Go.Proofs.YtdmddoljldjjeaaGreat
open Go Go.Ab
set_option maxHeartbeats 4000000 in
theorem survivor_Check_con (t_3916 : Table) (rules_3917 : List Int) (m_3918 : Merged) (r_3926 : Bool) (h : survivor_Check t_3916 rules_3917 m_3918 = some r_3926) : Con Tryz.prog 16 [(encTable t_3916), (.slc (List.map (PV.int .i64) rules_3917)), (encMerged m_3918)] (.bool r_3926) := by
  refine ⟨Tryz.call16, ?_⟩
  refine pure_of_awp Tryz.func16 rfl Tryz.ntmps16 (by simp) fun X w => ?_
  show AWp _ _ _ ⟨[(0, .p (encTable t_3916)), (1, .p (.slc (List.map (PV.int .i64) rules_3917))), (2, .p (encMerged m_3918))], []⟩
  simp only [survivor_Check] at h
  refine awp_seq ?_
  refine awp_region ?_
  refine AL_upto (by exact rfl) (by simp only [go_sem, seval]; exact rfl) ?_
  refine AL_nil ?_
  refine thenA_n ?_
  refine awp_seq ?_
  refine awp_region ?_
  refine AL_upto (by exact rfl) (by simp only [go_sem, seval]; exact rfl) ?_
  obtain ⟨r_3921, hr_3922, h⟩ := Option.bind_eq_some_iff.1 h
  refine AL_con' rfl (guard_none rfl) rfl (by simp only [go_sem, seval]; exact rfl) (by simp only [go_sem, seval]; all_goals ((repeat' refine And.intro ?_ ?_) <;> first | rfl | (simp; done) | (simp; rfl) | (simp [*]; done) | (simp [*]; rfl))) (survivor_Table_con t_3916 m_3918.Clusters rules_3917 _ hr_3922) (by first | exact .inl rfl | exact .inl (by simp only [go_sem])) rfl ?_
  refine AL_upto (by exact rfl) (by simp only [go_sem, seval]; exact rfl) ?_
  refine AL_nil ?_
  refine thenA_n ?_
  refine awp_seq ?_
  refine awp_region ?_
  refine AL_upto (by exact rfl) (by simp only [go_sem, seval]; exact rfl) ?_
  by_cases hb_3923 : (r_3921.2 == 0) = true
  · rw [if_pos hb_3923] at h
    refine AL_known (d := 19) (v := .p (.bool true)) (by simp only [go_sem, seval, hb_3923]) ?_
    refine AL_gt' (guard_true' rfl rfl (by exact rfl) (by exact rfl)) rfl (by simp only [go_sem, seval, hb_3923]; exact rfl) ?_
    refine AL_gt' (guard_true' rfl rfl (by exact rfl) (by exact rfl)) rfl (by simp only [go_sem, seval, hb_3923]; exact rfl) ?_
    obtain ⟨r_3924, hr_3925, h⟩ := Option.bind_eq_some_iff.1 h
    refine AL_con' rfl (guard_true' rfl rfl (by exact rfl) (by exact rfl)) rfl (by simp only [go_sem, seval, hb_3923]; exact rfl) (by simp only [go_sem, seval, hb_3923]; all_goals ((repeat' refine And.intro ?_ ?_) <;> first | rfl | (simp; done) | (simp; rfl) | (simp [*]; done) | (simp [*]; rfl))) (survivor_equal_con r_3921.1 m_3918 _ hr_3925) (.inr rfl) rfl ?_
    refine AL_upto (by exact rfl) (by simp only [go_sem, seval, hb_3923]; exact rfl) ?_
    refine AL_nil ?_
    refine thenA_n ?_
    refine awp_ret ?_
    cases h
    refine retQ_ret (by simp only [Tryz.results16]; simp only [go_sem, seval, hb_3923]; exact rfl) ?_
    simp only [go_sem, seval, hb_3923]
    all_goals ((repeat' refine And.intro ?_ ?_) <;> first | rfl | (simp; done) | (simp; rfl) | (simp [*]; done) | (simp [*]; rfl))
  · rw [if_neg hb_3923] at h
    have hb_3923F := Bool.eq_false_iff.2 hb_3923
    refine AL_known (d := 19) (v := .p (.bool false)) (by simp only [go_sem, seval, hb_3923F]) ?_
    refine AL_skips (by exact rfl) ?_
    refine AL_upto (by exact rfl) (by simp only [go_sem, seval, hb_3923F]; exact rfl) ?_
    refine AL_nil ?_
    refine thenA_n ?_
    refine awp_ret ?_
    cases h
    refine retQ_ret (by simp only [Tryz.results16]; simp only [go_sem, seval, hb_3923F]; exact rfl) ?_
    simp only [go_sem, seval, hb_3923F]
    all_goals ((repeat' refine And.intro ?_ ?_) <;> first | rfl | (simp; done) | (simp; rfl) | (simp [*]; done) | (simp [*]; rfl))
end Go.Proofs.YtdmddoljldjjeaaGreat
set_option linter.unusedVariables false
set_option linter.unusedSimpArgs false
namespace Go.Proofs.YtdmddoljldjjeaaGreat
open Go Go.Ab
set_option maxHeartbeats 4000000 in
theorem drossref03_letter_con (c_2072 : Int) (r_2079 : Bool) (h : drossref03_letter c_2072 = some r_2079) : Con Tryz.prog 121 [(.int .u8 c_2072)] (.bool r_2079) := by
  refine ⟨Tryz.call121, ?_⟩
  refine pure_of_awp Tryz.func121 rfl Tryz.ntmps121 (by simp) fun X w => ?_
  show AWp _ _ _ ⟨[(0, .p (.int .u8 c_2072))], []⟩
  simp only [drossref03_letter] at h
  refine awp_seq ?_
  refine awp_region ?_
  refine AL_upto (by exact rfl) (by simp only [go_sem, seval]; exact rfl) ?_
  refine AL_nil ?_
  refine thenA_n ?_
  refine awp_seq ?_
  refine awp_region ?_
  refine AL_upto (by exact rfl) (by simp only [go_sem, seval]; exact rfl) ?_
  by_cases hb_2073 : c_2072 ≥ 97
  · rw [if_pos hb_2073] at h
    have hb_2073T := eq_true hb_2073
    refine AL_known (d := 5) (v := .p (.bool true)) (by simp only [go_sem, seval, hb_2073T]) ?_
    refine AL_gt' (guard_true' rfl rfl (by exact rfl) (by exact rfl)) rfl (by simp only [go_sem, seval, hb_2073T]; exact rfl) ?_
    refine AL_gt' (guard_true' rfl rfl (by exact rfl) (by exact rfl)) rfl (by simp only [go_sem, seval, hb_2073T]; exact rfl) ?_
    refine AL_upto (by exact rfl) (by simp only [go_sem, seval, hb_2073T]; exact rfl) ?_
    by_cases hb_2074 : c_2072 ≤ 122
    · rw [if_pos hb_2074] at h
      have hb_2074T := eq_true hb_2074
      refine AL_known (d := 9) (v := .p (.bool true)) (by simp only [go_sem, seval, hb_2073T, hb_2074T]) ?_
      refine AL_skips (by exact rfl) ?_
      refine AL_upto (by exact rfl) (by simp only [go_sem, seval, hb_2073T, hb_2074T]; exact rfl) ?_
      refine AL_skips (by exact rfl) ?_
      refine AL_upto (by exact rfl) (by simp only [go_sem, seval, hb_2073T, hb_2074T]; exact rfl) ?_
      refine AL_nil ?_
      refine thenA_n ?_
      refine awp_ret ?_
      cases h
      refine retQ_ret (by simp only [Tryz.results121]; simp only [go_sem, seval, hb_2073T, hb_2074T]; exact rfl) ?_
      simp only [go_sem, seval, hb_2073T, hb_2074T]
      all_goals ((repeat' refine And.intro ?_ ?_) <;> first | rfl | (simp; done) | (simp; rfl) | (simp [*]; done) | (simp [*]; rfl))
    · rw [if_neg hb_2074] at h
      have hb_2074T := eq_false hb_2074
      refine AL_known (d := 9) (v := .p (.bool false)) (by simp only [go_sem, seval, hb_2073T, hb_2074T]) ?_
      refine AL_gt' (guard_true' rfl rfl (by exact rfl) (by exact rfl)) rfl (by simp only [go_sem, seval, hb_2073T, hb_2074T]; exact rfl) ?_
      refine AL_gt' (guard_true' rfl rfl (by exact rfl) (by exact rfl)) rfl (by simp only [go_sem, seval, hb_2073T, hb_2074T]; exact rfl) ?_
      refine AL_gt' (guard_true' rfl rfl (by exact rfl) (by exact rfl)) rfl (by simp only [go_sem, seval, hb_2073T, hb_2074T]; exact rfl) ?_
      by_cases hb_2075 : c_2072 ≥ 65
      · rw [if_pos hb_2075] at h
        have hb_2075T := eq_true hb_2075
        refine AL_known (d := 12) (v := .p (.bool true)) (by simp only [go_sem, seval, hb_2073T, hb_2074T, hb_2075T]) ?_
        refine AL_gt' (guard_true' rfl rfl (by exact rfl) (by exact rfl)) rfl (by simp only [go_sem, seval, hb_2073T, hb_2074T, hb_2075T]; exact rfl) ?_
        refine AL_gt' (guard_true' rfl rfl (by exact rfl) (by exact rfl)) rfl (by simp only [go_sem, seval, hb_2073T, hb_2074T, hb_2075T]; exact rfl) ?_
        refine AL_gt' (guard_true' rfl rfl (by exact rfl) (by exact rfl)) rfl (by simp only [go_sem, seval, hb_2073T, hb_2074T, hb_2075T]; exact rfl) ?_
        refine AL_upto (by exact rfl) (by simp only [go_sem, seval, hb_2073T, hb_2074T, hb_2075T]; exact rfl) ?_
        by_cases hb_2076 : c_2072 ≤ 90
        · rw [if_pos hb_2076] at h
          have hb_2076T := eq_true hb_2076
          refine AL_known (d := 17) (v := .p (.bool true)) (by simp only [go_sem, seval, hb_2073T, hb_2074T, hb_2075T, hb_2076T]) ?_
          refine AL_skips (by exact rfl) ?_
          refine AL_upto (by exact rfl) (by simp only [go_sem, seval, hb_2073T, hb_2074T, hb_2075T, hb_2076T]; exact rfl) ?_
          refine AL_nil ?_
          refine thenA_n ?_
          refine awp_ret ?_
          cases h
          refine retQ_ret (by simp only [Tryz.results121]; simp only [go_sem, seval, hb_2073T, hb_2074T, hb_2075T, hb_2076T]; exact rfl) ?_
          simp only [go_sem, seval, hb_2073T, hb_2074T, hb_2075T, hb_2076T]
          all_goals ((repeat' refine And.intro ?_ ?_) <;> first | rfl | (simp; done) | (simp; rfl) | (simp [*]; done) | (simp [*]; rfl))
        · rw [if_neg hb_2076] at h
          have hb_2076T := eq_false hb_2076
          refine AL_known (d := 17) (v := .p (.bool false)) (by simp only [go_sem, seval, hb_2073T, hb_2074T, hb_2075T, hb_2076T]) ?_
          refine AL_gt' (guard_true' rfl rfl (by exact rfl) (by exact rfl)) rfl (by simp only [go_sem, seval, hb_2073T, hb_2074T, hb_2075T, hb_2076T]; exact rfl) ?_
          refine AL_gt' (guard_true' rfl rfl (by exact rfl) (by exact rfl)) rfl (by simp only [go_sem, seval, hb_2073T, hb_2074T, hb_2075T, hb_2076T]; exact rfl) ?_
          refine AL_upto (by exact rfl) (by simp only [go_sem, seval, hb_2073T, hb_2074T, hb_2075T, hb_2076T]; exact rfl) ?_
          refine AL_nil ?_
          refine thenA_n ?_
          refine awp_ret ?_
          cases h
          refine retQ_ret (by simp only [Tryz.results121]; simp only [go_sem, seval, hb_2073T, hb_2074T, hb_2075T, hb_2076T]; exact rfl) ?_
          simp only [go_sem, seval, hb_2073T, hb_2074T, hb_2075T, hb_2076T]
          all_goals ((repeat' refine And.intro ?_ ?_) <;> first | rfl | (simp; done) | (simp; rfl) | (simp [*]; done) | (simp [*]; rfl))
      · rw [if_neg hb_2075] at h
        have hb_2075T := eq_false hb_2075
        refine AL_known (d := 12) (v := .p (.bool false)) (by simp only [go_sem, seval, hb_2073T, hb_2074T, hb_2075T]) ?_
        refine AL_skips (by exact rfl) ?_
        refine AL_gt' (guard_true' rfl rfl (by exact rfl) (by exact rfl)) rfl (by simp only [go_sem, seval, hb_2073T, hb_2074T, hb_2075T]; exact rfl) ?_
        refine AL_upto (by exact rfl) (by simp only [go_sem, seval, hb_2073T, hb_2074T, hb_2075T]; exact rfl) ?_
        refine AL_gt' (guard_true' rfl rfl (by exact rfl) (by exact rfl)) rfl (by simp only [go_sem, seval, hb_2073T, hb_2074T, hb_2075T]; exact rfl) ?_
        refine AL_gt' (guard_true' rfl rfl (by exact rfl) (by exact rfl)) rfl (by simp only [go_sem, seval, hb_2073T, hb_2074T, hb_2075T]; exact rfl) ?_
        refine AL_upto (by exact rfl) (by simp only [go_sem, seval, hb_2073T, hb_2074T, hb_2075T]; exact rfl) ?_
        refine AL_nil ?_
        refine thenA_n ?_
        refine awp_ret ?_
        cases h
        refine retQ_ret (by simp only [Tryz.results121]; simp only [go_sem, seval, hb_2073T, hb_2074T, hb_2075T]; exact rfl) ?_
        simp only [go_sem, seval, hb_2073T, hb_2074T, hb_2075T]
        all_goals ((repeat' refine And.intro ?_ ?_) <;> first | rfl | (simp; done) | (simp; rfl) | (simp [*]; done) | (simp [*]; rfl))
  · rw [if_neg hb_2073] at h
    have hb_2073T := eq_false hb_2073
    refine AL_known (d := 5) (v := .p (.bool false)) (by simp only [go_sem, seval, hb_2073T]) ?_
    refine AL_skips (by exact rfl) ?_
    refine AL_upto (by exact rfl) (by simp only [go_sem, seval, hb_2073T]; exact rfl) ?_
    refine AL_gt' (guard_true' rfl rfl (by exact rfl) (by exact rfl)) rfl (by simp only [go_sem, seval, hb_2073T]; exact rfl) ?_
    refine AL_gt' (guard_true' rfl rfl (by exact rfl) (by exact rfl)) rfl (by simp only [go_sem, seval, hb_2073T]; exact rfl) ?_
    refine AL_gt' (guard_true' rfl rfl (by exact rfl) (by exact rfl)) rfl (by simp only [go_sem, seval, hb_2073T]; exact rfl) ?_
    by_cases hb_2077 : c_2072 ≥ 65
    · rw [if_pos hb_2077] at h
      have hb_2077T := eq_true hb_2077
      refine AL_known (d := 12) (v := .p (.bool true)) (by simp only [go_sem, seval, hb_2073T, hb_2077T]) ?_
      refine AL_gt' (guard_true' rfl rfl (by exact rfl) (by exact rfl)) rfl (by simp only [go_sem, seval, hb_2073T, hb_2077T]; exact rfl) ?_
      refine AL_gt' (guard_true' rfl rfl (by exact rfl) (by exact rfl)) rfl (by simp only [go_sem, seval, hb_2073T, hb_2077T]; exact rfl) ?_
      refine AL_gt' (guard_true' rfl rfl (by exact rfl) (by exact rfl)) rfl (by simp only [go_sem, seval, hb_2073T, hb_2077T]; exact rfl) ?_
      refine AL_upto (by exact rfl) (by simp only [go_sem, seval, hb_2073T, hb_2077T]; exact rfl) ?_
      by_cases hb_2078 : c_2072 ≤ 90
      · rw [if_pos hb_2078] at h
        have hb_2078T := eq_true hb_2078
        refine AL_known (d := 17) (v := .p (.bool true)) (by simp only [go_sem, seval, hb_2073T, hb_2077T, hb_2078T]) ?_
        refine AL_skips (by exact rfl) ?_
        refine AL_upto (by exact rfl) (by simp only [go_sem, seval, hb_2073T, hb_2077T, hb_2078T]; exact rfl) ?_
        refine AL_nil ?_
        refine thenA_n ?_
        refine awp_ret ?_
        cases h
        refine retQ_ret (by simp only [Tryz.results121]; simp only [go_sem, seval, hb_2073T, hb_2077T, hb_2078T]; exact rfl) ?_
        simp only [go_sem, seval, hb_2073T, hb_2077T, hb_2078T]
        all_goals ((repeat' refine And.intro ?_ ?_) <;> first | rfl | (simp; done) | (simp; rfl) | (simp [*]; done) | (simp [*]; rfl))
      · rw [if_neg hb_2078] at h
        have hb_2078T := eq_false hb_2078
        refine AL_known (d := 17) (v := .p (.bool false)) (by simp only [go_sem, seval, hb_2073T, hb_2077T, hb_2078T]) ?_
        refine AL_gt' (guard_true' rfl rfl (by exact rfl) (by exact rfl)) rfl (by simp only [go_sem, seval, hb_2073T, hb_2077T, hb_2078T]; exact rfl) ?_
        refine AL_gt' (guard_true' rfl rfl (by exact rfl) (by exact rfl)) rfl (by simp only [go_sem, seval, hb_2073T, hb_2077T, hb_2078T]; exact rfl) ?_
        refine AL_upto (by exact rfl) (by simp only [go_sem, seval, hb_2073T, hb_2077T, hb_2078T]; exact rfl) ?_
        refine AL_nil ?_
        refine thenA_n ?_
        refine awp_ret ?_
        cases h
        refine retQ_ret (by simp only [Tryz.results121]; simp only [go_sem, seval, hb_2073T, hb_2077T, hb_2078T]; exact rfl) ?_
        simp only [go_sem, seval, hb_2073T, hb_2077T, hb_2078T]
        all_goals ((repeat' refine And.intro ?_ ?_) <;> first | rfl | (simp; done) | (simp; rfl) | (simp [*]; done) | (simp [*]; rfl))
    · rw [if_neg hb_2077] at h
      have hb_2077T := eq_false hb_2077
      refine AL_known (d := 12) (v := .p (.bool false)) (by simp only [go_sem, seval, hb_2073T, hb_2077T]) ?_
      refine AL_skips (by exact rfl) ?_
      refine AL_gt' (guard_true' rfl rfl (by exact rfl) (by exact rfl)) rfl (by simp only [go_sem, seval, hb_2073T, hb_2077T]; exact rfl) ?_
      refine AL_upto (by exact rfl) (by simp only [go_sem, seval, hb_2073T, hb_2077T]; exact rfl) ?_
      refine AL_gt' (guard_true' rfl rfl (by exact rfl) (by exact rfl)) rfl (by simp only [go_sem, seval, hb_2073T, hb_2077T]; exact rfl) ?_
      refine AL_gt' (guard_true' rfl rfl (by exact rfl) (by exact rfl)) rfl (by simp only [go_sem, seval, hb_2073T, hb_2077T]; exact rfl) ?_
      refine AL_upto (by exact rfl) (by simp only [go_sem, seval, hb_2073T, hb_2077T]; exact rfl) ?_
      refine AL_nil ?_
      refine thenA_n ?_
      refine awp_ret ?_
      cases h
      refine retQ_ret (by simp only [Tryz.results121]; simp only [go_sem, seval, hb_2073T, hb_2077T]; exact rfl) ?_
      simp only [go_sem, seval, hb_2073T, hb_2077T]
      all_goals ((repeat' refine And.intro ?_ ?_) <;> first | rfl | (simp; done) | (simp; rfl) | (simp [*]; done) | (simp [*]; rfl))
end Go.Proofs.YtdmddoljldjjeaaGreat
set_option linter.unusedVariables false
set_option linter.unusedSimpArgs false
namespace Go.Proofs.YtdmddoljldjjeaaGreat
open Go Go.Ab
set_option maxHeartbeats 4000000 in
theorem drossref03_Name_con (s_2080 : List UInt8) (r_2121 : Bool) (h : drossref03_Name s_2080 = some r_2121) : Con Tryz.prog 79 [(.str s_2080)] (.bool r_2121) := by
  refine ⟨Tryz.call79, ?_⟩
  refine pure_of_awp Tryz.func79 rfl Tryz.ntmps79 (by simp) fun X w => ?_
  show AWp _ _ _ ⟨[(0, .p (.str s_2080))], []⟩
  simp only [drossref03_Name] at h
  refine awp_seq ?_
  refine awp_region ?_
  refine AL_upto (by exact rfl) (by simp only [go_sem, seval]; exact rfl) ?_
  refine AL_nil ?_
  refine thenA_n ?_
  refine awp_seq ?_
  refine awp_seq ?_
  refine awp_region ?_
  refine AL_upto (by exact rfl) (by simp only [go_sem, seval]; exact rfl) ?_
  by_cases hb_2081 : ((s_2080.length : Int) == 0) = true
  · rw [if_pos hb_2081] at h
    refine AL_known (d := 7) (v := .p (.bool true)) (by simp only [go_sem, seval, hb_2081]) ?_
    refine AL_skips (by exact rfl) ?_
    refine AL_upto (by exact rfl) (by simp only [go_sem, seval, hb_2081]; exact rfl) ?_
    refine AL_skips (by exact rfl) ?_
    refine AL_upto (by exact rfl) (by simp only [go_sem, seval, hb_2081]; exact rfl) ?_
    refine AL_skips (by exact rfl) ?_
    refine AL_upto (by exact rfl) (by simp only [go_sem, seval, hb_2081]; exact rfl) ?_
    refine AL_nil ?_
    refine thenA_n ?_
    refine awp_ct (by simp only [go_sem, seval, hb_2081]) ?_
    refine awp_seq ?_
    refine awp_region ?_
    refine AL_upto (by exact rfl) (by simp only [go_sem, seval, hb_2081]; exact rfl) ?_
    refine AL_nil ?_
    refine thenA_n ?_
    refine awp_ret ?_
    refine thenA_ret ?_
    cases h
    refine retQ_ret (by simp only [Tryz.results79]; simp only [go_sem, seval, hb_2081]; exact rfl) ?_
    simp only [go_sem, seval, hb_2081]
    all_goals ((repeat' refine And.intro ?_ ?_) <;> first | rfl | (simp; done) | (simp; rfl) | (simp [*]; done) | (simp [*]; rfl))
  · rw [if_neg hb_2081] at h
    have hb_2081F := Bool.eq_false_iff.2 hb_2081
    refine AL_known (d := 7) (v := .p (.bool false)) (by simp only [go_sem, seval, hb_2081F]) ?_
    refine AL_gt' (guard_true' rfl rfl (by exact rfl) (by exact rfl)) rfl (by simp only [go_sem, seval, hb_2081F]; exact rfl) ?_
    refine AL_gt' (guard_true' rfl rfl (by exact rfl) (by exact rfl)) rfl (by simp only [go_sem, seval, hb_2081F]; exact rfl) ?_
    refine AL_gt' (guard_true' rfl rfl (by exact rfl) (by exact rfl)) rfl (by simp only [go_sem, seval, hb_2081F]; exact rfl) ?_
    refine AL_upto (by exact rfl) (by simp only [go_sem, seval, hb_2081F]; exact rfl) ?_
    by_cases hb_2082 : (s_2080.length : Int) > 24
    · rw [if_pos hb_2082] at h
      have hb_2082T := eq_true hb_2082
      refine AL_known (d := 12) (v := .p (.bool true)) (by simp only [go_sem, seval, hb_2081F, hb_2082T]) ?_
      refine AL_skips (by exact rfl) ?_
      refine AL_upto (by exact rfl) (by simp only [go_sem, seval, hb_2081F, hb_2082T]; exact rfl) ?_
      refine AL_skips (by exact rfl) ?_
      refine AL_upto (by exact rfl) (by simp only [go_sem, seval, hb_2081F, hb_2082T]; exact rfl) ?_
      refine AL_nil ?_
      refine thenA_n ?_
      refine awp_ct (by simp only [go_sem, seval, hb_2081F, hb_2082T]) ?_
      refine awp_seq ?_
      refine awp_region ?_
      refine AL_upto (by exact rfl) (by simp only [go_sem, seval, hb_2081F, hb_2082T]; exact rfl) ?_
      refine AL_nil ?_
      refine thenA_n ?_
      refine awp_ret ?_
      refine thenA_ret ?_
      cases h
      refine retQ_ret (by simp only [Tryz.results79]; simp only [go_sem, seval, hb_2081F, hb_2082T]; exact rfl) ?_
      simp only [go_sem, seval, hb_2081F, hb_2082T]
      all_goals ((repeat' refine And.intro ?_ ?_) <;> first | rfl | (simp; done) | (simp; rfl) | (simp [*]; done) | (simp [*]; rfl))
    · rw [if_neg hb_2082] at h
      have hb_2082T := eq_false hb_2082
      refine AL_known (d := 12) (v := .p (.bool false)) (by simp only [go_sem, seval, hb_2081F, hb_2082T]) ?_
      refine AL_gt' (guard_true' rfl rfl (by exact rfl) (by exact rfl)) rfl (by simp only [go_sem, seval, hb_2081F, hb_2082T]; exact rfl) ?_
      obtain ⟨c_2085, hx_2086, h⟩ := Option.bind_eq_some_iff.1 h
      have hx_2086l := eq_true (lt_of_get hx_2086)
      have hx_2086L : ((0 : Int) < (s_2080.length : Int)) = True := eq_true (by have := lt_of_get hx_2086; omega)
      refine AL_gt' (guard_true' rfl rfl (by exact rfl) (by exact rfl)) rfl (by simp only [go_sem, seval, hb_2081F, hb_2082T, hx_2086, hx_2086l, hx_2086L]; exact rfl) ?_
      obtain ⟨r_2087, hr_2088, h⟩ := Option.bind_eq_some_iff.1 h
      refine AL_con' rfl (guard_true' rfl rfl (by exact rfl) (by exact rfl)) rfl (by simp only [go_sem, seval, hb_2081F, hb_2082T]; exact rfl) (by simp only [go_sem, seval, hb_2081F, hb_2082T]; all_goals ((repeat' refine And.intro ?_ ?_) <;> first | rfl | (simp; done) | (simp; rfl) | (simp [*]; done) | (simp [*]; rfl))) (drossref03_letter_con ((c_2085.toNat : Nat) : Int) _ hr_2088) (.inr rfl) rfl ?_
      refine AL_gt' (guard_true' rfl rfl (by exact rfl) (by exact rfl)) rfl (by simp only [go_sem, seval, hb_2081F, hb_2082T]; exact rfl) ?_
      refine AL_upto (by exact rfl) (by simp only [go_sem, seval, hb_2081F, hb_2082T]; exact rfl) ?_
      by_cases hb_2089 : r_2087 = true
      · rw [if_pos hb_2089] at h
        refine AL_known (d := 18) (v := .p (.bool false)) (by simp only [go_sem, seval, hb_2081F, hb_2082T, hb_2089]) ?_
        refine AL_gt' (guard_true' rfl rfl (by exact rfl) (by exact rfl)) rfl (by simp only [go_sem, seval, hb_2081F, hb_2082T, hb_2089]; exact rfl) ?_
        refine AL_gt' (guard_true' rfl rfl (by exact rfl) (by exact rfl)) rfl (by simp only [go_sem, seval, hb_2081F, hb_2082T, hb_2089]; exact rfl) ?_
        refine AL_upto (by exact rfl) (by simp only [go_sem, seval, hb_2081F, hb_2082T, hb_2089]; exact rfl) ?_
        refine AL_nil ?_
        refine thenA_n ?_
        by_cases hb_2090 : (s_2080 == [110, 117, 108, 108]) = true
        · rw [if_pos hb_2090] at h
          refine awp_ct (by simp only [go_sem, seval, hb_2081F, hb_2082T, hb_2089, hb_2090]) ?_
          refine awp_seq ?_
          refine awp_region ?_
          refine AL_upto (by exact rfl) (by simp only [go_sem, seval, hb_2081F, hb_2082T, hb_2089, hb_2090]; exact rfl) ?_
          refine AL_nil ?_
          refine thenA_n ?_
          refine awp_ret ?_
          refine thenA_ret ?_
          cases h
          refine retQ_ret (by simp only [Tryz.results79]; simp only [go_sem, seval, hb_2081F, hb_2082T, hb_2089, hb_2090]; exact rfl) ?_
          simp only [go_sem, seval, hb_2081F, hb_2082T, hb_2089, hb_2090]
          all_goals ((repeat' refine And.intro ?_ ?_) <;> first | rfl | (simp; done) | (simp; rfl) | (simp [*]; done) | (simp [*]; rfl))
        · rw [if_neg hb_2090] at h
          have hb_2090F := Bool.eq_false_iff.2 hb_2090
          refine awp_cf (by simp only [go_sem, seval, hb_2081F, hb_2082T, hb_2089, hb_2090F]) ?_
          refine awp_skip ?_
          refine thenA_n ?_
          refine awp_seq ?_
          refine awp_seq ?_
          refine awp_region ?_
          refine AL_upto (by exact rfl) (by simp only [go_sem, seval, hb_2081F, hb_2082T, hb_2089, hb_2090F]; exact rfl) ?_
          refine AL_nil ?_
          refine thenA_n ?_
          refine awp_block ?_
          obtain ⟨o_2116, hL_2117, h⟩ := Option.bind_eq_some_iff.1 h
          refine awp_loop_L (fun (s : Int) => ⟨[(0, .p (.str s_2080)), (3, .p (.int .i64 s))], []⟩) (fun (o : (Unit) ⊕ (Bool)) (e : Exit) (s' : St) => match o with | .inl o_2119 => e = (.exit 0) ∧ Le ⟨Tryz.prog, Tryz.f79.ntmps, 0, X, [], fun _ => none, w⟩ s' ⟨[], []⟩ | .inr o_2120 => e = .ret ∧ retQ Tryz.prog Tryz.f79 (.bool o_2120) .ret s') (by intro o s hT; rcases o with _ | _ <;> (have hh := hT.1; cases hh)) hL_2117 (by simp only [go_sem, seval, hb_2081F, hb_2082T, hb_2089, hb_2090F]; all_goals ((repeat' refine And.intro ?_ ?_) <;> first | rfl | (simp; done) | (simp; rfl) | (simp [*]; done) | (simp [*]; rfl))) ?_ ?_
          · clear h
            intro i_2099 x h
            simp only [drossref03_Name_l1] at h
            show AWp _ _ _ ⟨[(0, .p (.str s_2080)), (3, .p (.int .i64 i_2099))], []⟩
            refine awp_seq ?_
            refine awp_seq ?_
            refine awp_region ?_
            refine AL_upto (by exact rfl) (by simp only [go_sem, seval]; exact rfl) ?_
            refine AL_nil ?_
            refine thenA_n ?_
            by_cases hb_2108 : i_2099 < (s_2080.length : Int)
            · rw [if_pos hb_2108] at h
              have hb_2108T := eq_true hb_2108
              refine awp_ct (by simp only [go_sem, seval, hb_2108T]) ?_
              refine awp_skip ?_
              refine thenA_n ?_
              refine awp_seq ?_
              refine awp_block ?_
              refine awp_seq ?_
              refine awp_region ?_
              obtain ⟨c_2109, hx_2110, h⟩ := Option.bind_eq_some_iff.1 h
              obtain ⟨hx_2110a, hx_2110, hx_2110b⟩ := idx_some hx_2110
              have hx_2110A := eq_true hx_2110a
              have hx_2110B := eq_true hx_2110b
              refine AL_upto (by exact rfl) (by simp only [go_sem, seval, hb_2108T, hx_2110, hx_2110A, hx_2110B]; exact rfl) ?_
              obtain ⟨r_2111, hr_2112, h⟩ := Option.bind_eq_some_iff.1 h
              refine AL_con' rfl (guard_none rfl) rfl (by simp only [go_sem, seval, hb_2108T]; exact rfl) (by simp only [go_sem, seval, hb_2108T]; all_goals ((repeat' refine And.intro ?_ ?_) <;> first | rfl | (simp; done) | (simp; rfl) | (simp [*]; done) | (simp [*]; rfl))) (drossref03_letter_con ((c_2109.toNat : Nat) : Int) _ hr_2112) (.inr rfl) rfl ?_
              refine AL_upto (by exact rfl) (by simp only [go_sem, seval, hb_2108T]; exact rfl) ?_
              by_cases hb_2113 : r_2111 = true
              · rw [if_pos hb_2113] at h
                refine AL_known (d := 33) (v := .p (.bool false)) (by simp only [go_sem, seval, hb_2108T, hb_2113]) ?_
                refine AL_skips (by exact rfl) ?_
                refine AL_upto (by exact rfl) (by simp only [go_sem, seval, hb_2108T, hb_2113]; exact rfl) ?_
                refine AL_nil ?_
                refine thenA_n ?_
                refine awp_cf (by simp only [go_sem, seval, hb_2108T, hb_2113]) ?_
                refine awp_skip ?_
                refine blockA_n ?_
                refine thenA_n ?_
                refine awp_region ?_
                refine AL_upto (by exact rfl) (by simp only [go_sem, seval, hb_2108T, hb_2113]; exact rfl) ?_
                refine AL_nil ?_
                cases h
                refine ⟨rfl, ?_⟩
                simp only [go_sem, seval, hb_2108T, hb_2113]
                all_goals ((repeat' refine And.intro ?_ ?_) <;> first | rfl | (simp; done) | (simp; rfl) | (simp [*]; done) | (simp [*]; rfl))
              · rw [if_neg hb_2113] at h
                have hb_2113F := Bool.eq_false_iff.2 hb_2113
                refine AL_known (d := 33) (v := .p (.bool true)) (by simp only [go_sem, seval, hb_2108T, hb_2113F]) ?_
                refine AL_gt' (guard_true' rfl rfl (by exact rfl) (by exact rfl)) rfl (by simp only [go_sem, seval, hb_2108T, hb_2113F]; exact rfl) ?_
                refine AL_gt' (guard_true' rfl rfl (by exact rfl) (by exact rfl)) rfl (by simp only [go_sem, seval, hb_2108T, hb_2113F]; exact rfl) ?_
                refine AL_gt' (guard_true' rfl rfl (by exact rfl) (by exact rfl)) rfl (by simp only [go_sem, seval, hb_2108T, hb_2113F, hx_2110, hx_2110A, hx_2110B]; exact rfl) ?_
                refine AL_gt' (guard_true' rfl rfl (by exact rfl) (by exact rfl)) rfl (by simp only [go_sem, seval, hb_2108T, hb_2113F]; exact rfl) ?_
                refine AL_gt' (guard_true' rfl rfl (by exact rfl) (by exact rfl)) rfl (by simp only [go_sem, seval, hb_2108T, hb_2113F]; exact rfl) ?_
                by_cases hb_2114 : ((c_2109.toNat : Nat) : Int) < 48
                · rw [if_pos hb_2114] at h
                  have hb_2114T := eq_true hb_2114
                  refine AL_known (d := 38) (v := .p (.bool true)) (by simp only [go_sem, seval, hb_2108T, hb_2113F, hb_2114T]) ?_
                  refine AL_skips (by exact rfl) ?_
                  refine AL_gt' (guard_true' rfl rfl (by exact rfl) (by exact rfl)) rfl (by simp only [go_sem, seval, hb_2108T, hb_2113F, hb_2114T]; exact rfl) ?_
                  refine AL_upto (by exact rfl) (by simp only [go_sem, seval, hb_2108T, hb_2113F, hb_2114T]; exact rfl) ?_
                  refine AL_nil ?_
                  refine thenA_n ?_
                  refine awp_ct (by simp only [go_sem, seval, hb_2108T, hb_2113F, hb_2114T]) ?_
                  refine awp_seq ?_
                  refine awp_region ?_
                  refine AL_upto (by exact rfl) (by simp only [go_sem, seval, hb_2108T, hb_2113F, hb_2114T]; exact rfl) ?_
                  refine AL_nil ?_
                  refine thenA_n ?_
                  refine awp_ret ?_
                  refine blockA_ret ?_
                  refine thenA_ret ?_
                  cases h
                  refine ⟨rfl, ?_⟩
                  refine retQ_ret (by simp only [Tryz.results79]; simp only [go_sem, seval, hb_2108T, hb_2113F, hb_2114T]; exact rfl) ?_
                  simp only [go_sem, seval, hb_2108T, hb_2113F, hb_2114T]
                  all_goals ((repeat' refine And.intro ?_ ?_) <;> first | rfl | (simp; done) | (simp; rfl) | (simp [*]; done) | (simp [*]; rfl))
                · rw [if_neg hb_2114] at h
                  have hb_2114T := eq_false hb_2114
                  refine AL_known (d := 38) (v := .p (.bool false)) (by simp only [go_sem, seval, hb_2108T, hb_2113F, hb_2114T]) ?_
                  refine AL_gt' (guard_true' rfl rfl (by exact rfl) (by exact rfl)) rfl (by simp only [go_sem, seval, hb_2108T, hb_2113F, hb_2114T]; exact rfl) ?_
                  refine AL_gt' (guard_true' rfl rfl (by exact rfl) (by exact rfl)) rfl (by simp only [go_sem, seval, hb_2108T, hb_2113F, hb_2114T]; exact rfl) ?_
                  refine AL_gt' (guard_true' rfl rfl (by exact rfl) (by exact rfl)) rfl (by simp only [go_sem, seval, hb_2108T, hb_2113F, hb_2114T, hx_2110, hx_2110A, hx_2110B]; exact rfl) ?_
                  refine AL_gt' (guard_true' rfl rfl (by exact rfl) (by exact rfl)) rfl (by simp only [go_sem, seval, hb_2108T, hb_2113F, hb_2114T]; exact rfl) ?_
                  refine AL_gt' (guard_true' rfl rfl (by exact rfl) (by exact rfl)) rfl (by simp only [go_sem, seval, hb_2108T, hb_2113F, hb_2114T]; exact rfl) ?_
                  refine AL_upto (by exact rfl) (by simp only [go_sem, seval, hb_2108T, hb_2113F, hb_2114T]; exact rfl) ?_
                  refine AL_nil ?_
                  refine thenA_n ?_
                  by_cases hb_2115 : ((c_2109.toNat : Nat) : Int) > 57
                  · rw [if_pos hb_2115] at h
                    have hb_2115T := eq_true hb_2115
                    refine awp_ct (by simp only [go_sem, seval, hb_2108T, hb_2113F, hb_2114T, hb_2115T]) ?_
                    refine awp_seq ?_
                    refine awp_region ?_
                    refine AL_upto (by exact rfl) (by simp only [go_sem, seval, hb_2108T, hb_2113F, hb_2114T, hb_2115T]; exact rfl) ?_
                    refine AL_nil ?_
                    refine thenA_n ?_
                    refine awp_ret ?_
                    refine blockA_ret ?_
                    refine thenA_ret ?_
                    cases h
                    refine ⟨rfl, ?_⟩
                    refine retQ_ret (by simp only [Tryz.results79]; simp only [go_sem, seval, hb_2108T, hb_2113F, hb_2114T, hb_2115T]; exact rfl) ?_
                    simp only [go_sem, seval, hb_2108T, hb_2113F, hb_2114T, hb_2115T]
                    all_goals ((repeat' refine And.intro ?_ ?_) <;> first | rfl | (simp; done) | (simp; rfl) | (simp [*]; done) | (simp [*]; rfl))
                  · rw [if_neg hb_2115] at h
                    have hb_2115T := eq_false hb_2115
                    refine awp_cf (by simp only [go_sem, seval, hb_2108T, hb_2113F, hb_2114T, hb_2115T]) ?_
                    refine awp_skip ?_
                    refine blockA_n ?_
                    refine thenA_n ?_
                    refine awp_region ?_
                    refine AL_upto (by exact rfl) (by simp only [go_sem, seval, hb_2108T, hb_2113F, hb_2114T, hb_2115T]; exact rfl) ?_
                    refine AL_nil ?_
                    cases h
                    refine ⟨rfl, ?_⟩
                    simp only [go_sem, seval, hb_2108T, hb_2113F, hb_2114T, hb_2115T]
                    all_goals ((repeat' refine And.intro ?_ ?_) <;> first | rfl | (simp; done) | (simp; rfl) | (simp [*]; done) | (simp [*]; rfl))
            · rw [if_neg hb_2108] at h
              have hb_2108T := eq_false hb_2108
              refine awp_cf (by simp only [go_sem, seval, hb_2108T]) ?_
              refine awp_exit ?_
              refine thenA_exit ?_
              cases h
              refine ⟨rfl, ?_⟩
              simp only [go_sem, seval, hb_2108T]
              all_goals ((repeat' refine And.intro ?_ ?_) <;> first | rfl | (simp; done) | (simp; rfl) | (simp [*]; done) | (simp [*]; rfl))
          · intro e s' hT
            rcases o_2116 with ⟨⟩ | r_2118
            · try simp only at h
              try simp only at hT
              obtain ⟨rfl, hle⟩ := hT
              refine Wk.to hle ?_
              clear hle
              refine blockA_here ?_
              refine thenA_n ?_
              refine awp_seq ?_
              refine awp_region ?_
              refine AL_upto (by exact rfl) (by simp only [go_sem, seval, hb_2081F, hb_2082T, hb_2089, hb_2090F]; exact rfl) ?_
              refine AL_nil ?_
              refine thenA_n ?_
              refine awp_ret ?_
              cases h
              refine retQ_ret (by simp only [Tryz.results79]; simp only [go_sem, seval, hb_2081F, hb_2082T, hb_2089, hb_2090F]; exact rfl) ?_
              simp only [go_sem, seval, hb_2081F, hb_2082T, hb_2089, hb_2090F]
              all_goals ((repeat' refine And.intro ?_ ?_) <;> first | rfl | (simp; done) | (simp; rfl) | (simp [*]; done) | (simp [*]; rfl))
            · try simp only at h
              try simp only at hT
              obtain ⟨rfl, hq⟩ := hT
              refine Wk.now ?_
              refine blockA_ret ?_
              refine thenA_ret ?_
              cases h
              exact hq
      · rw [if_neg hb_2089] at h
        have hb_2089F := Bool.eq_false_iff.2 hb_2089
        refine AL_known (d := 18) (v := .p (.bool true)) (by simp only [go_sem, seval, hb_2081F, hb_2082T, hb_2089F]) ?_
        refine AL_skips (by exact rfl) ?_
        refine AL_upto (by exact rfl) (by simp only [go_sem, seval, hb_2081F, hb_2082T, hb_2089F]; exact rfl) ?_
        refine AL_nil ?_
        refine thenA_n ?_
        refine awp_ct (by simp only [go_sem, seval, hb_2081F, hb_2082T, hb_2089F]) ?_
        refine awp_seq ?_
        refine awp_region ?_
        refine AL_upto (by exact rfl) (by simp only [go_sem, seval, hb_2081F, hb_2082T, hb_2089F]; exact rfl) ?_
        refine AL_nil ?_
        refine thenA_n ?_
        refine awp_ret ?_
        refine thenA_ret ?_
        cases h
        refine retQ_ret (by simp only [Tryz.results79]; simp only [go_sem, seval, hb_2081F, hb_2082T, hb_2089F]; exact rfl) ?_
        simp only [go_sem, seval, hb_2081F, hb_2082T, hb_2089F]
        all_goals ((repeat' refine And.intro ?_ ?_) <;> first | rfl | (simp; done) | (simp; rfl) | (simp [*]; done) | (simp [*]; rfl))
end Go.Proofs.YtdmddoljldjjeaaGreat
set_option linter.unusedVariables false
set_option linter.unusedSimpArgs false
namespace Go.Proofs.YtdmddoljldjjeaaGreat
open Go Go.Ab
set_option maxHeartbeats 4000000 in
theorem drossref03_Attr_con (l_2122 : List (List UInt8)) (name_2123 : List UInt8) (r_2142 : Int) (h : drossref03_Attr l_2122 name_2123 = some r_2142) : Con Tryz.prog 122 [(.slc (List.map PV.str l_2122)), (.str name_2123)] (.int .i64 r_2142) := by
  refine ⟨Tryz.call122, ?_⟩
  refine pure_of_awp Tryz.func122 rfl Tryz.ntmps122 (by simp) fun X w => ?_
  show AWp _ _ _ ⟨[(0, .p (.slc (List.map PV.str l_2122))), (1, .p (.str name_2123))], []⟩
  simp only [drossref03_Attr] at h
  refine awp_seq ?_
  refine awp_region ?_
  refine AL_upto (by exact rfl) (by simp only [go_sem, seval]; exact rfl) ?_
  refine AL_nil ?_
  refine thenA_n ?_
  refine awp_seq ?_
  refine awp_seq ?_
  refine awp_region ?_
  refine AL_upto (by exact rfl) (by simp only [go_sem, seval]; exact rfl) ?_
  refine AL_nil ?_
  refine thenA_n ?_
  refine awp_block ?_
  obtain ⟨o_2137, hL_2138, h⟩ := Option.bind_eq_some_iff.1 h
  refine awp_loop_L (fun (s : Int) => ⟨[(0, .p (.slc (List.map PV.str l_2122))), (1, .p (.str name_2123)), (5, .p (.int .i64 s))], []⟩) (fun (o : (Unit) ⊕ (Int)) (e : Exit) (s' : St) => match o with | .inl o_2140 => e = (.exit 0) ∧ Le ⟨Tryz.prog, Tryz.f122.ntmps, 0, X, [], fun _ => none, w⟩ s' ⟨[], []⟩ | .inr o_2141 => e = .ret ∧ retQ Tryz.prog Tryz.f122 (.int .i64 o_2141) .ret s') (by intro o s hT; rcases o with _ | _ <;> (have hh := hT.1; cases hh)) hL_2138 (by simp only [go_sem, seval]; all_goals ((repeat' refine And.intro ?_ ?_) <;> first | rfl | (simp; done) | (simp; rfl) | (simp [*]; done) | (simp [*]; rfl))) ?_ ?_
  · clear h
    intro i_2128 x h
    simp only [drossref03_Attr_l1] at h
    show AWp _ _ _ ⟨[(0, .p (.slc (List.map PV.str l_2122))), (1, .p (.str name_2123)), (5, .p (.int .i64 i_2128))], []⟩
    refine awp_seq ?_
    refine awp_seq ?_
    refine awp_region ?_
    refine AL_upto (by exact rfl) (by simp only [go_sem, seval]; exact rfl) ?_
    refine AL_nil ?_
    refine thenA_n ?_
    by_cases hb_2133 : i_2128 < (l_2122.length : Int)
    · rw [if_pos hb_2133] at h
      have hb_2133T := eq_true hb_2133
      refine awp_ct (by simp only [go_sem, seval, hb_2133T]) ?_
      refine awp_skip ?_
      refine thenA_n ?_
      refine awp_seq ?_
      refine awp_block ?_
      refine awp_seq ?_
      refine awp_region ?_
      obtain ⟨x_2134, hx_2135, h⟩ := Option.bind_eq_some_iff.1 h
      obtain ⟨hx_2135a, hx_2135, hx_2135b⟩ := idx_some hx_2135
      have hx_2135A := eq_true hx_2135a
      have hx_2135B := eq_true hx_2135b
      refine AL_upto (by exact rfl) (by simp only [go_sem, seval, hb_2133T, hx_2135, hx_2135A, hx_2135B]; exact rfl) ?_
      refine AL_nil ?_
      refine thenA_n ?_
      by_cases hb_2136 : (x_2134 == name_2123) = true
      · rw [if_pos hb_2136] at h
        refine awp_ct (by simp only [go_sem, seval, hb_2133T, hb_2136]) ?_
        refine awp_seq ?_
        refine awp_region ?_
        refine AL_upto (by exact rfl) (by simp only [go_sem, seval, hb_2133T, hb_2136]; exact rfl) ?_
        refine AL_nil ?_
        refine thenA_n ?_
        refine awp_ret ?_
        refine blockA_ret ?_
        refine thenA_ret ?_
        cases h
        refine ⟨rfl, ?_⟩
        refine retQ_ret (by simp only [Tryz.results122]; simp only [go_sem, seval, hb_2133T, hb_2136]; exact rfl) ?_
        simp only [go_sem, seval, hb_2133T, hb_2136]
        all_goals ((repeat' refine And.intro ?_ ?_) <;> first | rfl | (simp; done) | (simp; rfl) | (simp [*]; done) | (simp [*]; rfl))
      · rw [if_neg hb_2136] at h
        have hb_2136F := Bool.eq_false_iff.2 hb_2136
        refine awp_cf (by simp only [go_sem, seval, hb_2133T, hb_2136F]) ?_
        refine awp_skip ?_
        refine blockA_n ?_
        refine thenA_n ?_
        refine awp_region ?_
        refine AL_upto (by exact rfl) (by simp only [go_sem, seval, hb_2133T, hb_2136F]; exact rfl) ?_
        refine AL_nil ?_
        cases h
        refine ⟨rfl, ?_⟩
        simp only [go_sem, seval, hb_2133T, hb_2136F]
        all_goals ((repeat' refine And.intro ?_ ?_) <;> first | rfl | (simp; done) | (simp; rfl) | (simp [*]; done) | (simp [*]; rfl))
    · rw [if_neg hb_2133] at h
      have hb_2133T := eq_false hb_2133
      refine awp_cf (by simp only [go_sem, seval, hb_2133T]) ?_
      refine awp_exit ?_
      refine thenA_exit ?_
      cases h
      refine ⟨rfl, ?_⟩
      simp only [go_sem, seval, hb_2133T]
      all_goals ((repeat' refine And.intro ?_ ?_) <;> first | rfl | (simp; done) | (simp; rfl) | (simp [*]; done) | (simp [*]; rfl))
  · intro e s' hT
    rcases o_2137 with ⟨⟩ | r_2139
    · try simp only at h
      try simp only at hT
      obtain ⟨rfl, hle⟩ := hT
      refine Wk.to hle ?_
      clear hle
      refine blockA_here ?_
      refine thenA_n ?_
      refine awp_seq ?_
      refine awp_region ?_
      refine AL_upto (by exact rfl) (by simp only [go_sem, seval]; exact rfl) ?_
      refine AL_nil ?_
      refine thenA_n ?_
      refine awp_ret ?_
      cases h
      refine retQ_ret (by simp only [Tryz.results122]; simp only [go_sem, seval]; exact rfl) ?_
      simp only [go_sem, seval]
      all_goals ((repeat' refine And.intro ?_ ?_) <;> first | rfl | (simp; done) | (simp; rfl) | (simp [*]; done) | (simp [*]; rfl))
    · try simp only at h
      try simp only at hT
      obtain ⟨rfl, hq⟩ := hT
      refine Wk.now ?_
      refine blockA_ret ?_
      refine thenA_ret ?_
      cases h
      exact hq
end Go.Proofs.YtdmddoljldjjeaaGreat
set_option linter.unusedVariables false
set_option linter.unusedSimpArgs false
namespace Go.Proofs.YtdmddoljldjjeaaGreat
open Go Go.Ab
set_option maxHeartbeats 4000000 in
theorem drossref03_Names_con (l_2143 : List (List UInt8)) (r_2187 : Bool) (h : drossref03_Names l_2143 = some r_2187) : Con Tryz.prog 80 [(.slc (List.map PV.str l_2143))] (.bool r_2187) := by
  refine ⟨Tryz.call80, ?_⟩
  refine pure_of_awp Tryz.func80 rfl Tryz.ntmps80 (by simp) fun X w => ?_
  show AWp _ _ _ ⟨[(0, .p (.slc (List.map PV.str l_2143)))], []⟩
  simp only [drossref03_Names] at h
  refine awp_seq ?_
  refine awp_region ?_
  refine AL_upto (by exact rfl) (by simp only [go_sem, seval]; exact rfl) ?_
  refine AL_nil ?_
  refine thenA_n ?_
  refine awp_seq ?_
  refine awp_seq ?_
  refine awp_region ?_
  refine AL_upto (by exact rfl) (by simp only [go_sem, seval]; exact rfl) ?_
  refine AL_nil ?_
  refine thenA_n ?_
  refine awp_block ?_
  obtain ⟨o_2182, hL_2183, h⟩ := Option.bind_eq_some_iff.1 h
  refine awp_loop_L (fun (s : Int) => ⟨[(0, .p (.slc (List.map PV.str l_2143))), (3, .p (.int .i64 s))], []⟩) (fun (o : (Unit) ⊕ (Bool)) (e : Exit) (s' : St) => match o with | .inl o_2185 => e = (.exit 0) ∧ Le ⟨Tryz.prog, Tryz.f80.ntmps, 0, X, [], fun _ => none, w⟩ s' ⟨[], []⟩ | .inr o_2186 => e = .ret ∧ retQ Tryz.prog Tryz.f80 (.bool o_2186) .ret s') (by intro o s hT; rcases o with _ | _ <;> (have hh := hT.1; cases hh)) hL_2183 (by simp only [go_sem, seval]; all_goals ((repeat' refine And.intro ?_ ?_) <;> first | rfl | (simp; done) | (simp; rfl) | (simp [*]; done) | (simp [*]; rfl))) ?_ ?_
  · clear h
    intro i_2155 x h
    simp only [drossref03_Names_l1] at h
    show AWp _ _ _ ⟨[(0, .p (.slc (List.map PV.str l_2143))), (3, .p (.int .i64 i_2155))], []⟩
    refine awp_seq ?_
    refine awp_seq ?_
    refine awp_region ?_
    refine AL_upto (by exact rfl) (by simp only [go_sem, seval]; exact rfl) ?_
    refine AL_nil ?_
    refine thenA_n ?_
    by_cases hb_2169 : i_2155 < (l_2143.length : Int)
    · rw [if_pos hb_2169] at h
      have hb_2169T := eq_true hb_2169
      refine awp_ct (by simp only [go_sem, seval, hb_2169T]) ?_
      refine awp_skip ?_
      refine thenA_n ?_
      refine awp_seq ?_
      refine awp_block ?_
      refine awp_seq ?_
      refine awp_drawn_walk mixed (by decide) ?_
      obtain ⟨x_2170, hx_2171, h⟩ := Option.bind_eq_some_iff.1 h
      obtain ⟨hx_2171a, hx_2171, hx_2171b⟩ := idx_some hx_2171
      have hx_2171A := eq_true hx_2171a
      have hx_2171B := eq_true hx_2171b
      refine DGo.upto (by exact rfl) (by simp only [go_sem, seval, hb_2169T, hx_2171, hx_2171A, hx_2171B]; first | exact ⟨rfl, rfl⟩ | exact rfl) ?_
      obtain ⟨r_2172, hr_2173, h⟩ := Option.bind_eq_some_iff.1 h
      refine DGo.con' rfl (guard_none rfl) rfl (by simp only [go_sem, seval, hb_2169T]; exact rfl) (by simp only [go_sem, seval, hb_2169T]; all_goals ((repeat' refine And.intro ?_ ?_) <;> first | rfl | (simp; done) | (simp; rfl) | (simp [*]; done) | (simp [*]; rfl))) (by simp only [go_sem, seval, hb_2169T]; exact rfl) (drossref03_Name_con x_2170 _ hr_2173) (.inr rfl) rfl ?_
      refine DGo.upto (by exact rfl) (by simp only [go_sem, seval, hb_2169T]; first | exact ⟨rfl, rfl⟩ | exact rfl) ?_
      by_cases hb_2174 : r_2172 = true
      · rw [if_pos hb_2174] at h
        refine DGo.known' (d := 16) (v := .p (.bool false)) (by simp only [go_sem, seval, hb_2169T, hb_2174]) ?_
        refine DGo.gt' (guard_true' rfl rfl (by exact rfl) (by exact rfl)) rfl (by simp only [go_sem, seval, hb_2169T, hb_2174]; first | exact ⟨rfl, rfl⟩ | exact rfl) ?_
        refine DGo.gt' (guard_true' rfl rfl (by exact rfl) (by exact rfl)) rfl (by simp only [go_sem, seval, hb_2169T, hb_2174]; first | exact ⟨rfl, rfl⟩ | exact rfl) ?_
        obtain ⟨hc_2177, h⟩ := ite_some h
        have hc_2177T := eq_true hc_2177
        obtain ⟨hc_2178, h⟩ := ite_some h
        have hc_2178T := eq_true hc_2178
        refine DGo.gt' (guard_true' rfl rfl (by exact rfl) (by exact rfl)) rfl (by simp only [go_sem, seval, hb_2169T, hb_2174, hc_2177T, hc_2178T]; first | exact ⟨rfl, rfl⟩ | exact rfl) ?_
        refine DGo.gt' (guard_true' rfl rfl (by exact rfl) (by exact rfl)) rfl (by simp only [go_sem, seval, hb_2169T, hb_2174]; first | exact ⟨rfl, rfl⟩ | exact rfl) ?_
        refine DGo.gt' (guard_true' rfl rfl (by exact rfl) (by exact rfl)) rfl (by simp only [go_sem, seval, hb_2169T, hb_2174]; first | exact ⟨rfl, rfl⟩ | exact rfl) ?_
        refine DGo.gt' (guard_true' rfl rfl (by exact rfl) (by exact rfl)) rfl (by simp only [go_sem, seval, hb_2169T, hb_2174, hx_2171, hx_2171A, hx_2171B]; first | exact ⟨rfl, rfl⟩ | exact rfl) ?_
        refine DGo.gt' (guard_true' rfl rfl (by exact rfl) (by exact rfl)) rfl (by simp only [go_sem, seval, hb_2169T, hb_2174]; first | exact ⟨rfl, rfl⟩ | exact rfl) ?_
        obtain ⟨r_2179, hr_2180, h⟩ := Option.bind_eq_some_iff.1 h
        refine DGo.con' rfl (guard_true' rfl rfl (by exact rfl) (by exact rfl)) rfl (by simp only [go_sem, seval, hb_2169T, hb_2174]; exact rfl) (by simp only [go_sem, seval, hb_2169T, hb_2174]; all_goals ((repeat' refine And.intro ?_ ?_) <;> first | rfl | (simp; done) | (simp; rfl) | (simp [*]; done) | (simp [*]; rfl))) (by simp only [go_sem, seval, hb_2169T, hb_2174]; exact rfl) (drossref03_Attr_con (l_2143.take (i_2155.toNat)) x_2170 _ hr_2180) (.inr rfl) rfl ?_
        refine DGo.gt' (guard_true' rfl rfl (by exact rfl) (by exact rfl)) rfl (by simp only [go_sem, seval, hb_2169T, hb_2174]; first | exact ⟨rfl, rfl⟩ | exact rfl) ?_
        refine DGo.upto (by exact rfl) (by simp only [go_sem, seval, hb_2169T, hb_2174]; first | exact ⟨rfl, rfl⟩ | exact rfl) ?_
        refine DGo.fin rfl ?_
        refine thenA_n ?_
        by_cases hb_2181 : r_2179 ≥ 0
        · rw [if_pos hb_2181] at h
          have hb_2181T := eq_true hb_2181
          refine awp_ct (by simp only [go_sem, seval, hb_2169T, hb_2174, hb_2181T]) ?_
          refine awp_seq ?_
          refine awp_region ?_
          refine AL_upto (by exact rfl) (by simp only [go_sem, seval, hb_2169T, hb_2174, hb_2181T]; exact rfl) ?_
          refine AL_nil ?_
          refine thenA_n ?_
          refine awp_ret ?_
          refine blockA_ret ?_
          refine thenA_ret ?_
          cases h
          refine ⟨rfl, ?_⟩
          refine retQ_ret (by simp only [Tryz.results80]; simp only [go_sem, seval, hb_2169T, hb_2174, hb_2181T]; exact rfl) ?_
          simp only [go_sem, seval, hb_2169T, hb_2174, hb_2181T]
          all_goals ((repeat' refine And.intro ?_ ?_) <;> first | rfl | (simp; done) | (simp; rfl) | (simp [*]; done) | (simp [*]; rfl))
        · rw [if_neg hb_2181] at h
          have hb_2181T := eq_false hb_2181
          refine awp_cf (by simp only [go_sem, seval, hb_2169T, hb_2174, hb_2181T]) ?_
          refine awp_skip ?_
          refine blockA_n ?_
          refine thenA_n ?_
          refine awp_region ?_
          refine AL_upto (by exact rfl) (by simp only [go_sem, seval, hb_2169T, hb_2174, hb_2181T]; exact rfl) ?_
          refine AL_nil ?_
          cases h
          refine ⟨rfl, ?_⟩
          simp only [go_sem, seval, hb_2169T, hb_2174, hb_2181T]
          all_goals ((repeat' refine And.intro ?_ ?_) <;> first | rfl | (simp; done) | (simp; rfl) | (simp [*]; done) | (simp [*]; rfl))
      · rw [if_neg hb_2174] at h
        have hb_2174F := Bool.eq_false_iff.2 hb_2174
        refine DGo.known' (d := 16) (v := .p (.bool true)) (by simp only [go_sem, seval, hb_2169T, hb_2174F]) ?_
        refine DGo.skips (by exact rfl) ?_
        refine DGo.upto (by exact rfl) (by simp only [go_sem, seval, hb_2169T, hb_2174F]; first | exact ⟨rfl, rfl⟩ | exact rfl) ?_
        refine DGo.fin rfl ?_
        refine thenA_n ?_
        refine awp_ct (by simp only [go_sem, seval, hb_2169T, hb_2174F]) ?_
        refine awp_seq ?_
        refine awp_region ?_
        refine AL_upto (by exact rfl) (by simp only [go_sem, seval, hb_2169T, hb_2174F]; exact rfl) ?_
        refine AL_nil ?_
        refine thenA_n ?_
        refine awp_ret ?_
        refine blockA_ret ?_
        refine thenA_ret ?_
        cases h
        refine ⟨rfl, ?_⟩
        refine retQ_ret (by simp only [Tryz.results80]; simp only [go_sem, seval, hb_2169T, hb_2174F]; exact rfl) ?_
        simp only [go_sem, seval, hb_2169T, hb_2174F]
        all_goals ((repeat' refine And.intro ?_ ?_) <;> first | rfl | (simp; done) | (simp; rfl) | (simp [*]; done) | (simp [*]; rfl))
    · rw [if_neg hb_2169] at h
      have hb_2169T := eq_false hb_2169
      refine awp_cf (by simp only [go_sem, seval, hb_2169T]) ?_
      refine awp_exit ?_
      refine thenA_exit ?_
      cases h
      refine ⟨rfl, ?_⟩
      simp only [go_sem, seval, hb_2169T]
      all_goals ((repeat' refine And.intro ?_ ?_) <;> first | rfl | (simp; done) | (simp; rfl) | (simp [*]; done) | (simp [*]; rfl))
  · intro e s' hT
    rcases o_2182 with ⟨⟩ | r_2184
    · try simp only at h
      try simp only at hT
      obtain ⟨rfl, hle⟩ := hT
      refine Wk.to hle ?_
      clear hle
      refine blockA_here ?_
      refine thenA_n ?_
      refine awp_seq ?_
      refine awp_region ?_
      refine AL_upto (by exact rfl) (by simp only [go_sem, seval]; exact rfl) ?_
      refine AL_nil ?_
      refine thenA_n ?_
      refine awp_ret ?_
      cases h
      refine retQ_ret (by simp only [Tryz.results80]; simp only [go_sem, seval]; exact rfl) ?_
      simp only [go_sem, seval]
      all_goals ((repeat' refine And.intro ?_ ?_) <;> first | rfl | (simp; done) | (simp; rfl) | (simp [*]; done) | (simp [*]; rfl))
    · try simp only at h
      try simp only at hT
      obtain ⟨rfl, hq⟩ := hT
      refine Wk.now ?_
      refine blockA_ret ?_
      refine thenA_ret ?_
      cases h
      exact hq
end Go.Proofs.YtdmddoljldjjeaaGreat
set_option linter.unusedVariables false
set_option linter.unusedSimpArgs false
namespace Go.Proofs.YtdmddoljldjjeaaGreat
open Go Go.Ab
set_option maxHeartbeats 4000000 in
theorem drossref01_Valid_con (v_2188 : Value) (r_2196 : Bool) (h : drossref01_Valid v_2188 = some r_2196) : Con Tryz.prog 123 [(encValue v_2188)] (.bool r_2196) := by
  refine ⟨Tryz.call123, ?_⟩
  refine pure_of_awp Tryz.func123 rfl Tryz.ntmps123 (by simp) fun X w => ?_
  show AWp _ _ _ ⟨[(0, .p (encValue v_2188))], []⟩
  simp only [drossref01_Valid] at h
  refine awp_seq ?_
  refine awp_region ?_
  refine AL_upto (by exact rfl) (by simp only [go_sem, seval]; exact rfl) ?_
  refine AL_nil ?_
  refine thenA_n ?_
  refine awp_seq ?_
  refine awp_seq ?_
  refine awp_region ?_
  refine AL_upto (by exact rfl) (by simp only [go_sem, seval]; exact rfl) ?_
  refine AL_nil ?_
  refine thenA_n ?_
  refine awp_block ?_
  refine awp_seq ?_
  refine awp_region ?_
  refine AL_upto (by exact rfl) (by simp only [go_sem, seval]; exact rfl) ?_
  refine AL_nil ?_
  refine thenA_n ?_
  by_cases hb_2189 : (v_2188.Kind == 0) = true
  · rw [if_pos hb_2189] at h
    refine awp_ct (by simp only [go_sem, seval, hb_2189]) ?_
    refine awp_seq ?_
    refine awp_region ?_
    refine AL_upto (by exact rfl) (by simp only [go_sem, seval, hb_2189]; exact rfl) ?_
    by_cases hb_2190 : (v_2188.Num == 0) = true
    · rw [if_pos hb_2190] at h
      refine AL_known (d := 10) (v := .p (.bool true)) (by simp only [go_sem, seval, hb_2189, hb_2190]) ?_
      refine AL_gt' (guard_true' rfl rfl (by exact rfl) (by exact rfl)) rfl (by simp only [go_sem, seval, hb_2189, hb_2190]; exact rfl) ?_
      refine AL_gt' (guard_true' rfl rfl (by exact rfl) (by exact rfl)) rfl (by simp only [go_sem, seval, hb_2189, hb_2190]; exact rfl) ?_
      refine AL_gt' (guard_true' rfl rfl (by exact rfl) (by exact rfl)) rfl (by simp only [go_sem, seval, hb_2189, hb_2190]; exact rfl) ?_
      refine AL_upto (by exact rfl) (by simp only [go_sem, seval, hb_2189, hb_2190]; exact rfl) ?_
      refine AL_nil ?_
      refine thenA_n ?_
      refine awp_ret ?_
      refine blockA_ret ?_
      refine thenA_ret ?_
      cases h
      refine retQ_ret (by simp only [Tryz.results123]; simp only [go_sem, seval, hb_2189, hb_2190]; exact rfl) ?_
      simp only [go_sem, seval, hb_2189, hb_2190]
      all_goals ((repeat' refine And.intro ?_ ?_) <;> first | rfl | (simp; done) | (simp; rfl) | (simp [*]; done) | (simp [*]; rfl))
    · rw [if_neg hb_2190] at h
      have hb_2190F := Bool.eq_false_iff.2 hb_2190
      refine AL_known (d := 10) (v := .p (.bool false)) (by simp only [go_sem, seval, hb_2189, hb_2190F]) ?_
      refine AL_skips (by exact rfl) ?_
      refine AL_upto (by exact rfl) (by simp only [go_sem, seval, hb_2189, hb_2190F]; exact rfl) ?_
      refine AL_nil ?_
      refine thenA_n ?_
      refine awp_ret ?_
      refine blockA_ret ?_
      refine thenA_ret ?_
      cases h
      refine retQ_ret (by simp only [Tryz.results123]; simp only [go_sem, seval, hb_2189, hb_2190F]; exact rfl) ?_
      simp only [go_sem, seval, hb_2189, hb_2190F]
      all_goals ((repeat' refine And.intro ?_ ?_) <;> first | rfl | (simp; done) | (simp; rfl) | (simp [*]; done) | (simp [*]; rfl))
  · rw [if_neg hb_2189] at h
    have hb_2189F := Bool.eq_false_iff.2 hb_2189
    refine awp_cf (by simp only [go_sem, seval, hb_2189F]) ?_
    refine awp_seq ?_
    refine awp_region ?_
    refine AL_upto (by exact rfl) (by simp only [go_sem, seval, hb_2189F]; exact rfl) ?_
    refine AL_nil ?_
    refine thenA_n ?_
    by_cases hb_2191 : (v_2188.Kind == 1) = true
    · rw [if_pos hb_2191] at h
      refine awp_ct (by simp only [go_sem, seval, hb_2189F, hb_2191]) ?_
      refine awp_seq ?_
      refine awp_region ?_
      refine AL_upto (by exact rfl) (by simp only [go_sem, seval, hb_2189F, hb_2191]; exact rfl) ?_
      refine AL_nil ?_
      refine thenA_n ?_
      refine awp_ret ?_
      refine blockA_ret ?_
      refine thenA_ret ?_
      cases h
      refine retQ_ret (by simp only [Tryz.results123]; simp only [go_sem, seval, hb_2189F, hb_2191]; exact rfl) ?_
      simp only [go_sem, seval, hb_2189F, hb_2191]
      all_goals ((repeat' refine And.intro ?_ ?_) <;> first | rfl | (simp; done) | (simp; rfl) | (simp [*]; done) | (simp [*]; rfl))
    · rw [if_neg hb_2191] at h
      have hb_2191F := Bool.eq_false_iff.2 hb_2191
      refine awp_cf (by simp only [go_sem, seval, hb_2189F, hb_2191F]) ?_
      refine awp_seq ?_
      refine awp_region ?_
      refine AL_upto (by exact rfl) (by simp only [go_sem, seval, hb_2189F, hb_2191F]; exact rfl) ?_
      refine AL_nil ?_
      refine thenA_n ?_
      by_cases hb_2192 : (v_2188.Kind == 2) = true
      · rw [if_pos hb_2192] at h
        refine awp_ct (by simp only [go_sem, seval, hb_2189F, hb_2191F, hb_2192]) ?_
        refine awp_seq ?_
        refine awp_region ?_
        refine AL_upto (by exact rfl) (by simp only [go_sem, seval, hb_2189F, hb_2191F, hb_2192]; exact rfl) ?_
        by_cases hb_2193 : (v_2188.Num == 0) = true
        · rw [if_pos hb_2193] at h
          refine AL_known (d := 25) (v := .p (.bool true)) (by simp only [go_sem, seval, hb_2189F, hb_2191F, hb_2192, hb_2193]) ?_
          refine AL_gt' (guard_true' rfl rfl (by exact rfl) (by exact rfl)) rfl (by simp only [go_sem, seval, hb_2189F, hb_2191F, hb_2192, hb_2193]; exact rfl) ?_
          refine AL_gt' (guard_true' rfl rfl (by exact rfl) (by exact rfl)) rfl (by simp only [go_sem, seval, hb_2189F, hb_2191F, hb_2192, hb_2193]; exact rfl) ?_
          refine AL_gt' (guard_true' rfl rfl (by exact rfl) (by exact rfl)) rfl (by simp only [go_sem, seval, hb_2189F, hb_2191F, hb_2192, hb_2193]; exact rfl) ?_
          refine AL_gt' (guard_true' rfl rfl (by exact rfl) (by exact rfl)) rfl (by simp only [go_sem, seval, hb_2189F, hb_2191F, hb_2192, hb_2193]; exact rfl) ?_
          refine AL_upto (by exact rfl) (by simp only [go_sem, seval, hb_2189F, hb_2191F, hb_2192, hb_2193]; exact rfl) ?_
          refine AL_nil ?_
          refine thenA_n ?_
          refine awp_ret ?_
          refine blockA_ret ?_
          refine thenA_ret ?_
          cases h
          refine retQ_ret (by simp only [Tryz.results123]; simp only [go_sem, seval, hb_2189F, hb_2191F, hb_2192, hb_2193]; exact rfl) ?_
          simp only [go_sem, seval, hb_2189F, hb_2191F, hb_2192, hb_2193]
          all_goals ((repeat' refine And.intro ?_ ?_) <;> first | rfl | (simp; done) | (simp; rfl) | (simp [*]; done) | (simp [*]; rfl))
        · rw [if_neg hb_2193] at h
          have hb_2193F := Bool.eq_false_iff.2 hb_2193
          refine AL_known (d := 25) (v := .p (.bool false)) (by simp only [go_sem, seval, hb_2189F, hb_2191F, hb_2192, hb_2193F]) ?_
          refine AL_skips (by exact rfl) ?_
          refine AL_upto (by exact rfl) (by simp only [go_sem, seval, hb_2189F, hb_2191F, hb_2192, hb_2193F]; exact rfl) ?_
          refine AL_nil ?_
          refine thenA_n ?_
          refine awp_ret ?_
          refine blockA_ret ?_
          refine thenA_ret ?_
          cases h
          refine retQ_ret (by simp only [Tryz.results123]; simp only [go_sem, seval, hb_2189F, hb_2191F, hb_2192, hb_2193F]; exact rfl) ?_
          simp only [go_sem, seval, hb_2189F, hb_2191F, hb_2192, hb_2193F]
          all_goals ((repeat' refine And.intro ?_ ?_) <;> first | rfl | (simp; done) | (simp; rfl) | (simp [*]; done) | (simp [*]; rfl))
      · rw [if_neg hb_2192] at h
        have hb_2192F := Bool.eq_false_iff.2 hb_2192
        refine awp_cf (by simp only [go_sem, seval, hb_2189F, hb_2191F, hb_2192F]) ?_
        refine awp_skip ?_
        refine blockA_n ?_
        refine thenA_n ?_
        refine awp_seq ?_
        refine awp_region ?_
        refine AL_upto (by exact rfl) (by simp only [go_sem, seval, hb_2189F, hb_2191F, hb_2192F]; exact rfl) ?_
        by_cases hb_2194 : (v_2188.Kind == 3) = true
        · rw [if_pos hb_2194] at h
          refine AL_known (d := 34) (v := .p (.bool true)) (by simp only [go_sem, seval, hb_2189F, hb_2191F, hb_2192F, hb_2194]) ?_
          refine AL_gt' (guard_true' rfl rfl (by exact rfl) (by exact rfl)) rfl (by simp only [go_sem, seval, hb_2189F, hb_2191F, hb_2192F, hb_2194]; exact rfl) ?_
          refine AL_gt' (guard_true' rfl rfl (by exact rfl) (by exact rfl)) rfl (by simp only [go_sem, seval, hb_2189F, hb_2191F, hb_2192F, hb_2194]; exact rfl) ?_
          refine AL_gt' (guard_true' rfl rfl (by exact rfl) (by exact rfl)) rfl (by simp only [go_sem, seval, hb_2189F, hb_2191F, hb_2192F, hb_2194]; exact rfl) ?_
          refine AL_upto (by exact rfl) (by simp only [go_sem, seval, hb_2189F, hb_2191F, hb_2192F, hb_2194]; exact rfl) ?_
          by_cases hb_2195 : v_2188.Num ≥ 1
          · rw [if_pos hb_2195] at h
            have hb_2195T := eq_true hb_2195
            refine AL_known (d := 39) (v := .p (.bool true)) (by simp only [go_sem, seval, hb_2189F, hb_2191F, hb_2192F, hb_2194, hb_2195T]) ?_
            refine AL_gt' (guard_true' rfl rfl (by exact rfl) (by exact rfl)) rfl (by simp only [go_sem, seval, hb_2189F, hb_2191F, hb_2192F, hb_2194, hb_2195T]; exact rfl) ?_
            refine AL_gt' (guard_true' rfl rfl (by exact rfl) (by exact rfl)) rfl (by simp only [go_sem, seval, hb_2189F, hb_2191F, hb_2192F, hb_2194, hb_2195T]; exact rfl) ?_
            refine AL_gt' (guard_true' rfl rfl (by exact rfl) (by exact rfl)) rfl (by simp only [go_sem, seval, hb_2189F, hb_2191F, hb_2192F, hb_2194, hb_2195T]; exact rfl) ?_
            refine AL_upto (by exact rfl) (by simp only [go_sem, seval, hb_2189F, hb_2191F, hb_2192F, hb_2194, hb_2195T]; exact rfl) ?_
            refine AL_nil ?_
            refine thenA_n ?_
            refine awp_ret ?_
            cases h
            refine retQ_ret (by simp only [Tryz.results123]; simp only [go_sem, seval, hb_2189F, hb_2191F, hb_2192F, hb_2194, hb_2195T]; exact rfl) ?_
            simp only [go_sem, seval, hb_2189F, hb_2191F, hb_2192F, hb_2194, hb_2195T]
            all_goals ((repeat' refine And.intro ?_ ?_) <;> first | rfl | (simp; done) | (simp; rfl) | (simp [*]; done) | (simp [*]; rfl))
          · rw [if_neg hb_2195] at h
            have hb_2195T := eq_false hb_2195
            refine AL_known (d := 39) (v := .p (.bool false)) (by simp only [go_sem, seval, hb_2189F, hb_2191F, hb_2192F, hb_2194, hb_2195T]) ?_
            refine AL_skips (by exact rfl) ?_
            refine AL_upto (by exact rfl) (by simp only [go_sem, seval, hb_2189F, hb_2191F, hb_2192F, hb_2194, hb_2195T]; exact rfl) ?_
            refine AL_nil ?_
            refine thenA_n ?_
            refine awp_ret ?_
            cases h
            refine retQ_ret (by simp only [Tryz.results123]; simp only [go_sem, seval, hb_2189F, hb_2191F, hb_2192F, hb_2194, hb_2195T]; exact rfl) ?_
            simp only [go_sem, seval, hb_2189F, hb_2191F, hb_2192F, hb_2194, hb_2195T]
            all_goals ((repeat' refine And.intro ?_ ?_) <;> first | rfl | (simp; done) | (simp; rfl) | (simp [*]; done) | (simp [*]; rfl))
        · rw [if_neg hb_2194] at h
          have hb_2194F := Bool.eq_false_iff.2 hb_2194
          refine AL_known (d := 34) (v := .p (.bool false)) (by simp only [go_sem, seval, hb_2189F, hb_2191F, hb_2192F, hb_2194F]) ?_
          refine AL_skips (by exact rfl) ?_
          refine AL_upto (by exact rfl) (by simp only [go_sem, seval, hb_2189F, hb_2191F, hb_2192F, hb_2194F]; exact rfl) ?_
          refine AL_skips (by exact rfl) ?_
          refine AL_upto (by exact rfl) (by simp only [go_sem, seval, hb_2189F, hb_2191F, hb_2192F, hb_2194F]; exact rfl) ?_
          refine AL_nil ?_
          refine thenA_n ?_
          refine awp_ret ?_
          cases h
          refine retQ_ret (by simp only [Tryz.results123]; simp only [go_sem, seval, hb_2189F, hb_2191F, hb_2192F, hb_2194F]; exact rfl) ?_
          simp only [go_sem, seval, hb_2189F, hb_2191F, hb_2192F, hb_2194F]
          all_goals ((repeat' refine And.intro ?_ ?_) <;> first | rfl | (simp; done) | (simp; rfl) | (simp [*]; done) | (simp [*]; rfl))
end Go.Proofs.YtdmddoljldjjeaaGreat
set_option linter.unusedVariables false
set_option linter.unusedSimpArgs false
namespace Go.Proofs.YtdmddoljldjjeaaGreat
open Go Go.Ab
set_option maxHeartbeats 4000000 in
theorem drossref01_Valids_con (l_2197 : List Value) (r_2222 : Bool) (h : drossref01_Valids l_2197 = some r_2222) : Con Tryz.prog 81 [(.slc (List.map encValue l_2197))] (.bool r_2222) := by
  refine ⟨Tryz.call81, ?_⟩
  refine pure_of_awp Tryz.func81 rfl Tryz.ntmps81 (by simp) fun X w => ?_
  show AWp _ _ _ ⟨[(0, .p (.slc (List.map encValue l_2197)))], []⟩
  simp only [drossref01_Valids] at h
  refine awp_seq ?_
  refine awp_region ?_
  refine AL_upto (by exact rfl) (by simp only [go_sem, seval]; exact rfl) ?_
  refine AL_nil ?_
  refine thenA_n ?_
  refine awp_seq ?_
  refine awp_seq ?_
  refine awp_region ?_
  refine AL_upto (by exact rfl) (by simp only [go_sem, seval]; exact rfl) ?_
  refine AL_nil ?_
  refine thenA_n ?_
  refine awp_block ?_
  obtain ⟨o_2217, hL_2218, h⟩ := Option.bind_eq_some_iff.1 h
  refine awp_loop_L (fun (s : Int) => ⟨[(0, .p (.slc (List.map encValue l_2197))), (3, .p (.int .i64 s))], []⟩) (fun (o : (Unit) ⊕ (Bool)) (e : Exit) (s' : St) => match o with | .inl o_2220 => e = (.exit 0) ∧ Le ⟨Tryz.prog, Tryz.f81.ntmps, 0, X, [], fun _ => none, w⟩ s' ⟨[], []⟩ | .inr o_2221 => e = .ret ∧ retQ Tryz.prog Tryz.f81 (.bool o_2221) .ret s') (by intro o s hT; rcases o with _ | _ <;> (have hh := hT.1; cases hh)) hL_2218 (by simp only [go_sem, seval]; all_goals ((repeat' refine And.intro ?_ ?_) <;> first | rfl | (simp; done) | (simp; rfl) | (simp [*]; done) | (simp [*]; rfl))) ?_ ?_
  · clear h
    intro i_2204 x h
    simp only [drossref01_Valids_l1] at h
    show AWp _ _ _ ⟨[(0, .p (.slc (List.map encValue l_2197))), (3, .p (.int .i64 i_2204))], []⟩
    refine awp_seq ?_
    refine awp_seq ?_
    refine awp_region ?_
    refine AL_upto (by exact rfl) (by simp only [go_sem, seval]; exact rfl) ?_
    refine AL_nil ?_
    refine thenA_n ?_
    by_cases hb_2211 : i_2204 < (l_2197.length : Int)
    · rw [if_pos hb_2211] at h
      have hb_2211T := eq_true hb_2211
      refine awp_ct (by simp only [go_sem, seval, hb_2211T]) ?_
      refine awp_skip ?_
      refine thenA_n ?_
      refine awp_seq ?_
      refine awp_block ?_
      refine awp_seq ?_
      refine awp_region ?_
      obtain ⟨x_2212, hx_2213, h⟩ := Option.bind_eq_some_iff.1 h
      obtain ⟨hx_2213a, hx_2213, hx_2213b⟩ := idx_some hx_2213
      have hx_2213A := eq_true hx_2213a
      have hx_2213B := eq_true hx_2213b
      refine AL_upto (by exact rfl) (by simp only [go_sem, seval, hb_2211T, hx_2213, hx_2213A, hx_2213B]; exact rfl) ?_
      obtain ⟨r_2214, hr_2215, h⟩ := Option.bind_eq_some_iff.1 h
      refine AL_con' rfl (guard_none rfl) rfl (by simp only [go_sem, seval, hb_2211T]; exact rfl) (by simp only [go_sem, seval, hb_2211T]; all_goals ((repeat' refine And.intro ?_ ?_) <;> first | rfl | (simp; done) | (simp; rfl) | (simp [*]; done) | (simp [*]; rfl))) (drossref01_Valid_con x_2212 _ hr_2215) (.inr rfl) rfl ?_
      refine AL_upto (by exact rfl) (by simp only [go_sem, seval, hb_2211T]; exact rfl) ?_
      refine AL_nil ?_
      refine thenA_n ?_
      by_cases hb_2216 : r_2214 = true
      · rw [if_pos hb_2216] at h
        refine awp_cf (by simp only [go_sem, seval, hb_2211T, hb_2216]) ?_
        refine awp_skip ?_
        refine blockA_n ?_
        refine thenA_n ?_
        refine awp_region ?_
        refine AL_upto (by exact rfl) (by simp only [go_sem, seval, hb_2211T, hb_2216]; exact rfl) ?_
        refine AL_nil ?_
        cases h
        refine ⟨rfl, ?_⟩
        simp only [go_sem, seval, hb_2211T, hb_2216]
        all_goals ((repeat' refine And.intro ?_ ?_) <;> first | rfl | (simp; done) | (simp; rfl) | (simp [*]; done) | (simp [*]; rfl))
      · rw [if_neg hb_2216] at h
        have hb_2216F := Bool.eq_false_iff.2 hb_2216
        refine awp_ct (by simp only [go_sem, seval, hb_2211T, hb_2216F]) ?_
        refine awp_seq ?_
        refine awp_region ?_
        refine AL_upto (by exact rfl) (by simp only [go_sem, seval, hb_2211T, hb_2216F]; exact rfl) ?_
        refine AL_nil ?_
        refine thenA_n ?_
        refine awp_ret ?_
        refine blockA_ret ?_
        refine thenA_ret ?_
        cases h
        refine ⟨rfl, ?_⟩
        refine retQ_ret (by simp only [Tryz.results81]; simp only [go_sem, seval, hb_2211T, hb_2216F]; exact rfl) ?_
        simp only [go_sem, seval, hb_2211T, hb_2216F]
        all_goals ((repeat' refine And.intro ?_ ?_) <;> first | rfl | (simp; done) | (simp; rfl) | (simp [*]; done) | (simp [*]; rfl))
    · rw [if_neg hb_2211] at h
      have hb_2211T := eq_false hb_2211
      refine awp_cf (by simp only [go_sem, seval, hb_2211T]) ?_
      refine awp_exit ?_
      refine thenA_exit ?_
      cases h
      refine ⟨rfl, ?_⟩
      simp only [go_sem, seval, hb_2211T]
      all_goals ((repeat' refine And.intro ?_ ?_) <;> first | rfl | (simp; done) | (simp; rfl) | (simp [*]; done) | (simp [*]; rfl))
  · intro e s' hT
    rcases o_2217 with ⟨⟩ | r_2219
    · try simp only at h
      try simp only at hT
      obtain ⟨rfl, hle⟩ := hT
      refine Wk.to hle ?_
      clear hle
      refine blockA_here ?_
      refine thenA_n ?_
      refine awp_seq ?_
      refine awp_region ?_
      refine AL_upto (by exact rfl) (by simp only [go_sem, seval]; exact rfl) ?_
      refine AL_nil ?_
      refine thenA_n ?_
      refine awp_ret ?_
      cases h
      refine retQ_ret (by simp only [Tryz.results81]; simp only [go_sem, seval]; exact rfl) ?_
      simp only [go_sem, seval]
      all_goals ((repeat' refine And.intro ?_ ?_) <;> first | rfl | (simp; done) | (simp; rfl) | (simp [*]; done) | (simp [*]; rfl))
    · try simp only at h
      try simp only at hT
      obtain ⟨rfl, hq⟩ := hT
      refine Wk.now ?_
      refine blockA_ret ?_
      refine thenA_ret ?_
      cases h
      exact hq
end Go.Proofs.YtdmddoljldjjeaaGreat
set_option linter.unusedVariables false
set_option linter.unusedSimpArgs false
namespace Go.Proofs.YtdmddoljldjjeaaGreat
open Go Go.Ab
set_option maxHeartbeats 4000000 in
theorem drossref03_Valid_con (t_2223 : Table) (r_2269 : Int) (h : drossref03_Valid t_2223 = some r_2269) : Con Tryz.prog 41 [(encTable t_2223)] (.int .i64 r_2269) := by
  refine ⟨Tryz.call41, ?_⟩
  refine pure_of_awp Tryz.func41 rfl Tryz.ntmps41 (by simp) fun X w => ?_
  show AWp _ _ _ ⟨[(0, .p (encTable t_2223))], []⟩
  simp only [drossref03_Valid] at h
  refine awp_seq ?_
  refine awp_region ?_
  refine AL_upto (by exact rfl) (by simp only [go_sem, seval]; exact rfl) ?_
  refine AL_nil ?_
  refine thenA_n ?_
  refine awp_seq ?_
  refine awp_seq ?_
  refine awp_region ?_
  refine AL_upto (by exact rfl) (by simp only [go_sem, seval]; exact rfl) ?_
  obtain ⟨r_2224, hr_2225, h⟩ := Option.bind_eq_some_iff.1 h
  refine AL_con' rfl (guard_none rfl) rfl (by simp only [go_sem, seval]; exact rfl) (by simp only [go_sem, seval]; all_goals ((repeat' refine And.intro ?_ ?_) <;> first | rfl | (simp; done) | (simp; rfl) | (simp [*]; done) | (simp [*]; rfl))) (drossref03_Name_con t_2223.Name _ hr_2225) (.inr rfl) rfl ?_
  refine AL_upto (by exact rfl) (by simp only [go_sem, seval]; exact rfl) ?_
  refine AL_nil ?_
  refine thenA_n ?_
  by_cases hb_2226 : r_2224 = true
  · rw [if_pos hb_2226] at h
    refine awp_cf (by simp only [go_sem, seval, hb_2226]) ?_
    refine awp_skip ?_
    refine thenA_n ?_
    refine awp_seq ?_
    refine awp_seq ?_
    refine awp_region ?_
    refine AL_upto (by exact rfl) (by simp only [go_sem, seval, hb_2226]; exact rfl) ?_
    by_cases hb_2227 : (t_2223.Attrs.length : Int) > 16
    · rw [if_pos hb_2227] at h
      have hb_2227T := eq_true hb_2227
      refine AL_known (d := 14) (v := .p (.bool true)) (by simp only [go_sem, seval, hb_2226, hb_2227T]) ?_
      refine AL_skips (by exact rfl) ?_
      refine AL_upto (by exact rfl) (by simp only [go_sem, seval, hb_2226, hb_2227T]; exact rfl) ?_
      refine AL_nil ?_
      refine thenA_n ?_
      refine awp_ct (by simp only [go_sem, seval, hb_2226, hb_2227T]) ?_
      refine awp_seq ?_
      refine awp_region ?_
      refine AL_upto (by exact rfl) (by simp only [go_sem, seval, hb_2226, hb_2227T]; exact rfl) ?_
      refine AL_nil ?_
      refine thenA_n ?_
      refine awp_ret ?_
      refine thenA_ret ?_
      cases h
      refine retQ_ret (by simp only [Tryz.results41]; simp only [go_sem, seval, hb_2226, hb_2227T]; exact rfl) ?_
      simp only [go_sem, seval, hb_2226, hb_2227T]
      all_goals ((repeat' refine And.intro ?_ ?_) <;> first | rfl | (simp; done) | (simp; rfl) | (simp [*]; done) | (simp [*]; rfl))
    · rw [if_neg hb_2227] at h
      have hb_2227T := eq_false hb_2227
      refine AL_known (d := 14) (v := .p (.bool false)) (by simp only [go_sem, seval, hb_2226, hb_2227T]) ?_
      refine AL_gt' (guard_true' rfl rfl (by exact rfl) (by exact rfl)) rfl (by simp only [go_sem, seval, hb_2226, hb_2227T]; exact rfl) ?_
      refine AL_gt' (guard_true' rfl rfl (by exact rfl) (by exact rfl)) rfl (by simp only [go_sem, seval, hb_2226, hb_2227T]; exact rfl) ?_
      refine AL_gt' (guard_true' rfl rfl (by exact rfl) (by exact rfl)) rfl (by simp only [go_sem, seval, hb_2226, hb_2227T]; exact rfl) ?_
      refine AL_gt' (guard_true' rfl rfl (by exact rfl) (by exact rfl)) rfl (by simp only [go_sem, seval, hb_2226, hb_2227T]; exact rfl) ?_
      refine AL_upto (by exact rfl) (by simp only [go_sem, seval, hb_2226, hb_2227T]; exact rfl) ?_
      refine AL_nil ?_
      refine thenA_n ?_
      by_cases hb_2228 : (t_2223.Rows.length : Int) > 1000
      · rw [if_pos hb_2228] at h
        have hb_2228T := eq_true hb_2228
        refine awp_ct (by simp only [go_sem, seval, hb_2226, hb_2227T, hb_2228T]) ?_
        refine awp_seq ?_
        refine awp_region ?_
        refine AL_upto (by exact rfl) (by simp only [go_sem, seval, hb_2226, hb_2227T, hb_2228T]; exact rfl) ?_
        refine AL_nil ?_
        refine thenA_n ?_
        refine awp_ret ?_
        refine thenA_ret ?_
        cases h
        refine retQ_ret (by simp only [Tryz.results41]; simp only [go_sem, seval, hb_2226, hb_2227T, hb_2228T]; exact rfl) ?_
        simp only [go_sem, seval, hb_2226, hb_2227T, hb_2228T]
        all_goals ((repeat' refine And.intro ?_ ?_) <;> first | rfl | (simp; done) | (simp; rfl) | (simp [*]; done) | (simp [*]; rfl))
      · rw [if_neg hb_2228] at h
        have hb_2228T := eq_false hb_2228
        refine awp_cf (by simp only [go_sem, seval, hb_2226, hb_2227T, hb_2228T]) ?_
        refine awp_skip ?_
        refine thenA_n ?_
        refine awp_seq ?_
        refine awp_seq ?_
        refine awp_region ?_
        refine AL_upto (by exact rfl) (by simp only [go_sem, seval, hb_2226, hb_2227T, hb_2228T]; exact rfl) ?_
        obtain ⟨r_2229, hr_2230, h⟩ := Option.bind_eq_some_iff.1 h
        refine AL_con' rfl (guard_none rfl) rfl (by simp only [go_sem, seval, hb_2226, hb_2227T, hb_2228T]; exact rfl) (by simp only [go_sem, seval, hb_2226, hb_2227T, hb_2228T]; all_goals ((repeat' refine And.intro ?_ ?_) <;> first | rfl | (simp; done) | (simp; rfl) | (simp [*]; done) | (simp [*]; rfl))) (drossref03_Names_con t_2223.Attrs _ hr_2230) (.inr rfl) rfl ?_
        refine AL_upto (by exact rfl) (by simp only [go_sem, seval, hb_2226, hb_2227T, hb_2228T]; exact rfl) ?_
        refine AL_nil ?_
        refine thenA_n ?_
        by_cases hb_2231 : r_2229 = true
        · rw [if_pos hb_2231] at h
          refine awp_cf (by simp only [go_sem, seval, hb_2226, hb_2227T, hb_2228T, hb_2231]) ?_
          refine awp_skip ?_
          refine thenA_n ?_
          refine awp_seq ?_
          refine awp_region ?_
          refine AL_upto (by exact rfl) (by simp only [go_sem, seval, hb_2226, hb_2227T, hb_2228T, hb_2231]; exact rfl) ?_
          refine AL_nil ?_
          refine thenA_n ?_
          refine awp_seq ?_
          refine awp_seq ?_
          refine awp_region ?_
          refine AL_upto (by exact rfl) (by simp only [go_sem, seval, hb_2226, hb_2227T, hb_2228T, hb_2231]; exact rfl) ?_
          refine AL_nil ?_
          refine thenA_n ?_
          refine awp_block ?_
          obtain ⟨o_2264, hL_2265, h⟩ := Option.bind_eq_some_iff.1 h
          refine awp_loop_L (fun (s : Int × Int) => ⟨[(1, .loc 1 1 0 0), (3, .p (.int .i64 s.1)), (4, .p (.int .i64 s.2))], [(1, .arr 25 3 1 [.p (encTable t_2223)])]⟩) (fun (o : (Unit) ⊕ (Int)) (e : Exit) (s' : St) => match o with | .inl o_2267 => e = (.exit 0) ∧ Le ⟨Tryz.prog, Tryz.f41.ntmps, 0, X, [], fun _ => none, w⟩ s' ⟨[], []⟩ | .inr o_2268 => e = .ret ∧ retQ Tryz.prog Tryz.f41 (.int .i64 o_2268) .ret s') (by intro o s hT; rcases o with _ | _ <;> (have hh := hT.1; cases hh)) hL_2265 (by simp only [go_sem, seval, hb_2226, hb_2227T, hb_2228T, hb_2231]; all_goals ((repeat' refine And.intro ?_ ?_) <;> first | rfl | (simp; done) | (simp; rfl) | (simp [*]; done) | (simp [*]; rfl))) ?_ ?_
          · clear h
            intro s x h
            obtain ⟨before_2242, i_2243⟩ := s
            simp only [drossref03_Valid_l1] at h
            show AWp _ _ _ ⟨[(1, .loc 1 1 0 0), (3, .p (.int .i64 before_2242)), (4, .p (.int .i64 i_2243))], [(1, .arr 25 3 1 [.p (encTable t_2223)])]⟩
            refine awp_seq ?_
            refine awp_seq ?_
            refine awp_region ?_
            refine AL_upto (by exact rfl) (by simp only [go_sem, seval]; exact rfl) ?_
            refine AL_nil ?_
            refine thenA_n ?_
            by_cases hb_2254 : i_2243 < (t_2223.Rows.length : Int)
            · rw [if_pos hb_2254] at h
              have hb_2254T := eq_true hb_2254
              refine awp_ct (by simp only [go_sem, seval, hb_2254T]) ?_
              refine awp_skip ?_
              refine thenA_n ?_
              refine awp_seq ?_
              refine awp_block ?_
              refine awp_seq ?_
              refine awp_region ?_
              obtain ⟨x_2257, hx_2258, h⟩ := Option.bind_eq_some_iff.1 h
              obtain ⟨hx_2258a, hx_2258, hx_2258b⟩ := idx_some hx_2258
              have hx_2258A := eq_true hx_2258a
              have hx_2258B := eq_true hx_2258b
              refine AL_upto (by exact rfl) (by simp only [go_sem, seval, hb_2254T, hx_2258, hx_2258A, hx_2258B]; exact rfl) ?_
              refine AL_nil ?_
              refine thenA_n ?_
              refine awp_seq ?_
              refine awp_seq ?_
              refine awp_region ?_
              refine AL_upto (by exact rfl) (by simp only [go_sem, seval, hb_2254T]; exact rfl) ?_
              refine AL_nil ?_
              refine thenA_n ?_
              by_cases hb_2259 : x_2257.ID ≤ before_2242
              · rw [if_pos hb_2259] at h
                have hb_2259T := eq_true hb_2259
                refine awp_ct (by simp only [go_sem, seval, hb_2254T, hb_2259T]) ?_
                refine awp_seq ?_
                refine awp_region ?_
                refine AL_upto (by exact rfl) (by simp only [go_sem, seval, hb_2254T, hb_2259T]; exact rfl) ?_
                refine AL_nil ?_
                refine thenA_n ?_
                refine awp_ret ?_
                refine thenA_ret ?_
                refine blockA_ret ?_
                refine thenA_ret ?_
                cases h
                refine ⟨rfl, ?_⟩
                refine retQ_ret (by simp only [Tryz.results41]; simp only [go_sem, seval, hb_2254T, hb_2259T]; exact rfl) ?_
                simp only [go_sem, seval, hb_2254T, hb_2259T]
                all_goals ((repeat' refine And.intro ?_ ?_) <;> first | rfl | (simp; done) | (simp; rfl) | (simp [*]; done) | (simp [*]; rfl))
              · rw [if_neg hb_2259] at h
                have hb_2259T := eq_false hb_2259
                refine awp_cf (by simp only [go_sem, seval, hb_2254T, hb_2259T]) ?_
                refine awp_skip ?_
                refine thenA_n ?_
                refine awp_seq ?_
                refine awp_region ?_
                refine AL_upto (by exact rfl) (by simp only [go_sem, seval, hb_2254T, hb_2259T]; exact rfl) ?_
                refine AL_nil ?_
                refine thenA_n ?_
                refine awp_seq ?_
                refine awp_seq ?_
                refine awp_region ?_
                refine AL_upto (by exact rfl) (by simp only [go_sem, seval, hb_2254T, hb_2259T]; exact rfl) ?_
                refine AL_nil ?_
                refine thenA_n ?_
                by_cases hb_2260 : ((x_2257.Values.length : Int) != (t_2223.Attrs.length : Int)) = true
                · rw [if_pos hb_2260] at h
                  refine awp_ct (by simp only [go_sem, seval, hb_2254T, hb_2259T, hb_2260]) ?_
                  refine awp_seq ?_
                  refine awp_region ?_
                  refine AL_upto (by exact rfl) (by simp only [go_sem, seval, hb_2254T, hb_2259T, hb_2260]; exact rfl) ?_
                  refine AL_nil ?_
                  refine thenA_n ?_
                  refine awp_ret ?_
                  refine thenA_ret ?_
                  refine blockA_ret ?_
                  refine thenA_ret ?_
                  cases h
                  refine ⟨rfl, ?_⟩
                  refine retQ_ret (by simp only [Tryz.results41]; simp only [go_sem, seval, hb_2254T, hb_2259T, hb_2260]; exact rfl) ?_
                  simp only [go_sem, seval, hb_2254T, hb_2259T, hb_2260]
                  all_goals ((repeat' refine And.intro ?_ ?_) <;> first | rfl | (simp; done) | (simp; rfl) | (simp [*]; done) | (simp [*]; rfl))
                · rw [if_neg hb_2260] at h
                  have hb_2260F := Bool.eq_false_iff.2 hb_2260
                  refine awp_cf (by simp only [go_sem, seval, hb_2254T, hb_2259T, hb_2260F]) ?_
                  refine awp_skip ?_
                  refine thenA_n ?_
                  refine awp_seq ?_
                  refine awp_region ?_
                  refine AL_upto (by exact rfl) (by simp only [go_sem, seval, hb_2254T, hb_2259T, hb_2260F]; exact rfl) ?_
                  obtain ⟨r_2261, hr_2262, h⟩ := Option.bind_eq_some_iff.1 h
                  refine AL_con' rfl (guard_none rfl) rfl (by simp only [go_sem, seval, hb_2254T, hb_2259T, hb_2260F]; exact rfl) (by simp only [go_sem, seval, hb_2254T, hb_2259T, hb_2260F]; all_goals ((repeat' refine And.intro ?_ ?_) <;> first | rfl | (simp; done) | (simp; rfl) | (simp [*]; done) | (simp [*]; rfl))) (drossref01_Valids_con x_2257.Values _ hr_2262) (.inr rfl) rfl ?_
                  refine AL_upto (by exact rfl) (by simp only [go_sem, seval, hb_2254T, hb_2259T, hb_2260F]; exact rfl) ?_
                  refine AL_nil ?_
                  refine thenA_n ?_
                  by_cases hb_2263 : r_2261 = true
                  · rw [if_pos hb_2263] at h
                    refine awp_cf (by simp only [go_sem, seval, hb_2254T, hb_2259T, hb_2260F, hb_2263]) ?_
                    refine awp_skip ?_
                    refine blockA_n ?_
                    refine thenA_n ?_
                    refine awp_region ?_
                    refine AL_upto (by exact rfl) (by simp only [go_sem, seval, hb_2254T, hb_2259T, hb_2260F, hb_2263]; exact rfl) ?_
                    refine AL_nil ?_
                    cases h
                    refine ⟨rfl, ?_⟩
                    simp only [go_sem, seval, hb_2254T, hb_2259T, hb_2260F, hb_2263]
                    all_goals ((repeat' refine And.intro ?_ ?_) <;> first | rfl | (simp; done) | (simp; rfl) | (simp [*]; done) | (simp [*]; rfl))
                  · rw [if_neg hb_2263] at h
                    have hb_2263F := Bool.eq_false_iff.2 hb_2263
                    refine awp_ct (by simp only [go_sem, seval, hb_2254T, hb_2259T, hb_2260F, hb_2263F]) ?_
                    refine awp_seq ?_
                    refine awp_region ?_
                    refine AL_upto (by exact rfl) (by simp only [go_sem, seval, hb_2254T, hb_2259T, hb_2260F, hb_2263F]; exact rfl) ?_
                    refine AL_nil ?_
                    refine thenA_n ?_
                    refine awp_ret ?_
                    refine blockA_ret ?_
                    refine thenA_ret ?_
                    cases h
                    refine ⟨rfl, ?_⟩
                    refine retQ_ret (by simp only [Tryz.results41]; simp only [go_sem, seval, hb_2254T, hb_2259T, hb_2260F, hb_2263F]; exact rfl) ?_
                    simp only [go_sem, seval, hb_2254T, hb_2259T, hb_2260F, hb_2263F]
                    all_goals ((repeat' refine And.intro ?_ ?_) <;> first | rfl | (simp; done) | (simp; rfl) | (simp [*]; done) | (simp [*]; rfl))
            · rw [if_neg hb_2254] at h
              have hb_2254T := eq_false hb_2254
              refine awp_cf (by simp only [go_sem, seval, hb_2254T]) ?_
              refine awp_exit ?_
              refine thenA_exit ?_
              cases h
              refine ⟨rfl, ?_⟩
              simp only [go_sem, seval, hb_2254T]
              all_goals ((repeat' refine And.intro ?_ ?_) <;> first | rfl | (simp; done) | (simp; rfl) | (simp [*]; done) | (simp [*]; rfl))
          · intro e s' hT
            rcases o_2264 with ⟨⟩ | r_2266
            · try simp only at h
              try simp only at hT
              obtain ⟨rfl, hle⟩ := hT
              refine Wk.to hle ?_
              clear hle
              refine blockA_here ?_
              refine thenA_n ?_
              refine awp_seq ?_
              refine awp_region ?_
              refine AL_upto (by exact rfl) (by simp only [go_sem, seval, hb_2226, hb_2227T, hb_2228T, hb_2231]; exact rfl) ?_
              refine AL_nil ?_
              refine thenA_n ?_
              refine awp_ret ?_
              cases h
              refine retQ_ret (by simp only [Tryz.results41]; simp only [go_sem, seval, hb_2226, hb_2227T, hb_2228T, hb_2231]; exact rfl) ?_
              simp only [go_sem, seval, hb_2226, hb_2227T, hb_2228T, hb_2231]
              all_goals ((repeat' refine And.intro ?_ ?_) <;> first | rfl | (simp; done) | (simp; rfl) | (simp [*]; done) | (simp [*]; rfl))
            · try simp only at h
              try simp only at hT
              obtain ⟨rfl, hq⟩ := hT
              refine Wk.now ?_
              refine blockA_ret ?_
              refine thenA_ret ?_
              cases h
              exact hq
        · rw [if_neg hb_2231] at h
          have hb_2231F := Bool.eq_false_iff.2 hb_2231
          refine awp_ct (by simp only [go_sem, seval, hb_2226, hb_2227T, hb_2228T, hb_2231F]) ?_
          refine awp_seq ?_
          refine awp_region ?_
          refine AL_upto (by exact rfl) (by simp only [go_sem, seval, hb_2226, hb_2227T, hb_2228T, hb_2231F]; exact rfl) ?_
          refine AL_nil ?_
          refine thenA_n ?_
          refine awp_ret ?_
          refine thenA_ret ?_
          cases h
          refine retQ_ret (by simp only [Tryz.results41]; simp only [go_sem, seval, hb_2226, hb_2227T, hb_2228T, hb_2231F]; exact rfl) ?_
          simp only [go_sem, seval, hb_2226, hb_2227T, hb_2228T, hb_2231F]
          all_goals ((repeat' refine And.intro ?_ ?_) <;> first | rfl | (simp; done) | (simp; rfl) | (simp [*]; done) | (simp [*]; rfl))
  · rw [if_neg hb_2226] at h
    have hb_2226F := Bool.eq_false_iff.2 hb_2226
    refine awp_ct (by simp only [go_sem, seval, hb_2226F]) ?_
    refine awp_seq ?_
    refine awp_region ?_
    refine AL_upto (by exact rfl) (by simp only [go_sem, seval, hb_2226F]; exact rfl) ?_
    refine AL_nil ?_
    refine thenA_n ?_
    refine awp_ret ?_
    refine thenA_ret ?_
    cases h
    refine retQ_ret (by simp only [Tryz.results41]; simp only [go_sem, seval, hb_2226F]; exact rfl) ?_
    simp only [go_sem, seval, hb_2226F]
    all_goals ((repeat' refine And.intro ?_ ?_) <;> first | rfl | (simp; done) | (simp; rfl) | (simp [*]; done) | (simp [*]; rfl))
end Go.Proofs.YtdmddoljldjjeaaGreat
set_option linter.unusedVariables false
set_option linter.unusedSimpArgs false
namespace Go.Proofs.YtdmddoljldjjeaaGreat
open Go Go.Ab
set_option maxHeartbeats 4000000 in
theorem drossref55_Rules_con (l_2270 : List Int) (r_2292 : Bool) (h : drossref55_Rules l_2270 = some r_2292) : Con Tryz.prog 42 [(.slc (List.map (PV.int .i64) l_2270))] (.bool r_2292) := by
  refine ⟨Tryz.call42, ?_⟩
  refine pure_of_awp Tryz.func42 rfl Tryz.ntmps42 (by simp) fun X w => ?_
  show AWp _ _ _ ⟨[(0, .p (.slc (List.map (PV.int .i64) l_2270)))], []⟩
  simp only [drossref55_Rules] at h
  refine awp_seq ?_
  refine awp_region ?_
  refine AL_upto (by exact rfl) (by simp only [go_sem, seval]; exact rfl) ?_
  refine AL_nil ?_
  refine thenA_n ?_
  refine awp_seq ?_
  refine awp_seq ?_
  refine awp_region ?_
  refine AL_upto (by exact rfl) (by simp only [go_sem, seval]; exact rfl) ?_
  refine AL_nil ?_
  refine thenA_n ?_
  refine awp_block ?_
  obtain ⟨o_2287, hL_2288, h⟩ := Option.bind_eq_some_iff.1 h
  refine awp_loop_L (fun (s : Int) => ⟨[(0, .p (.slc (List.map (PV.int .i64) l_2270))), (3, .p (.int .i64 s))], []⟩) (fun (o : (Unit) ⊕ (Bool)) (e : Exit) (s' : St) => match o with | .inl o_2290 => e = (.exit 0) ∧ Le ⟨Tryz.prog, Tryz.f42.ntmps, 0, X, [], fun _ => none, w⟩ s' ⟨[], []⟩ | .inr o_2291 => e = .ret ∧ retQ Tryz.prog Tryz.f42 (.bool o_2291) .ret s') (by intro o s hT; rcases o with _ | _ <;> (have hh := hT.1; cases hh)) hL_2288 (by simp only [go_sem, seval]; all_goals ((repeat' refine And.intro ?_ ?_) <;> first | rfl | (simp; done) | (simp; rfl) | (simp [*]; done) | (simp [*]; rfl))) ?_ ?_
  · clear h
    intro i_2276 x h
    simp only [drossref55_Rules_l1] at h
    show AWp _ _ _ ⟨[(0, .p (.slc (List.map (PV.int .i64) l_2270))), (3, .p (.int .i64 i_2276))], []⟩
    refine awp_seq ?_
    refine awp_seq ?_
    refine awp_region ?_
    refine AL_upto (by exact rfl) (by simp only [go_sem, seval]; exact rfl) ?_
    refine AL_nil ?_
    refine thenA_n ?_
    by_cases hb_2282 : i_2276 < (l_2270.length : Int)
    · rw [if_pos hb_2282] at h
      have hb_2282T := eq_true hb_2282
      refine awp_ct (by simp only [go_sem, seval, hb_2282T]) ?_
      refine awp_skip ?_
      refine thenA_n ?_
      refine awp_seq ?_
      refine awp_block ?_
      refine awp_seq ?_
      refine awp_region ?_
      obtain ⟨x_2283, hx_2284, h⟩ := Option.bind_eq_some_iff.1 h
      obtain ⟨hx_2284a, hx_2284, hx_2284b⟩ := idx_some hx_2284
      have hx_2284A := eq_true hx_2284a
      have hx_2284B := eq_true hx_2284b
      refine AL_upto (by exact rfl) (by simp only [go_sem, seval, hb_2282T, hx_2284, hx_2284A, hx_2284B]; exact rfl) ?_
      by_cases hb_2285 : x_2283 < 1
      · rw [if_pos hb_2285] at h
        have hb_2285T := eq_true hb_2285
        refine AL_known (d := 15) (v := .p (.bool true)) (by simp only [go_sem, seval, hb_2282T, hb_2285T]) ?_
        refine AL_skips (by exact rfl) ?_
        refine AL_upto (by exact rfl) (by simp only [go_sem, seval, hb_2282T, hb_2285T]; exact rfl) ?_
        refine AL_nil ?_
        refine thenA_n ?_
        refine awp_ct (by simp only [go_sem, seval, hb_2282T, hb_2285T]) ?_
        refine awp_seq ?_
        refine awp_region ?_
        refine AL_upto (by exact rfl) (by simp only [go_sem, seval, hb_2282T, hb_2285T]; exact rfl) ?_
        refine AL_nil ?_
        refine thenA_n ?_
        refine awp_ret ?_
        refine blockA_ret ?_
        refine thenA_ret ?_
        cases h
        refine ⟨rfl, ?_⟩
        refine retQ_ret (by simp only [Tryz.results42]; simp only [go_sem, seval, hb_2282T, hb_2285T]; exact rfl) ?_
        simp only [go_sem, seval, hb_2282T, hb_2285T]
        all_goals ((repeat' refine And.intro ?_ ?_) <;> first | rfl | (simp; done) | (simp; rfl) | (simp [*]; done) | (simp [*]; rfl))
      · rw [if_neg hb_2285] at h
        have hb_2285T := eq_false hb_2285
        refine AL_known (d := 15) (v := .p (.bool false)) (by simp only [go_sem, seval, hb_2282T, hb_2285T]) ?_
        refine AL_gt' (guard_true' rfl rfl (by exact rfl) (by exact rfl)) rfl (by simp only [go_sem, seval, hb_2282T, hb_2285T]; exact rfl) ?_
        refine AL_gt' (guard_true' rfl rfl (by exact rfl) (by exact rfl)) rfl (by simp only [go_sem, seval, hb_2282T, hb_2285T]; exact rfl) ?_
        refine AL_gt' (guard_true' rfl rfl (by exact rfl) (by exact rfl)) rfl (by simp only [go_sem, seval, hb_2282T, hb_2285T, hx_2284, hx_2284A, hx_2284B]; exact rfl) ?_
        refine AL_gt' (guard_true' rfl rfl (by exact rfl) (by exact rfl)) rfl (by simp only [go_sem, seval, hb_2282T, hb_2285T]; exact rfl) ?_
        refine AL_gt' (guard_true' rfl rfl (by exact rfl) (by exact rfl)) rfl (by simp only [go_sem, seval, hb_2282T, hb_2285T]; exact rfl) ?_
        refine AL_upto (by exact rfl) (by simp only [go_sem, seval, hb_2282T, hb_2285T]; exact rfl) ?_
        refine AL_nil ?_
        refine thenA_n ?_
        by_cases hb_2286 : x_2283 > 5
        · rw [if_pos hb_2286] at h
          have hb_2286T := eq_true hb_2286
          refine awp_ct (by simp only [go_sem, seval, hb_2282T, hb_2285T, hb_2286T]) ?_
          refine awp_seq ?_
          refine awp_region ?_
          refine AL_upto (by exact rfl) (by simp only [go_sem, seval, hb_2282T, hb_2285T, hb_2286T]; exact rfl) ?_
          refine AL_nil ?_
          refine thenA_n ?_
          refine awp_ret ?_
          refine blockA_ret ?_
          refine thenA_ret ?_
          cases h
          refine ⟨rfl, ?_⟩
          refine retQ_ret (by simp only [Tryz.results42]; simp only [go_sem, seval, hb_2282T, hb_2285T, hb_2286T]; exact rfl) ?_
          simp only [go_sem, seval, hb_2282T, hb_2285T, hb_2286T]
          all_goals ((repeat' refine And.intro ?_ ?_) <;> first | rfl | (simp; done) | (simp; rfl) | (simp [*]; done) | (simp [*]; rfl))
        · rw [if_neg hb_2286] at h
          have hb_2286T := eq_false hb_2286
          refine awp_cf (by simp only [go_sem, seval, hb_2282T, hb_2285T, hb_2286T]) ?_
          refine awp_skip ?_
          refine blockA_n ?_
          refine thenA_n ?_
          refine awp_region ?_
          refine AL_upto (by exact rfl) (by simp only [go_sem, seval, hb_2282T, hb_2285T, hb_2286T]; exact rfl) ?_
          refine AL_nil ?_
          cases h
          refine ⟨rfl, ?_⟩
          simp only [go_sem, seval, hb_2282T, hb_2285T, hb_2286T]
          all_goals ((repeat' refine And.intro ?_ ?_) <;> first | rfl | (simp; done) | (simp; rfl) | (simp [*]; done) | (simp [*]; rfl))
    · rw [if_neg hb_2282] at h
      have hb_2282T := eq_false hb_2282
      refine awp_cf (by simp only [go_sem, seval, hb_2282T]) ?_
      refine awp_exit ?_
      refine thenA_exit ?_
      cases h
      refine ⟨rfl, ?_⟩
      simp only [go_sem, seval, hb_2282T]
      all_goals ((repeat' refine And.intro ?_ ?_) <;> first | rfl | (simp; done) | (simp; rfl) | (simp [*]; done) | (simp [*]; rfl))
  · intro e s' hT
    rcases o_2287 with ⟨⟩ | r_2289
    · try simp only at h
      try simp only at hT
      obtain ⟨rfl, hle⟩ := hT
      refine Wk.to hle ?_
      clear hle
      refine blockA_here ?_
      refine thenA_n ?_
      refine awp_seq ?_
      refine awp_region ?_
      refine AL_upto (by exact rfl) (by simp only [go_sem, seval]; exact rfl) ?_
      refine AL_nil ?_
      refine thenA_n ?_
      refine awp_ret ?_
      cases h
      refine retQ_ret (by simp only [Tryz.results42]; simp only [go_sem, seval]; exact rfl) ?_
      simp only [go_sem, seval]
      all_goals ((repeat' refine And.intro ?_ ?_) <;> first | rfl | (simp; done) | (simp; rfl) | (simp [*]; done) | (simp [*]; rfl))
    · try simp only at h
      try simp only at hT
      obtain ⟨rfl, hq⟩ := hT
      refine Wk.now ?_
      refine blockA_ret ?_
      refine thenA_ret ?_
      cases h
      exact hq
end Go.Proofs.YtdmddoljldjjeaaGreat
