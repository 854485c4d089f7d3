/- Each function of the program computes what its Lean function says, where that has a value. -/
import Derived.Test.YtdmddoljldjjeaaGreatW1
import Derived.Test.YtdmddoljldjjeaaGreatW2
set_option linter.unusedVariables false
set_option linter.unusedSimpArgs false
namespace Go.Proofs.YtdmddoljldjjeaaGreat
open Go Go.Ab
set_option maxHeartbeats 4000000 in
theorem drossref03_Find_con (t_2293 : Table) (id_2294 : Int) (r_2313 : Int × Bool) (h : drossref03_Find t_2293 id_2294 = some r_2313) : Con Tryz.prog 55 [(encTable t_2293), (.int .i64 id_2294)] (.tup [(.int .i64 r_2313.1), (.bool r_2313.2)]) := by
  refine ⟨Tryz.call55, ?_⟩
  refine pure_of_awp Tryz.func55 rfl Tryz.ntmps55 (by simp) fun X w => ?_
  show AWp _ _ _ ⟨[(0, .p (encTable t_2293)), (1, .p (.int .i64 id_2294))], []⟩
  simp only [drossref03_Find] at h
  refine awp_seq ?_
  refine awp_region ?_
  refine AL_upto (by exact rfl) (by simp only [go_sem, seval]; exact rfl) ?_
  refine AL_nil ?_
  refine thenA_n ?_
  refine awp_seq ?_
  refine awp_seq ?_
  refine awp_region ?_
  refine AL_upto (by exact rfl) (by simp only [go_sem, seval]; exact rfl) ?_
  refine AL_nil ?_
  refine thenA_n ?_
  refine awp_block ?_
  obtain ⟨o_2308, hL_2309, h⟩ := Option.bind_eq_some_iff.1 h
  refine awp_loop_L (fun (s : Int) => ⟨[(1, .p (.int .i64 id_2294)), (2, .loc 2 1 0 0), (6, .p (.int .i64 s))], [(2, .arr 25 3 1 [.p (encTable t_2293)])]⟩) (fun (o : (Unit) ⊕ (Int × Bool)) (e : Exit) (s' : St) => match o with | .inl o_2311 => e = (.exit 0) ∧ Le ⟨Tryz.prog, Tryz.f55.ntmps, 0, X, [], fun _ => none, w⟩ s' ⟨[], []⟩ | .inr o_2312 => e = .ret ∧ retQ Tryz.prog Tryz.f55 (.tup [(.int .i64 o_2312.1), (.bool o_2312.2)]) .ret s') (by intro o s hT; rcases o with _ | _ <;> (have hh := hT.1; cases hh)) hL_2309 (by simp only [go_sem, seval]; all_goals ((repeat' refine And.intro ?_ ?_) <;> first | rfl | (simp; done) | (simp; rfl) | (simp [*]; done) | (simp [*]; rfl))) ?_ ?_
  · clear h
    intro i_2299 x h
    simp only [drossref03_Find_l1] at h
    show AWp _ _ _ ⟨[(1, .p (.int .i64 id_2294)), (2, .loc 2 1 0 0), (6, .p (.int .i64 i_2299))], [(2, .arr 25 3 1 [.p (encTable t_2293)])]⟩
    refine awp_seq ?_
    refine awp_seq ?_
    refine awp_region ?_
    refine AL_upto (by exact rfl) (by simp only [go_sem, seval]; exact rfl) ?_
    refine AL_nil ?_
    refine thenA_n ?_
    by_cases hb_2304 : i_2299 < (t_2293.Rows.length : Int)
    · rw [if_pos hb_2304] at h
      have hb_2304T := eq_true hb_2304
      refine awp_ct (by simp only [go_sem, seval, hb_2304T]) ?_
      refine awp_skip ?_
      refine thenA_n ?_
      refine awp_seq ?_
      refine awp_block ?_
      refine awp_seq ?_
      refine awp_region ?_
      obtain ⟨x_2305, hx_2306, h⟩ := Option.bind_eq_some_iff.1 h
      obtain ⟨hx_2306a, hx_2306, hx_2306b⟩ := idx_some hx_2306
      have hx_2306A := eq_true hx_2306a
      have hx_2306B := eq_true hx_2306b
      refine AL_upto (by exact rfl) (by simp only [go_sem, seval, hb_2304T, hx_2306, hx_2306A, hx_2306B]; exact rfl) ?_
      refine AL_nil ?_
      refine thenA_n ?_
      by_cases hb_2307 : (x_2305.ID == id_2294) = true
      · rw [if_pos hb_2307] at h
        refine awp_ct (by simp only [go_sem, seval, hb_2304T, hb_2307]) ?_
        refine awp_seq ?_
        refine awp_region ?_
        refine AL_upto (by exact rfl) (by simp only [go_sem, seval, hb_2304T, hb_2307]; exact rfl) ?_
        refine AL_nil ?_
        refine thenA_n ?_
        refine awp_ret ?_
        refine blockA_ret ?_
        refine thenA_ret ?_
        cases h
        refine ⟨rfl, ?_⟩
        refine retQ_ret (by simp only [Tryz.results55]; simp only [go_sem, seval, hb_2304T, hb_2307]; exact rfl) ?_
        simp only [go_sem, seval, hb_2304T, hb_2307]
        all_goals ((repeat' refine And.intro ?_ ?_) <;> first | rfl | (simp; done) | (simp; rfl) | (simp [*]; done) | (simp [*]; rfl))
      · rw [if_neg hb_2307] at h
        have hb_2307F := Bool.eq_false_iff.2 hb_2307
        refine awp_cf (by simp only [go_sem, seval, hb_2304T, hb_2307F]) ?_
        refine awp_skip ?_
        refine blockA_n ?_
        refine thenA_n ?_
        refine awp_region ?_
        refine AL_upto (by exact rfl) (by simp only [go_sem, seval, hb_2304T, hb_2307F]; exact rfl) ?_
        refine AL_nil ?_
        cases h
        refine ⟨rfl, ?_⟩
        simp only [go_sem, seval, hb_2304T, hb_2307F]
        all_goals ((repeat' refine And.intro ?_ ?_) <;> first | rfl | (simp; done) | (simp; rfl) | (simp [*]; done) | (simp [*]; rfl))
    · rw [if_neg hb_2304] at h
      have hb_2304T := eq_false hb_2304
      refine awp_cf (by simp only [go_sem, seval, hb_2304T]) ?_
      refine awp_exit ?_
      refine thenA_exit ?_
      cases h
      refine ⟨rfl, ?_⟩
      simp only [go_sem, seval, hb_2304T]
      all_goals ((repeat' refine And.intro ?_ ?_) <;> first | rfl | (simp; done) | (simp; rfl) | (simp [*]; done) | (simp [*]; rfl))
  · intro e s' hT
    rcases o_2308 with ⟨⟩ | r_2310
    · try simp only at h
      try simp only at hT
      obtain ⟨rfl, hle⟩ := hT
      refine Wk.to hle ?_
      clear hle
      refine blockA_here ?_
      refine thenA_n ?_
      refine awp_seq ?_
      refine awp_region ?_
      refine AL_upto (by exact rfl) (by simp only [go_sem, seval]; exact rfl) ?_
      refine AL_nil ?_
      refine thenA_n ?_
      refine awp_ret ?_
      cases h
      refine retQ_ret (by simp only [Tryz.results55]; simp only [go_sem, seval]; exact rfl) ?_
      simp only [go_sem, seval]
      all_goals ((repeat' refine And.intro ?_ ?_) <;> first | rfl | (simp; done) | (simp; rfl) | (simp [*]; done) | (simp [*]; rfl))
    · try simp only at h
      try simp only at hT
      obtain ⟨rfl, hq⟩ := hT
      refine Wk.now ?_
      refine blockA_ret ?_
      refine thenA_ret ?_
      cases h
      exact hq
end Go.Proofs.YtdmddoljldjjeaaGreat
set_option linter.unusedVariables false
set_option linter.unusedSimpArgs false
namespace Go.Proofs.YtdmddoljldjjeaaGreat
open Go Go.Ab
set_option maxHeartbeats 4000000 in
theorem drossref03_Has_con (l_2314 : List Int) (id_2315 : Int) (r_2334 : Bool) (h : drossref03_Has l_2314 id_2315 = some r_2334) : Con Tryz.prog 85 [(.slc (List.map (PV.int .i64) l_2314)), (.int .i64 id_2315)] (.bool r_2334) := by
  refine ⟨Tryz.call85, ?_⟩
  refine pure_of_awp Tryz.func85 rfl Tryz.ntmps85 (by simp) fun X w => ?_
  show AWp _ _ _ ⟨[(0, .p (.slc (List.map (PV.int .i64) l_2314))), (1, .p (.int .i64 id_2315))], []⟩
  simp only [drossref03_Has] at h
  refine awp_seq ?_
  refine awp_region ?_
  refine AL_upto (by exact rfl) (by simp only [go_sem, seval]; exact rfl) ?_
  refine AL_nil ?_
  refine thenA_n ?_
  refine awp_seq ?_
  refine awp_seq ?_
  refine awp_region ?_
  refine AL_upto (by exact rfl) (by simp only [go_sem, seval]; exact rfl) ?_
  refine AL_nil ?_
  refine thenA_n ?_
  refine awp_block ?_
  obtain ⟨o_2329, hL_2330, h⟩ := Option.bind_eq_some_iff.1 h
  refine awp_loop_L (fun (s : Int) => ⟨[(0, .p (.slc (List.map (PV.int .i64) l_2314))), (1, .p (.int .i64 id_2315)), (5, .p (.int .i64 s))], []⟩) (fun (o : (Unit) ⊕ (Bool)) (e : Exit) (s' : St) => match o with | .inl o_2332 => e = (.exit 0) ∧ Le ⟨Tryz.prog, Tryz.f85.ntmps, 0, X, [], fun _ => none, w⟩ s' ⟨[], []⟩ | .inr o_2333 => e = .ret ∧ retQ Tryz.prog Tryz.f85 (.bool o_2333) .ret s') (by intro o s hT; rcases o with _ | _ <;> (have hh := hT.1; cases hh)) hL_2330 (by simp only [go_sem, seval]; all_goals ((repeat' refine And.intro ?_ ?_) <;> first | rfl | (simp; done) | (simp; rfl) | (simp [*]; done) | (simp [*]; rfl))) ?_ ?_
  · clear h
    intro i_2320 x h
    simp only [drossref03_Has_l1] at h
    show AWp _ _ _ ⟨[(0, .p (.slc (List.map (PV.int .i64) l_2314))), (1, .p (.int .i64 id_2315)), (5, .p (.int .i64 i_2320))], []⟩
    refine awp_seq ?_
    refine awp_seq ?_
    refine awp_region ?_
    refine AL_upto (by exact rfl) (by simp only [go_sem, seval]; exact rfl) ?_
    refine AL_nil ?_
    refine thenA_n ?_
    by_cases hb_2325 : i_2320 < (l_2314.length : Int)
    · rw [if_pos hb_2325] at h
      have hb_2325T := eq_true hb_2325
      refine awp_ct (by simp only [go_sem, seval, hb_2325T]) ?_
      refine awp_skip ?_
      refine thenA_n ?_
      refine awp_seq ?_
      refine awp_block ?_
      refine awp_seq ?_
      refine awp_region ?_
      obtain ⟨x_2326, hx_2327, h⟩ := Option.bind_eq_some_iff.1 h
      obtain ⟨hx_2327a, hx_2327, hx_2327b⟩ := idx_some hx_2327
      have hx_2327A := eq_true hx_2327a
      have hx_2327B := eq_true hx_2327b
      refine AL_upto (by exact rfl) (by simp only [go_sem, seval, hb_2325T, hx_2327, hx_2327A, hx_2327B]; exact rfl) ?_
      refine AL_nil ?_
      refine thenA_n ?_
      by_cases hb_2328 : (x_2326 == id_2315) = true
      · rw [if_pos hb_2328] at h
        refine awp_ct (by simp only [go_sem, seval, hb_2325T, hb_2328]) ?_
        refine awp_seq ?_
        refine awp_region ?_
        refine AL_upto (by exact rfl) (by simp only [go_sem, seval, hb_2325T, hb_2328]; exact rfl) ?_
        refine AL_nil ?_
        refine thenA_n ?_
        refine awp_ret ?_
        refine blockA_ret ?_
        refine thenA_ret ?_
        cases h
        refine ⟨rfl, ?_⟩
        refine retQ_ret (by simp only [Tryz.results85]; simp only [go_sem, seval, hb_2325T, hb_2328]; exact rfl) ?_
        simp only [go_sem, seval, hb_2325T, hb_2328]
        all_goals ((repeat' refine And.intro ?_ ?_) <;> first | rfl | (simp; done) | (simp; rfl) | (simp [*]; done) | (simp [*]; rfl))
      · rw [if_neg hb_2328] at h
        have hb_2328F := Bool.eq_false_iff.2 hb_2328
        refine awp_cf (by simp only [go_sem, seval, hb_2325T, hb_2328F]) ?_
        refine awp_skip ?_
        refine blockA_n ?_
        refine thenA_n ?_
        refine awp_region ?_
        refine AL_upto (by exact rfl) (by simp only [go_sem, seval, hb_2325T, hb_2328F]; exact rfl) ?_
        refine AL_nil ?_
        cases h
        refine ⟨rfl, ?_⟩
        simp only [go_sem, seval, hb_2325T, hb_2328F]
        all_goals ((repeat' refine And.intro ?_ ?_) <;> first | rfl | (simp; done) | (simp; rfl) | (simp [*]; done) | (simp [*]; rfl))
    · rw [if_neg hb_2325] at h
      have hb_2325T := eq_false hb_2325
      refine awp_cf (by simp only [go_sem, seval, hb_2325T]) ?_
      refine awp_exit ?_
      refine thenA_exit ?_
      cases h
      refine ⟨rfl, ?_⟩
      simp only [go_sem, seval, hb_2325T]
      all_goals ((repeat' refine And.intro ?_ ?_) <;> first | rfl | (simp; done) | (simp; rfl) | (simp [*]; done) | (simp [*]; rfl))
  · intro e s' hT
    rcases o_2329 with ⟨⟩ | r_2331
    · try simp only at h
      try simp only at hT
      obtain ⟨rfl, hle⟩ := hT
      refine Wk.to hle ?_
      clear hle
      refine blockA_here ?_
      refine thenA_n ?_
      refine awp_seq ?_
      refine awp_region ?_
      refine AL_upto (by exact rfl) (by simp only [go_sem, seval]; exact rfl) ?_
      refine AL_nil ?_
      refine thenA_n ?_
      refine awp_ret ?_
      cases h
      refine retQ_ret (by simp only [Tryz.results85]; simp only [go_sem, seval]; exact rfl) ?_
      simp only [go_sem, seval]
      all_goals ((repeat' refine And.intro ?_ ?_) <;> first | rfl | (simp; done) | (simp; rfl) | (simp [*]; done) | (simp [*]; rfl))
    · try simp only at h
      try simp only at hT
      obtain ⟨rfl, hq⟩ := hT
      refine Wk.now ?_
      refine blockA_ret ?_
      refine thenA_ret ?_
      cases h
      exact hq
end Go.Proofs.YtdmddoljldjjeaaGreat
set_option linter.unusedVariables false
set_option linter.unusedSimpArgs false
namespace Go.Proofs.YtdmddoljldjjeaaGreat
open Go Go.Ab
set_option maxHeartbeats 4000000 in
theorem drossref55_Cluster_con (l_2335 : List Int) (r_2360 : Bool) (h : drossref55_Cluster l_2335 = some r_2360) : Con Tryz.prog 124 [(.slc (List.map (PV.int .i64) l_2335))] (.bool r_2360) := by
  refine ⟨Tryz.call124, ?_⟩
  refine pure_of_awp Tryz.func124 rfl Tryz.ntmps124 (by simp) fun X w => ?_
  show AWp _ _ _ ⟨[(0, .p (.slc (List.map (PV.int .i64) l_2335)))], []⟩
  simp only [drossref55_Cluster] at h
  refine awp_seq ?_
  refine awp_region ?_
  refine AL_upto (by exact rfl) (by simp only [go_sem, seval]; exact rfl) ?_
  refine AL_nil ?_
  refine thenA_n ?_
  refine awp_seq ?_
  refine awp_seq ?_
  refine awp_region ?_
  refine AL_upto (by exact rfl) (by simp only [go_sem, seval]; exact rfl) ?_
  refine AL_nil ?_
  refine thenA_n ?_
  refine awp_block ?_
  obtain ⟨o_2355, hL_2356, h⟩ := Option.bind_eq_some_iff.1 h
  refine awp_loop_L (fun (s : Int) => ⟨[(0, .p (.slc (List.map (PV.int .i64) l_2335))), (3, .p (.int .i64 s))], []⟩) (fun (o : (Unit) ⊕ (Bool)) (e : Exit) (s' : St) => match o with | .inl o_2358 => e = (.exit 0) ∧ Le ⟨Tryz.prog, Tryz.f124.ntmps, 0, X, [], fun _ => none, w⟩ s' ⟨[(0, .p (.slc (List.map (PV.int .i64) l_2335)))], []⟩ | .inr o_2359 => e = .ret ∧ retQ Tryz.prog Tryz.f124 (.bool o_2359) .ret s') (by intro o s hT; rcases o with _ | _ <;> (have hh := hT.1; cases hh)) hL_2356 (by simp only [go_sem, seval]; all_goals ((repeat' refine And.intro ?_ ?_) <;> first | rfl | (simp; done) | (simp; rfl) | (simp [*]; done) | (simp [*]; rfl))) ?_ ?_
  · clear h
    intro i_2342 x h
    simp only [drossref55_Cluster_l1] at h
    show AWp _ _ _ ⟨[(0, .p (.slc (List.map (PV.int .i64) l_2335))), (3, .p (.int .i64 i_2342))], []⟩
    refine awp_seq ?_
    refine awp_seq ?_
    refine awp_region ?_
    refine AL_upto (by exact rfl) (by simp only [go_sem, seval]; exact rfl) ?_
    refine AL_nil ?_
    refine thenA_n ?_
    by_cases hb_2349 : i_2342 < (l_2335.length : Int)
    · rw [if_pos hb_2349] at h
      have hb_2349T := eq_true hb_2349
      refine awp_ct (by simp only [go_sem, seval, hb_2349T]) ?_
      refine awp_skip ?_
      refine thenA_n ?_
      refine awp_seq ?_
      refine awp_block ?_
      refine awp_seq ?_
      refine awp_drawn_walk mixed (by decide) ?_
      obtain ⟨x_2350, hx_2351, h⟩ := Option.bind_eq_some_iff.1 h
      obtain ⟨hx_2351a, hx_2351, hx_2351b⟩ := idx_some hx_2351
      have hx_2351A := eq_true hx_2351a
      have hx_2351B := eq_true hx_2351b
      obtain ⟨x_2352, hx_2353, h⟩ := Option.bind_eq_some_iff.1 h
      obtain ⟨hx_2353a, hx_2353, hx_2353b⟩ := idx_some hx_2353
      have hx_2353A := eq_true hx_2353a
      have hx_2353B := eq_true hx_2353b
      refine DGo.upto (by exact rfl) (by simp only [go_sem, seval, hb_2349T, hx_2351, hx_2351A, hx_2351B, hx_2353, hx_2353A, hx_2353B]; first | exact ⟨rfl, rfl⟩ | exact rfl) ?_
      refine DGo.fin rfl ?_
      refine thenA_n ?_
      by_cases hb_2354 : x_2350 ≤ x_2352
      · rw [if_pos hb_2354] at h
        have hb_2354T := eq_true hb_2354
        refine awp_ct (by simp only [go_sem, seval, hb_2349T, hb_2354T]) ?_
        refine awp_seq ?_
        refine awp_region ?_
        refine AL_upto (by exact rfl) (by simp only [go_sem, seval, hb_2349T, hb_2354T]; exact rfl) ?_
        refine AL_nil ?_
        refine thenA_n ?_
        refine awp_ret ?_
        refine blockA_ret ?_
        refine thenA_ret ?_
        cases h
        refine ⟨rfl, ?_⟩
        refine retQ_ret (by simp only [Tryz.results124]; simp only [go_sem, seval, hb_2349T, hb_2354T]; exact rfl) ?_
        simp only [go_sem, seval, hb_2349T, hb_2354T]
        all_goals ((repeat' refine And.intro ?_ ?_) <;> first | rfl | (simp; done) | (simp; rfl) | (simp [*]; done) | (simp [*]; rfl))
      · rw [if_neg hb_2354] at h
        have hb_2354T := eq_false hb_2354
        refine awp_cf (by simp only [go_sem, seval, hb_2349T, hb_2354T]) ?_
        refine awp_skip ?_
        refine blockA_n ?_
        refine thenA_n ?_
        refine awp_region ?_
        refine AL_upto (by exact rfl) (by simp only [go_sem, seval, hb_2349T, hb_2354T]; exact rfl) ?_
        refine AL_nil ?_
        cases h
        refine ⟨rfl, ?_⟩
        simp only [go_sem, seval, hb_2349T, hb_2354T]
        all_goals ((repeat' refine And.intro ?_ ?_) <;> first | rfl | (simp; done) | (simp; rfl) | (simp [*]; done) | (simp [*]; rfl))
    · rw [if_neg hb_2349] at h
      have hb_2349T := eq_false hb_2349
      refine awp_cf (by simp only [go_sem, seval, hb_2349T]) ?_
      refine awp_exit ?_
      refine thenA_exit ?_
      cases h
      refine ⟨rfl, ?_⟩
      simp only [go_sem, seval, hb_2349T]
      all_goals ((repeat' refine And.intro ?_ ?_) <;> first | rfl | (simp; done) | (simp; rfl) | (simp [*]; done) | (simp [*]; rfl))
  · intro e s' hT
    rcases o_2355 with ⟨⟩ | r_2357
    · try simp only at h
      try simp only at hT
      obtain ⟨rfl, hle⟩ := hT
      refine Wk.to hle ?_
      clear hle
      refine blockA_here ?_
      refine thenA_n ?_
      refine awp_seq ?_
      refine awp_region ?_
      refine AL_upto (by exact rfl) (by simp only [go_sem, seval]; exact rfl) ?_
      refine AL_nil ?_
      refine thenA_n ?_
      refine awp_ret ?_
      cases h
      refine retQ_ret (by simp only [Tryz.results124]; simp only [go_sem, seval]; exact rfl) ?_
      simp only [go_sem, seval]
      all_goals ((repeat' refine And.intro ?_ ?_) <;> first | rfl | (simp; done) | (simp; rfl) | (simp [*]; done) | (simp [*]; rfl))
    · try simp only at h
      try simp only at hT
      obtain ⟨rfl, hq⟩ := hT
      refine Wk.now ?_
      refine blockA_ret ?_
      refine thenA_ret ?_
      cases h
      exact hq
end Go.Proofs.YtdmddoljldjjeaaGreat
set_option linter.unusedVariables false
set_option linter.unusedSimpArgs false
namespace Go.Proofs.YtdmddoljldjjeaaGreat
open Go Go.Ab
set_option maxHeartbeats 4000000 in
theorem drossref55_once_con (l_2361 : List (List Int)) (r_2480 : Bool) (h : drossref55_once l_2361 = some r_2480) : Con Tryz.prog 82 [(.slc (List.map (encL (PV.int .i64)) l_2361))] (.bool r_2480) := by
  refine ⟨Tryz.call82, ?_⟩
  refine pure_of_awp Tryz.func82 rfl Tryz.ntmps82 (by simp) fun X w => ?_
  show AWp _ _ _ ⟨[(0, .p (.slc (List.map (encL (PV.int .i64)) l_2361)))], []⟩
  simp only [drossref55_once] at h
  refine awp_seq ?_
  refine awp_region ?_
  refine AL_upto (by exact rfl) (by simp only [go_sem, seval]; exact rfl) ?_
  refine AL_nil ?_
  refine thenA_n ?_
  refine awp_seq ?_
  refine awp_region ?_
  refine AL_upto (by exact rfl) (by simp only [go_sem, seval]; exact rfl) ?_
  refine AL_nil ?_
  refine thenA_n ?_
  refine awp_seq ?_
  refine awp_seq ?_
  refine awp_region ?_
  refine AL_upto (by exact rfl) (by simp only [go_sem, seval]; exact rfl) ?_
  refine AL_nil ?_
  refine thenA_n ?_
  refine awp_block ?_
  obtain ⟨o_2475, hL_2476, h⟩ := Option.bind_eq_some_iff.1 h
  refine awp_loop_L (fun (s : List Int × Int) => ⟨[(0, .p (.slc (List.map (encL (PV.int .i64)) l_2361))), (3, .own 41 1 0 s.1.length), (4, .p (.int .i64 s.2))], [(41, .arr 2 1 1 (List.map AV.p (List.map (PV.int .i64) s.1)))]⟩) (fun (o : (Unit) ⊕ (Bool)) (e : Exit) (s' : St) => match o with | .inl o_2478 => e = (.exit 0) ∧ Le ⟨Tryz.prog, Tryz.f82.ntmps, 0, X, [], fun _ => none, w⟩ s' ⟨[], []⟩ | .inr o_2479 => e = .ret ∧ retQ Tryz.prog Tryz.f82 (.bool o_2479) .ret s') (by intro o s hT; rcases o with _ | _ <;> (have hh := hT.1; cases hh)) hL_2476 (by simp only [go_sem, seval]; all_goals ((repeat' refine And.intro ?_ ?_) <;> first | rfl | (simp; done) | (simp; rfl) | (simp [*]; done) | (simp [*]; rfl))) ?_ ?_
  · clear h
    intro s x h
    obtain ⟨all_2399, i_2400⟩ := s
    simp only [drossref55_once_l4] at h
    show AWp _ _ _ ⟨[(0, .p (.slc (List.map (encL (PV.int .i64)) l_2361))), (3, .own 41 1 0 all_2399.length), (4, .p (.int .i64 i_2400))], [(41, .arr 2 1 1 (List.map AV.p (List.map (PV.int .i64) all_2399)))]⟩
    refine awp_seq ?_
    refine awp_seq ?_
    refine awp_region ?_
    refine AL_upto (by exact rfl) (by simp only [go_sem, seval]; exact rfl) ?_
    refine AL_nil ?_
    refine thenA_n ?_
    by_cases hb_2438 : i_2400 < (l_2361.length : Int)
    · rw [if_pos hb_2438] at h
      have hb_2438T := eq_true hb_2438
      refine awp_ct (by simp only [go_sem, seval, hb_2438T]) ?_
      refine awp_skip ?_
      refine thenA_n ?_
      refine awp_seq ?_
      refine awp_block ?_
      refine awp_seq ?_
      refine awp_seq ?_
      refine awp_region ?_
      obtain ⟨x_2439, hx_2440, h⟩ := Option.bind_eq_some_iff.1 h
      obtain ⟨hx_2440a, hx_2440, hx_2440b⟩ := idx_some hx_2440
      have hx_2440A := eq_true hx_2440a
      have hx_2440B := eq_true hx_2440b
      refine AL_upto (by exact rfl) (by simp only [go_sem, seval, hb_2438T, hx_2440, hx_2440A, hx_2440B]; exact rfl) ?_
      obtain ⟨r_2441, hr_2442, h⟩ := Option.bind_eq_some_iff.1 h
      refine AL_con' rfl (guard_none rfl) rfl (by simp only [go_sem, seval, hb_2438T]; exact rfl) (by simp only [go_sem, seval, hb_2438T]; all_goals ((repeat' refine And.intro ?_ ?_) <;> first | rfl | (simp; done) | (simp; rfl) | (simp [*]; done) | (simp [*]; rfl))) (drossref55_Cluster_con x_2439 _ hr_2442) (.inr rfl) rfl ?_
      refine AL_upto (by exact rfl) (by simp only [go_sem, seval, hb_2438T]; exact rfl) ?_
      refine AL_nil ?_
      refine thenA_n ?_
      by_cases hb_2443 : r_2441 = true
      · rw [if_pos hb_2443] at h
        refine awp_cf (by simp only [go_sem, seval, hb_2438T, hb_2443]) ?_
        refine awp_skip ?_
        refine thenA_n ?_
        refine awp_seq ?_
        refine awp_seq ?_
        refine awp_region ?_
        refine AL_upto (by exact rfl) (by simp only [go_sem, seval, hb_2438T, hb_2443]; exact rfl) ?_
        refine AL_nil ?_
        refine thenA_n ?_
        refine awp_block ?_
        obtain ⟨o_2469, hL_2470, h⟩ := Option.bind_eq_some_iff.1 h
        refine awp_loop_L (fun (s : Int) => ⟨[(0, .p (.slc (List.map (encL (PV.int .i64)) l_2361))), (3, .own 41 1 0 all_2399.length), (4, .p (.int .i64 i_2400)), (5, .p (.int .i64 s))], [(41, .arr 2 1 1 (List.map AV.p (List.map (PV.int .i64) all_2399)))]⟩) (fun (o : (Unit) ⊕ (Bool)) (e : Exit) (s' : St) => match o with | .inl o_2473 => e = (.exit 2) ∧ Le ⟨Tryz.prog, Tryz.f82.ntmps, 0, X, [], fun _ => none, w⟩ s' ⟨[(0, .p (.slc (List.map (encL (PV.int .i64)) l_2361))), (3, .own 41 1 0 all_2399.length), (4, .p (.int .i64 i_2400))], [(41, .arr 2 1 1 (List.map AV.p (List.map (PV.int .i64) all_2399)))]⟩ | .inr o_2474 => e = .ret ∧ retQ Tryz.prog Tryz.f82 (.bool o_2474) .ret s') (by intro o s hT; rcases o with _ | _ <;> (have hh := hT.1; cases hh)) hL_2470 (by simp only [go_sem, seval, hb_2438T, hb_2443]; all_goals ((repeat' refine And.intro ?_ ?_) <;> first | rfl | (simp; done) | (simp; rfl) | (simp [*]; done) | (simp [*]; rfl))) ?_ ?_
        · clear h
          intro k_2452 x h
          simp only [drossref55_once_l3] at h
          show AWp _ _ _ ⟨[(0, .p (.slc (List.map (encL (PV.int .i64)) l_2361))), (3, .own 41 1 0 all_2399.length), (4, .p (.int .i64 i_2400)), (5, .p (.int .i64 k_2452))], [(41, .arr 2 1 1 (List.map AV.p (List.map (PV.int .i64) all_2399)))]⟩
          refine awp_seq ?_
          refine awp_seq ?_
          refine awp_region ?_
          obtain ⟨x_2461, hx_2462, h⟩ := Option.bind_eq_some_iff.1 h
          obtain ⟨hx_2462a, hx_2462, hx_2462b⟩ := idx_some hx_2462
          have hx_2462A := eq_true hx_2462a
          have hx_2462B := eq_true hx_2462b
          refine AL_upto (by exact rfl) (by simp only [go_sem, seval, hx_2462, hx_2462A, hx_2462B]; exact rfl) ?_
          refine AL_nil ?_
          refine thenA_n ?_
          by_cases hb_2463 : k_2452 < (x_2461.length : Int)
          · rw [if_pos hb_2463] at h
            have hb_2463T := eq_true hb_2463
            refine awp_ct (by simp only [go_sem, seval, hb_2463T]) ?_
            refine awp_skip ?_
            refine thenA_n ?_
            refine awp_seq ?_
            refine awp_block ?_
            refine awp_seq ?_
            refine awp_region ?_
            obtain ⟨x_2464, hx_2465, h⟩ := Option.bind_eq_some_iff.1 h
            obtain ⟨hx_2465a, hx_2465, hx_2465b⟩ := idx_some hx_2465
            have hx_2465A := eq_true hx_2465a
            have hx_2465B := eq_true hx_2465b
            refine AL_upto (by exact rfl) (by simp only [go_sem, seval, hb_2463T, hx_2462, hx_2462A, hx_2462B, hx_2465, hx_2465A, hx_2465B]; exact rfl) ?_
            obtain ⟨r_2466, hr_2467, h⟩ := Option.bind_eq_some_iff.1 h
            refine AL_con' rfl (guard_none rfl) rfl (by simp only [go_sem, seval, hb_2463T]; exact rfl) (by simp only [go_sem, seval, hb_2463T]; all_goals ((repeat' refine And.intro ?_ ?_) <;> first | rfl | (simp; done) | (simp; rfl) | (simp [*]; done) | (simp [*]; rfl))) (drossref03_Has_con all_2399 x_2464 _ hr_2467) (.inr rfl) rfl ?_
            refine AL_nil ?_
            refine thenA_n ?_
            by_cases hb_2468 : r_2466 = true
            · rw [if_pos hb_2468] at h
              refine awp_ct (by simp only [go_sem, seval, hb_2463T, hb_2468]) ?_
              refine awp_seq ?_
              refine awp_region ?_
              refine AL_upto (by exact rfl) (by simp only [go_sem, seval, hb_2463T, hb_2468]; exact rfl) ?_
              refine AL_nil ?_
              refine thenA_n ?_
              refine awp_ret ?_
              refine blockA_ret ?_
              refine thenA_ret ?_
              cases h
              refine ⟨rfl, ?_⟩
              refine retQ_ret (by simp only [Tryz.results82]; simp only [go_sem, seval, hb_2463T, hb_2468]; exact rfl) ?_
              simp only [go_sem, seval, hb_2463T, hb_2468]
              all_goals ((repeat' refine And.intro ?_ ?_) <;> first | rfl | (simp; done) | (simp; rfl) | (simp [*]; done) | (simp [*]; rfl))
            · rw [if_neg hb_2468] at h
              have hb_2468F := Bool.eq_false_iff.2 hb_2468
              refine awp_cf (by simp only [go_sem, seval, hb_2463T, hb_2468F]) ?_
              refine awp_skip ?_
              refine blockA_n ?_
              refine thenA_n ?_
              refine awp_region ?_
              refine AL_upto (by exact rfl) (by simp only [go_sem, seval, hb_2463T, hb_2468F]; exact rfl) ?_
              refine AL_nil ?_
              cases h
              refine ⟨rfl, ?_⟩
              simp only [go_sem, seval, hb_2463T, hb_2468F]
              all_goals ((repeat' refine And.intro ?_ ?_) <;> first | rfl | (simp; done) | (simp; rfl) | (simp [*]; done) | (simp [*]; rfl))
          · rw [if_neg hb_2463] at h
            have hb_2463T := eq_false hb_2463
            refine awp_cf (by simp only [go_sem, seval, hb_2463T]) ?_
            refine awp_exit ?_
            refine thenA_exit ?_
            cases h
            refine ⟨rfl, ?_⟩
            simp only [go_sem, seval, hb_2463T]
            all_goals ((repeat' refine And.intro ?_ ?_) <;> first | rfl | (simp; done) | (simp; rfl) | (simp [*]; done) | (simp [*]; rfl))
        · intro e s' hT
          rcases o_2469 with ⟨⟩ | r_2472
          · try simp only at h
            try simp only at hT
            obtain ⟨rfl, hle⟩ := hT
            refine Wk.to hle ?_
            clear hle
            refine blockA_here ?_
            refine thenA_n ?_
            refine awp_region ?_
            obtain ⟨hc_2471, h⟩ := ite_some h
            refine AL_upto (by exact rfl) (by simp only [go_sem, seval, hb_2438T, hb_2443, hx_2440, hx_2440A, hx_2440B, hc_2471]; exact rfl) ?_
            refine AL_nil ?_
            refine blockA_n ?_
            refine thenA_n ?_
            refine awp_region ?_
            refine AL_upto (by exact rfl) (by simp only [go_sem, seval, hb_2438T, hb_2443]; exact rfl) ?_
            refine AL_nil ?_
            cases h
            refine ⟨rfl, ?_⟩
            simp only [go_sem, seval, hb_2438T, hb_2443]
            all_goals ((repeat' refine And.intro ?_ ?_) <;> first | rfl | (simp; done) | (simp; rfl) | (simp [*]; done) | (simp [*]; rfl))
          · try simp only at h
            try simp only at hT
            obtain ⟨rfl, hq⟩ := hT
            refine Wk.now ?_
            refine blockA_ret ?_
            refine thenA_ret ?_
            refine blockA_ret ?_
            refine thenA_ret ?_
            cases h
            refine ⟨rfl, ?_⟩
            exact hq
      · rw [if_neg hb_2443] at h
        have hb_2443F := Bool.eq_false_iff.2 hb_2443
        refine awp_ct (by simp only [go_sem, seval, hb_2438T, hb_2443F]) ?_
        refine awp_seq ?_
        refine awp_region ?_
        refine AL_upto (by exact rfl) (by simp only [go_sem, seval, hb_2438T, hb_2443F]; exact rfl) ?_
        refine AL_nil ?_
        refine thenA_n ?_
        refine awp_ret ?_
        refine thenA_ret ?_
        refine blockA_ret ?_
        refine thenA_ret ?_
        cases h
        refine ⟨rfl, ?_⟩
        refine retQ_ret (by simp only [Tryz.results82]; simp only [go_sem, seval, hb_2438T, hb_2443F]; exact rfl) ?_
        simp only [go_sem, seval, hb_2438T, hb_2443F]
        all_goals ((repeat' refine And.intro ?_ ?_) <;> first | rfl | (simp; done) | (simp; rfl) | (simp [*]; done) | (simp [*]; rfl))
    · rw [if_neg hb_2438] at h
      have hb_2438T := eq_false hb_2438
      refine awp_cf (by simp only [go_sem, seval, hb_2438T]) ?_
      refine awp_exit ?_
      refine thenA_exit ?_
      cases h
      refine ⟨rfl, ?_⟩
      simp only [go_sem, seval, hb_2438T]
      all_goals ((repeat' refine And.intro ?_ ?_) <;> first | rfl | (simp; done) | (simp; rfl) | (simp [*]; done) | (simp [*]; rfl))
  · intro e s' hT
    rcases o_2475 with ⟨⟩ | r_2477
    · try simp only at h
      try simp only at hT
      obtain ⟨rfl, hle⟩ := hT
      refine Wk.to hle ?_
      clear hle
      refine blockA_here ?_
      refine thenA_n ?_
      refine awp_seq ?_
      refine awp_region ?_
      refine AL_upto (by exact rfl) (by simp only [go_sem, seval]; exact rfl) ?_
      refine AL_nil ?_
      refine thenA_n ?_
      refine awp_ret ?_
      cases h
      refine retQ_ret (by simp only [Tryz.results82]; simp only [go_sem, seval]; exact rfl) ?_
      simp only [go_sem, seval]
      all_goals ((repeat' refine And.intro ?_ ?_) <;> first | rfl | (simp; done) | (simp; rfl) | (simp [*]; done) | (simp [*]; rfl))
    · try simp only at h
      try simp only at hT
      obtain ⟨rfl, hq⟩ := hT
      refine Wk.now ?_
      refine blockA_ret ?_
      refine thenA_ret ?_
      cases h
      exact hq
end Go.Proofs.YtdmddoljldjjeaaGreat
set_option linter.unusedVariables false
set_option linter.unusedSimpArgs false
namespace Go.Proofs.YtdmddoljldjjeaaGreat
open Go Go.Ab
set_option maxHeartbeats 4000000 in
theorem drossref55_Of_con (t_2481 : Table) (l_2482 : List (List Int)) (r_2599 : Bool) (h : drossref55_Of t_2481 l_2482 = some r_2599) : Con Tryz.prog 43 [(encTable t_2481), (.slc (List.map (encL (PV.int .i64)) l_2482))] (.bool r_2599) := by
  refine ⟨Tryz.call43, ?_⟩
  refine pure_of_awp Tryz.func43 rfl Tryz.ntmps43 (by simp) fun X w => ?_
  show AWp _ _ _ ⟨[(0, .p (encTable t_2481)), (1, .p (.slc (List.map (encL (PV.int .i64)) l_2482)))], []⟩
  simp only [drossref55_Of] at h
  refine awp_seq ?_
  refine awp_region ?_
  refine AL_upto (by exact rfl) (by simp only [go_sem, seval]; exact rfl) ?_
  refine AL_nil ?_
  refine thenA_n ?_
  refine awp_seq ?_
  refine awp_seq ?_
  refine awp_region ?_
  refine AL_upto (by exact rfl) (by simp only [go_sem, seval]; exact rfl) ?_
  obtain ⟨r_2483, hr_2484, h⟩ := Option.bind_eq_some_iff.1 h
  refine AL_con' rfl (guard_none rfl) rfl (by simp only [go_sem, seval]; exact rfl) (by simp only [go_sem, seval]; all_goals ((repeat' refine And.intro ?_ ?_) <;> first | rfl | (simp; done) | (simp; rfl) | (simp [*]; done) | (simp [*]; rfl))) (drossref55_once_con l_2482 _ hr_2484) (.inr rfl) rfl ?_
  refine AL_upto (by exact rfl) (by simp only [go_sem, seval]; exact rfl) ?_
  refine AL_nil ?_
  refine thenA_n ?_
  by_cases hb_2485 : r_2483 = true
  · rw [if_pos hb_2485] at h
    refine awp_cf (by simp only [go_sem, seval, hb_2485]) ?_
    refine awp_skip ?_
    refine thenA_n ?_
    refine awp_seq ?_
    refine awp_region ?_
    refine AL_upto (by exact rfl) (by simp only [go_sem, seval, hb_2485]; exact rfl) ?_
    refine AL_nil ?_
    refine thenA_n ?_
    refine awp_seq ?_
    refine awp_seq ?_
    refine awp_region ?_
    refine AL_upto (by exact rfl) (by simp only [go_sem, seval, hb_2485]; exact rfl) ?_
    refine AL_nil ?_
    refine thenA_n ?_
    refine awp_block ?_
    obtain ⟨o_2594, hL_2595, h⟩ := Option.bind_eq_some_iff.1 h
    refine awp_loop_L (fun (s : Int × Int) => ⟨[(1, .p (.slc (List.map (encL (PV.int .i64)) l_2482))), (2, .loc 2 1 0 0), (5, .p (.int .i64 s.1)), (6, .p (.int .i64 s.2))], [(2, .arr 25 3 1 [.p (encTable t_2481)])]⟩) (fun (o : (Int) ⊕ (Bool)) (e : Exit) (s' : St) => match o with | .inl o_2597 => e = (.exit 0) ∧ Le ⟨Tryz.prog, Tryz.f43.ntmps, 0, X, [], fun _ => none, w⟩ s' ⟨[(2, .loc 2 1 0 0), (5, .p (.int .i64 o_2597))], [(2, .arr 25 3 1 [.p (encTable t_2481)])]⟩ | .inr o_2598 => e = .ret ∧ retQ Tryz.prog Tryz.f43 (.bool o_2598) .ret s') (by intro o s hT; rcases o with _ | _ <;> (have hh := hT.1; cases hh)) hL_2595 (by simp only [go_sem, seval, hb_2485]; all_goals ((repeat' refine And.intro ?_ ?_) <;> first | rfl | (simp; done) | (simp; rfl) | (simp [*]; done) | (simp [*]; rfl))) ?_ ?_
    · clear h
      intro s x h
      obtain ⟨n_2521, i_2522⟩ := s
      simp only [drossref55_Of_l4] at h
      show AWp _ _ _ ⟨[(1, .p (.slc (List.map (encL (PV.int .i64)) l_2482))), (2, .loc 2 1 0 0), (5, .p (.int .i64 n_2521)), (6, .p (.int .i64 i_2522))], [(2, .arr 25 3 1 [.p (encTable t_2481)])]⟩
      refine awp_seq ?_
      refine awp_seq ?_
      refine awp_region ?_
      refine AL_upto (by exact rfl) (by simp only [go_sem, seval]; exact rfl) ?_
      refine AL_nil ?_
      refine thenA_n ?_
      by_cases hb_2559 : i_2522 < (l_2482.length : Int)
      · rw [if_pos hb_2559] at h
        have hb_2559T := eq_true hb_2559
        refine awp_ct (by simp only [go_sem, seval, hb_2559T]) ?_
        refine awp_skip ?_
        refine thenA_n ?_
        refine awp_seq ?_
        refine awp_block ?_
        refine awp_seq ?_
        refine awp_region ?_
        obtain ⟨x_2562, hx_2563, h⟩ := Option.bind_eq_some_iff.1 h
        obtain ⟨hx_2563a, hx_2563, hx_2563b⟩ := idx_some hx_2563
        have hx_2563A := eq_true hx_2563a
        have hx_2563B := eq_true hx_2563b
        refine AL_upto (by exact rfl) (by simp only [go_sem, seval, hb_2559T, hx_2563, hx_2563A, hx_2563B]; exact rfl) ?_
        refine AL_nil ?_
        refine thenA_n ?_
        refine awp_seq ?_
        refine awp_region ?_
        refine AL_upto (by exact rfl) (by simp only [go_sem, seval, hb_2559T]; exact rfl) ?_
        refine AL_nil ?_
        refine thenA_n ?_
        refine awp_block ?_
        obtain ⟨o_2589, hL_2590, h⟩ := Option.bind_eq_some_iff.1 h
        refine awp_loop_L (fun (s : Int) => ⟨[(1, .p (.slc (List.map (encL (PV.int .i64)) l_2482))), (2, .loc 2 1 0 0), (5, .p (.int .i64 (IntKind.i64.wrap (n_2521 + (x_2562.length : Int))))), (6, .p (.int .i64 i_2522)), (7, .p (.int .i64 s))], [(2, .arr 25 3 1 [.p (encTable t_2481)])]⟩) (fun (o : (Unit) ⊕ (Bool)) (e : Exit) (s' : St) => match o with | .inl o_2592 => e = (.exit 2) ∧ Le ⟨Tryz.prog, Tryz.f43.ntmps, 0, X, [], fun _ => none, w⟩ s' ⟨[(1, .p (.slc (List.map (encL (PV.int .i64)) l_2482))), (2, .loc 2 1 0 0), (5, .p (.int .i64 (IntKind.i64.wrap (n_2521 + (x_2562.length : Int))))), (6, .p (.int .i64 i_2522))], [(2, .arr 25 3 1 [.p (encTable t_2481)])]⟩ | .inr o_2593 => e = .ret ∧ retQ Tryz.prog Tryz.f43 (.bool o_2593) .ret s') (by intro o s hT; rcases o with _ | _ <;> (have hh := hT.1; cases hh)) hL_2590 (by simp only [go_sem, seval, hb_2559T]; all_goals ((repeat' refine And.intro ?_ ?_) <;> first | rfl | (simp; done) | (simp; rfl) | (simp [*]; done) | (simp [*]; rfl))) ?_ ?_
        · clear h
          intro k_2572 x h
          simp only [drossref55_Of_l3] at h
          show AWp _ _ _ ⟨[(1, .p (.slc (List.map (encL (PV.int .i64)) l_2482))), (2, .loc 2 1 0 0), (5, .p (.int .i64 (IntKind.i64.wrap (n_2521 + (x_2562.length : Int))))), (6, .p (.int .i64 i_2522)), (7, .p (.int .i64 k_2572))], [(2, .arr 25 3 1 [.p (encTable t_2481)])]⟩
          refine awp_seq ?_
          refine awp_seq ?_
          refine awp_region ?_
          obtain ⟨x_2581, hx_2582, h⟩ := Option.bind_eq_some_iff.1 h
          obtain ⟨hx_2582a, hx_2582, hx_2582b⟩ := idx_some hx_2582
          have hx_2582A := eq_true hx_2582a
          have hx_2582B := eq_true hx_2582b
          refine AL_upto (by exact rfl) (by simp only [go_sem, seval, hx_2582, hx_2582A, hx_2582B]; exact rfl) ?_
          refine AL_nil ?_
          refine thenA_n ?_
          by_cases hb_2583 : k_2572 < (x_2581.length : Int)
          · rw [if_pos hb_2583] at h
            have hb_2583T := eq_true hb_2583
            refine awp_ct (by simp only [go_sem, seval, hb_2583T]) ?_
            refine awp_skip ?_
            refine thenA_n ?_
            refine awp_seq ?_
            refine awp_block ?_
            refine awp_seq ?_
            refine awp_drawn_walk mixed (by decide) ?_
            obtain ⟨x_2584, hx_2585, h⟩ := Option.bind_eq_some_iff.1 h
            obtain ⟨hx_2585a, hx_2585, hx_2585b⟩ := idx_some hx_2585
            have hx_2585A := eq_true hx_2585a
            have hx_2585B := eq_true hx_2585b
            refine DGo.upto (by exact rfl) (by simp only [go_sem, seval, hb_2583T, hx_2582, hx_2582A, hx_2582B, hx_2585, hx_2585A, hx_2585B]; first | exact ⟨rfl, rfl⟩ | exact rfl) ?_
            obtain ⟨r_2586, hr_2587, h⟩ := Option.bind_eq_some_iff.1 h
            refine DGo.con' rfl (guard_none rfl) rfl (by simp only [go_sem, seval, hb_2583T]; exact rfl) (by simp only [go_sem, seval, hb_2583T]; all_goals ((repeat' refine And.intro ?_ ?_) <;> first | rfl | (simp; done) | (simp; rfl) | (simp [*]; done) | (simp [*]; rfl))) (by simp only [go_sem, seval, hb_2583T]; exact rfl) (drossref03_Find_con t_2481 x_2584 _ hr_2587) (.inr rfl) rfl ?_
            refine DGo.upto (by exact rfl) (by simp only [go_sem, seval, hb_2583T]; first | exact ⟨rfl, rfl⟩ | exact rfl) ?_
            refine DGo.fin rfl ?_
            refine thenA_n ?_
            refine awp_seq ?_
            refine awp_region ?_
            refine AL_upto (by exact rfl) (by simp only [go_sem, seval, hb_2583T]; exact rfl) ?_
            refine AL_nil ?_
            refine thenA_n ?_
            by_cases hb_2588 : r_2586.2 = true
            · rw [if_pos hb_2588] at h
              refine awp_cf (by simp only [go_sem, seval, hb_2583T, hb_2588]) ?_
              refine awp_skip ?_
              refine blockA_n ?_
              refine thenA_n ?_
              refine awp_region ?_
              refine AL_upto (by exact rfl) (by simp only [go_sem, seval, hb_2583T, hb_2588]; exact rfl) ?_
              refine AL_nil ?_
              cases h
              refine ⟨rfl, ?_⟩
              simp only [go_sem, seval, hb_2583T, hb_2588]
              all_goals ((repeat' refine And.intro ?_ ?_) <;> first | rfl | (simp; done) | (simp; rfl) | (simp [*]; done) | (simp [*]; rfl))
            · rw [if_neg hb_2588] at h
              have hb_2588F := Bool.eq_false_iff.2 hb_2588
              refine awp_ct (by simp only [go_sem, seval, hb_2583T, hb_2588F]) ?_
              refine awp_seq ?_
              refine awp_region ?_
              refine AL_upto (by exact rfl) (by simp only [go_sem, seval, hb_2583T, hb_2588F]; exact rfl) ?_
              refine AL_nil ?_
              refine thenA_n ?_
              refine awp_ret ?_
              refine blockA_ret ?_
              refine thenA_ret ?_
              cases h
              refine ⟨rfl, ?_⟩
              refine retQ_ret (by simp only [Tryz.results43]; simp only [go_sem, seval, hb_2583T, hb_2588F]; exact rfl) ?_
              simp only [go_sem, seval, hb_2583T, hb_2588F]
              all_goals ((repeat' refine And.intro ?_ ?_) <;> first | rfl | (simp; done) | (simp; rfl) | (simp [*]; done) | (simp [*]; rfl))
          · rw [if_neg hb_2583] at h
            have hb_2583T := eq_false hb_2583
            refine awp_cf (by simp only [go_sem, seval, hb_2583T]) ?_
            refine awp_exit ?_
            refine thenA_exit ?_
            cases h
            refine ⟨rfl, ?_⟩
            simp only [go_sem, seval, hb_2583T]
            all_goals ((repeat' refine And.intro ?_ ?_) <;> first | rfl | (simp; done) | (simp; rfl) | (simp [*]; done) | (simp [*]; rfl))
        · intro e s' hT
          rcases o_2589 with ⟨⟩ | r_2591
          · try simp only at h
            try simp only at hT
            obtain ⟨rfl, hle⟩ := hT
            refine Wk.to hle ?_
            clear hle
            refine blockA_here ?_
            refine blockA_n ?_
            refine thenA_n ?_
            refine awp_region ?_
            refine AL_upto (by exact rfl) (by simp only [go_sem, seval, hb_2559T]; exact rfl) ?_
            refine AL_nil ?_
            cases h
            refine ⟨rfl, ?_⟩
            simp only [go_sem, seval, hb_2559T]
            all_goals ((repeat' refine And.intro ?_ ?_) <;> first | rfl | (simp; done) | (simp; rfl) | (simp [*]; done) | (simp [*]; rfl))
          · try simp only at h
            try simp only at hT
            obtain ⟨rfl, hq⟩ := hT
            refine Wk.now ?_
            refine blockA_ret ?_
            refine blockA_ret ?_
            refine thenA_ret ?_
            cases h
            refine ⟨rfl, ?_⟩
            exact hq
      · rw [if_neg hb_2559] at h
        have hb_2559T := eq_false hb_2559
        refine awp_cf (by simp only [go_sem, seval, hb_2559T]) ?_
        refine awp_exit ?_
        refine thenA_exit ?_
        cases h
        refine ⟨rfl, ?_⟩
        simp only [go_sem, seval, hb_2559T]
        all_goals ((repeat' refine And.intro ?_ ?_) <;> first | rfl | (simp; done) | (simp; rfl) | (simp [*]; done) | (simp [*]; rfl))
    · intro e s' hT
      rcases o_2594 with n_2558 | r_2596
      · try simp only at h
        try simp only at hT
        obtain ⟨rfl, hle⟩ := hT
        refine Wk.to hle ?_
        clear hle
        refine blockA_here ?_
        refine thenA_n ?_
        refine awp_seq ?_
        refine awp_region ?_
        refine AL_upto (by exact rfl) (by simp only [go_sem, seval, hb_2485]; exact rfl) ?_
        refine AL_nil ?_
        refine thenA_n ?_
        refine awp_ret ?_
        cases h
        refine retQ_ret (by simp only [Tryz.results43]; simp only [go_sem, seval, hb_2485]; exact rfl) ?_
        simp only [go_sem, seval, hb_2485]
        all_goals ((repeat' refine And.intro ?_ ?_) <;> first | rfl | (simp; done) | (simp; rfl) | (simp [*]; done) | (simp [*]; rfl))
      · try simp only at h
        try simp only at hT
        obtain ⟨rfl, hq⟩ := hT
        refine Wk.now ?_
        refine blockA_ret ?_
        refine thenA_ret ?_
        cases h
        exact hq
  · rw [if_neg hb_2485] at h
    have hb_2485F := Bool.eq_false_iff.2 hb_2485
    refine awp_ct (by simp only [go_sem, seval, hb_2485F]) ?_
    refine awp_seq ?_
    refine awp_region ?_
    refine AL_upto (by exact rfl) (by simp only [go_sem, seval, hb_2485F]; exact rfl) ?_
    refine AL_nil ?_
    refine thenA_n ?_
    refine awp_ret ?_
    refine thenA_ret ?_
    cases h
    refine retQ_ret (by simp only [Tryz.results43]; simp only [go_sem, seval, hb_2485F]; exact rfl) ?_
    simp only [go_sem, seval, hb_2485F]
    all_goals ((repeat' refine And.intro ?_ ?_) <;> first | rfl | (simp; done) | (simp; rfl) | (simp [*]; done) | (simp [*]; rfl))
end Go.Proofs.YtdmddoljldjjeaaGreat
set_option linter.unusedVariables false
set_option linter.unusedSimpArgs false
namespace Go.Proofs.YtdmddoljldjjeaaGreat
open Go Go.Ab
set_option maxHeartbeats 4000000 in
theorem drossref01_sign_con (a_2632 : Int) (b_2633 : Int) (r_2636 : Int) (h : drossref01_sign a_2632 b_2633 = some r_2636) : Con Tryz.prog 98 [(.int .i64 a_2632), (.int .i64 b_2633)] (.int .i64 r_2636) := by
  refine ⟨Tryz.call98, ?_⟩
  refine pure_of_awp Tryz.func98 rfl Tryz.ntmps98 (by simp) fun X w => ?_
  show AWp _ _ _ ⟨[(0, .p (.int .i64 a_2632)), (1, .p (.int .i64 b_2633))], []⟩
  simp only [drossref01_sign] at h
  refine awp_seq ?_
  refine awp_region ?_
  refine AL_upto (by exact rfl) (by simp only [go_sem, seval]; exact rfl) ?_
  refine AL_nil ?_
  refine thenA_n ?_
  refine awp_seq ?_
  refine awp_seq ?_
  refine awp_region ?_
  refine AL_upto (by exact rfl) (by simp only [go_sem, seval]; exact rfl) ?_
  refine AL_nil ?_
  refine thenA_n ?_
  by_cases hb_2634 : a_2632 < b_2633
  · rw [if_pos hb_2634] at h
    have hb_2634T := eq_true hb_2634
    refine awp_ct (by simp only [go_sem, seval, hb_2634T]) ?_
    refine awp_seq ?_
    refine awp_region ?_
    refine AL_upto (by exact rfl) (by simp only [go_sem, seval, hb_2634T]; exact rfl) ?_
    refine AL_nil ?_
    refine thenA_n ?_
    refine awp_ret ?_
    refine thenA_ret ?_
    cases h
    refine retQ_ret (by simp only [Tryz.results98]; simp only [go_sem, seval, hb_2634T]; exact rfl) ?_
    simp only [go_sem, seval, hb_2634T]
    all_goals ((repeat' refine And.intro ?_ ?_) <;> first | rfl | (simp; done) | (simp; rfl) | (simp [*]; done) | (simp [*]; rfl))
  · rw [if_neg hb_2634] at h
    have hb_2634T := eq_false hb_2634
    refine awp_cf (by simp only [go_sem, seval, hb_2634T]) ?_
    refine awp_skip ?_
    refine thenA_n ?_
    refine awp_seq ?_
    refine awp_seq ?_
    refine awp_region ?_
    refine AL_upto (by exact rfl) (by simp only [go_sem, seval, hb_2634T]; exact rfl) ?_
    refine AL_nil ?_
    refine thenA_n ?_
    by_cases hb_2635 : a_2632 > b_2633
    · rw [if_pos hb_2635] at h
      have hb_2635T := eq_true hb_2635
      refine awp_ct (by simp only [go_sem, seval, hb_2634T, hb_2635T]) ?_
      refine awp_seq ?_
      refine awp_region ?_
      refine AL_upto (by exact rfl) (by simp only [go_sem, seval, hb_2634T, hb_2635T]; exact rfl) ?_
      refine AL_nil ?_
      refine thenA_n ?_
      refine awp_ret ?_
      refine thenA_ret ?_
      cases h
      refine retQ_ret (by simp only [Tryz.results98]; simp only [go_sem, seval, hb_2634T, hb_2635T]; exact rfl) ?_
      simp only [go_sem, seval, hb_2634T, hb_2635T]
      all_goals ((repeat' refine And.intro ?_ ?_) <;> first | rfl | (simp; done) | (simp; rfl) | (simp [*]; done) | (simp [*]; rfl))
    · rw [if_neg hb_2635] at h
      have hb_2635T := eq_false hb_2635
      refine awp_cf (by simp only [go_sem, seval, hb_2634T, hb_2635T]) ?_
      refine awp_skip ?_
      refine thenA_n ?_
      refine awp_seq ?_
      refine awp_region ?_
      refine AL_upto (by exact rfl) (by simp only [go_sem, seval, hb_2634T, hb_2635T]; exact rfl) ?_
      refine AL_nil ?_
      refine thenA_n ?_
      refine awp_ret ?_
      cases h
      refine retQ_ret (by simp only [Tryz.results98]; simp only [go_sem, seval, hb_2634T, hb_2635T]; exact rfl) ?_
      simp only [go_sem, seval, hb_2634T, hb_2635T]
      all_goals ((repeat' refine And.intro ?_ ?_) <;> first | rfl | (simp; done) | (simp; rfl) | (simp [*]; done) | (simp [*]; rfl))
end Go.Proofs.YtdmddoljldjjeaaGreat
set_option linter.unusedVariables false
set_option linter.unusedSimpArgs false
namespace Go.Proofs.YtdmddoljldjjeaaGreat
open Go Go.Ab
set_option maxHeartbeats 4000000 in
theorem drossref01_strings_con (a_2637 : List UInt8) (b_2638 : List UInt8) (r_2686 : Int) (h : drossref01_strings a_2637 b_2638 = some r_2686) : Con Tryz.prog 99 [(.str a_2637), (.str b_2638)] (.int .i64 r_2686) := by
  refine ⟨Tryz.call99, ?_⟩
  refine pure_of_awp Tryz.func99 rfl Tryz.ntmps99 (by simp) fun X w => ?_
  show AWp _ _ _ ⟨[(0, .p (.str a_2637)), (1, .p (.str b_2638))], []⟩
  simp only [drossref01_strings] at h
  refine awp_seq ?_
  refine awp_region ?_
  refine AL_upto (by exact rfl) (by simp only [go_sem, seval]; exact rfl) ?_
  refine AL_nil ?_
  refine thenA_n ?_
  refine awp_seq ?_
  refine awp_seq ?_
  refine awp_region ?_
  refine AL_upto (by exact rfl) (by simp only [go_sem, seval]; exact rfl) ?_
  refine AL_nil ?_
  refine thenA_n ?_
  refine awp_block ?_
  obtain ⟨o_2679, hL_2680, h⟩ := Option.bind_eq_some_iff.1 h
  refine awp_loop_L (fun (s : Int) => ⟨[(0, .p (.str a_2637)), (1, .p (.str b_2638)), (5, .p (.int .i64 s))], []⟩) (fun (o : (Unit) ⊕ (Int)) (e : Exit) (s' : St) => match o with | .inl o_2684 => e = (.exit 0) ∧ Le ⟨Tryz.prog, Tryz.f99.ntmps, 0, X, [], fun _ => none, w⟩ s' ⟨[(0, .p (.str a_2637)), (1, .p (.str b_2638))], []⟩ | .inr o_2685 => e = .ret ∧ retQ Tryz.prog Tryz.f99 (.int .i64 o_2685) .ret s') (by intro o s hT; rcases o with _ | _ <;> (have hh := hT.1; cases hh)) hL_2680 (by simp only [go_sem, seval]; all_goals ((repeat' refine And.intro ?_ ?_) <;> first | rfl | (simp; done) | (simp; rfl) | (simp [*]; done) | (simp [*]; rfl))) ?_ ?_
  · clear h
    intro i_2652 x h
    simp only [drossref01_strings_l1] at h
    show AWp _ _ _ ⟨[(0, .p (.str a_2637)), (1, .p (.str b_2638)), (5, .p (.int .i64 i_2652))], []⟩
    refine awp_seq ?_
    refine awp_seq ?_
    refine awp_region ?_
    refine AL_upto (by exact rfl) (by simp only [go_sem, seval]; exact rfl) ?_
    by_cases hb_2666 : i_2652 < (a_2637.length : Int)
    · rw [if_pos hb_2666] at h
      have hb_2666T := eq_true hb_2666
      refine AL_known (d := 10) (v := .p (.bool true)) (by simp only [go_sem, seval, hb_2666T]) ?_
      refine AL_gt' (guard_true' rfl rfl (by exact rfl) (by exact rfl)) rfl (by simp only [go_sem, seval, hb_2666T]; exact rfl) ?_
      refine AL_gt' (guard_true' rfl rfl (by exact rfl) (by exact rfl)) rfl (by simp only [go_sem, seval, hb_2666T]; exact rfl) ?_
      refine AL_gt' (guard_true' rfl rfl (by exact rfl) (by exact rfl)) rfl (by simp only [go_sem, seval, hb_2666T]; exact rfl) ?_
      refine AL_gt' (guard_true' rfl rfl (by exact rfl) (by exact rfl)) rfl (by simp only [go_sem, seval, hb_2666T]; exact rfl) ?_
      refine AL_upto (by exact rfl) (by simp only [go_sem, seval, hb_2666T]; exact rfl) ?_
      refine AL_nil ?_
      refine thenA_n ?_
      by_cases hb_2667 : i_2652 < (b_2638.length : Int)
      · rw [if_pos hb_2667] at h
        have hb_2667T := eq_true hb_2667
        refine awp_ct (by simp only [go_sem, seval, hb_2666T, hb_2667T]) ?_
        refine awp_skip ?_
        refine thenA_n ?_
        refine awp_seq ?_
        refine awp_block ?_
        refine awp_seq ?_
        refine awp_drawn_walk mixed (by decide) ?_
        obtain ⟨c_2672, hx_2673, h⟩ := Option.bind_eq_some_iff.1 h
        obtain ⟨hx_2673a, hx_2673, hx_2673b⟩ := idx_some hx_2673
        have hx_2673A := eq_true hx_2673a
        have hx_2673B := eq_true hx_2673b
        obtain ⟨c_2674, hx_2675, h⟩ := Option.bind_eq_some_iff.1 h
        obtain ⟨hx_2675a, hx_2675, hx_2675b⟩ := idx_some hx_2675
        have hx_2675A := eq_true hx_2675a
        have hx_2675B := eq_true hx_2675b
        refine DGo.upto (by exact rfl) (by simp only [go_sem, seval, hb_2666T, hb_2667T, hx_2673, hx_2673A, hx_2673B, hx_2675, hx_2675A, hx_2675B]; first | exact ⟨rfl, rfl⟩ | exact rfl) ?_
        refine DGo.fin rfl ?_
        refine thenA_n ?_
        by_cases hb_2676 : (((c_2672.toNat : Nat) : Int) != ((c_2674.toNat : Nat) : Int)) = true
        · rw [if_pos hb_2676] at h
          refine awp_ct (by simp only [go_sem, seval, hb_2666T, hb_2667T, hb_2676]) ?_
          refine awp_seq ?_
          refine awp_drawn_walk mixed (by decide) ?_
          refine DGo.upto (by exact rfl) (by simp only [go_sem, seval, hb_2666T, hb_2667T, hb_2676, hx_2673, hx_2673A, hx_2673B, hx_2675, hx_2675A, hx_2675B]; first | exact ⟨rfl, rfl⟩ | exact rfl) ?_
          obtain ⟨r_2677, hr_2678, h⟩ := Option.bind_eq_some_iff.1 h
          refine DGo.con' rfl (guard_none rfl) rfl (by simp only [go_sem, seval, hb_2666T, hb_2667T, hb_2676]; exact rfl) (by simp only [go_sem, seval, hb_2666T, hb_2667T, hb_2676]; all_goals ((repeat' refine And.intro ?_ ?_) <;> first | rfl | (simp; done) | (simp; rfl) | (simp [*]; done) | (simp [*]; rfl))) (by simp only [go_sem, seval, hb_2666T, hb_2667T, hb_2676]; exact rfl) (drossref01_sign_con (IntKind.i64.wrap ((c_2672.toNat : Nat) : Int)) (IntKind.i64.wrap ((c_2674.toNat : Nat) : Int)) _ hr_2678) (.inr rfl) rfl ?_
          refine DGo.upto (by exact rfl) (by simp only [go_sem, seval, hb_2666T, hb_2667T, hb_2676]; first | exact ⟨rfl, rfl⟩ | exact rfl) ?_
          refine DGo.fin rfl ?_
          refine thenA_n ?_
          refine awp_ret ?_
          refine blockA_ret ?_
          refine thenA_ret ?_
          cases h
          refine ⟨rfl, ?_⟩
          refine retQ_ret (by simp only [Tryz.results99]; simp only [go_sem, seval, hb_2666T, hb_2667T, hb_2676]; exact rfl) ?_
          simp only [go_sem, seval, hb_2666T, hb_2667T, hb_2676]
          all_goals ((repeat' refine And.intro ?_ ?_) <;> first | rfl | (simp; done) | (simp; rfl) | (simp [*]; done) | (simp [*]; rfl))
        · rw [if_neg hb_2676] at h
          have hb_2676F := Bool.eq_false_iff.2 hb_2676
          refine awp_cf (by simp only [go_sem, seval, hb_2666T, hb_2667T, hb_2676F]) ?_
          refine awp_skip ?_
          refine blockA_n ?_
          refine thenA_n ?_
          refine awp_region ?_
          refine AL_upto (by exact rfl) (by simp only [go_sem, seval, hb_2666T, hb_2667T, hb_2676F]; exact rfl) ?_
          refine AL_nil ?_
          cases h
          refine ⟨rfl, ?_⟩
          simp only [go_sem, seval, hb_2666T, hb_2667T, hb_2676F]
          all_goals ((repeat' refine And.intro ?_ ?_) <;> first | rfl | (simp; done) | (simp; rfl) | (simp [*]; done) | (simp [*]; rfl))
      · rw [if_neg hb_2667] at h
        have hb_2667T := eq_false hb_2667
        refine awp_cf (by simp only [go_sem, seval, hb_2666T, hb_2667T]) ?_
        refine awp_exit ?_
        refine thenA_exit ?_
        cases h
        refine ⟨rfl, ?_⟩
        simp only [go_sem, seval, hb_2666T, hb_2667T]
        all_goals ((repeat' refine And.intro ?_ ?_) <;> first | rfl | (simp; done) | (simp; rfl) | (simp [*]; done) | (simp [*]; rfl))
    · rw [if_neg hb_2666] at h
      have hb_2666T := eq_false hb_2666
      refine AL_known (d := 10) (v := .p (.bool false)) (by simp only [go_sem, seval, hb_2666T]) ?_
      refine AL_skips (by exact rfl) ?_
      refine AL_upto (by exact rfl) (by simp only [go_sem, seval, hb_2666T]; exact rfl) ?_
      refine AL_nil ?_
      refine thenA_n ?_
      refine awp_cf (by simp only [go_sem, seval, hb_2666T]) ?_
      refine awp_exit ?_
      refine thenA_exit ?_
      cases h
      refine ⟨rfl, ?_⟩
      simp only [go_sem, seval, hb_2666T]
      all_goals ((repeat' refine And.intro ?_ ?_) <;> first | rfl | (simp; done) | (simp; rfl) | (simp [*]; done) | (simp [*]; rfl))
  · intro e s' hT
    rcases o_2679 with ⟨⟩ | r_2683
    · try simp only at h
      try simp only at hT
      obtain ⟨rfl, hle⟩ := hT
      refine Wk.to hle ?_
      clear hle
      refine blockA_here ?_
      refine thenA_n ?_
      refine awp_seq ?_
      refine awp_region ?_
      refine AL_upto (by exact rfl) (by simp only [go_sem, seval]; exact rfl) ?_
      obtain ⟨r_2681, hr_2682, h⟩ := Option.bind_eq_some_iff.1 h
      refine AL_con' rfl (guard_none rfl) rfl (by simp only [go_sem, seval]; exact rfl) (by simp only [go_sem, seval]; all_goals ((repeat' refine And.intro ?_ ?_) <;> first | rfl | (simp; done) | (simp; rfl) | (simp [*]; done) | (simp [*]; rfl))) (drossref01_sign_con (a_2637.length : Int) (b_2638.length : Int) _ hr_2682) (.inr rfl) rfl ?_
      refine AL_upto (by exact rfl) (by simp only [go_sem, seval]; exact rfl) ?_
      refine AL_nil ?_
      refine thenA_n ?_
      refine awp_ret ?_
      cases h
      refine retQ_ret (by simp only [Tryz.results99]; simp only [go_sem, seval]; exact rfl) ?_
      simp only [go_sem, seval]
      all_goals ((repeat' refine And.intro ?_ ?_) <;> first | rfl | (simp; done) | (simp; rfl) | (simp [*]; done) | (simp [*]; rfl))
    · try simp only at h
      try simp only at hT
      obtain ⟨rfl, hq⟩ := hT
      refine Wk.now ?_
      refine blockA_ret ?_
      refine thenA_ret ?_
      cases h
      exact hq
end Go.Proofs.YtdmddoljldjjeaaGreat
set_option linter.unusedVariables false
set_option linter.unusedSimpArgs false
namespace Go.Proofs.YtdmddoljldjjeaaGreat
open Go Go.Ab
set_option maxHeartbeats 4000000 in
theorem drossref01_Compare_con (a_2687 : Value) (b_2688 : Value) (r_2697 : Int) (h : drossref01_Compare a_2687 b_2688 = some r_2697) : Con Tryz.prog 59 [(encValue a_2687), (encValue b_2688)] (.int .i64 r_2697) := by
  refine ⟨Tryz.call59, ?_⟩
  refine pure_of_awp Tryz.func59 rfl Tryz.ntmps59 (by simp) fun X w => ?_
  show AWp _ _ _ ⟨[(0, .p (encValue a_2687)), (1, .p (encValue b_2688))], []⟩
  simp only [drossref01_Compare] at h
  refine awp_seq ?_
  refine awp_region ?_
  refine AL_upto (by exact rfl) (by simp only [go_sem, seval]; exact rfl) ?_
  refine AL_nil ?_
  refine thenA_n ?_
  refine awp_seq ?_
  refine awp_seq ?_
  refine awp_region ?_
  refine AL_upto (by exact rfl) (by simp only [go_sem, seval]; exact rfl) ?_
  obtain ⟨r_2689, hr_2690, h⟩ := Option.bind_eq_some_iff.1 h
  refine AL_con' rfl (guard_none rfl) rfl (by simp only [go_sem, seval]; exact rfl) (by simp only [go_sem, seval]; all_goals ((repeat' refine And.intro ?_ ?_) <;> first | rfl | (simp; done) | (simp; rfl) | (simp [*]; done) | (simp [*]; rfl))) (drossref01_sign_con a_2687.Kind b_2688.Kind _ hr_2690) (.inr rfl) rfl ?_
  refine AL_upto (by exact rfl) (by simp only [go_sem, seval]; exact rfl) ?_
  refine AL_nil ?_
  refine thenA_n ?_
  refine awp_seq ?_
  refine awp_region ?_
  refine AL_upto (by exact rfl) (by simp only [go_sem, seval]; exact rfl) ?_
  refine AL_nil ?_
  refine thenA_n ?_
  by_cases hb_2691 : (r_2689 != 0) = true
  · rw [if_pos hb_2691] at h
    refine awp_ct (by simp only [go_sem, seval, hb_2691]) ?_
    refine awp_seq ?_
    refine awp_region ?_
    refine AL_upto (by exact rfl) (by simp only [go_sem, seval, hb_2691]; exact rfl) ?_
    refine AL_nil ?_
    refine thenA_n ?_
    refine awp_ret ?_
    refine thenA_ret ?_
    cases h
    refine retQ_ret (by simp only [Tryz.results59]; simp only [go_sem, seval, hb_2691]; exact rfl) ?_
    simp only [go_sem, seval, hb_2691]
    all_goals ((repeat' refine And.intro ?_ ?_) <;> first | rfl | (simp; done) | (simp; rfl) | (simp [*]; done) | (simp [*]; rfl))
  · rw [if_neg hb_2691] at h
    have hb_2691F := Bool.eq_false_iff.2 hb_2691
    refine awp_cf (by simp only [go_sem, seval, hb_2691F]) ?_
    refine awp_skip ?_
    refine thenA_n ?_
    refine awp_seq ?_
    refine awp_seq ?_
    refine awp_region ?_
    refine AL_upto (by exact rfl) (by simp only [go_sem, seval, hb_2691F]; exact rfl) ?_
    obtain ⟨r_2692, hr_2693, h⟩ := Option.bind_eq_some_iff.1 h
    refine AL_con' rfl (guard_none rfl) rfl (by simp only [go_sem, seval, hb_2691F]; exact rfl) (by simp only [go_sem, seval, hb_2691F]; all_goals ((repeat' refine And.intro ?_ ?_) <;> first | rfl | (simp; done) | (simp; rfl) | (simp [*]; done) | (simp [*]; rfl))) (drossref01_sign_con a_2687.Num b_2688.Num _ hr_2693) (.inr rfl) rfl ?_
    refine AL_upto (by exact rfl) (by simp only [go_sem, seval, hb_2691F]; exact rfl) ?_
    refine AL_nil ?_
    refine thenA_n ?_
    refine awp_seq ?_
    refine awp_region ?_
    refine AL_upto (by exact rfl) (by simp only [go_sem, seval, hb_2691F]; exact rfl) ?_
    refine AL_nil ?_
    refine thenA_n ?_
    by_cases hb_2694 : (r_2692 != 0) = true
    · rw [if_pos hb_2694] at h
      refine awp_ct (by simp only [go_sem, seval, hb_2691F, hb_2694]) ?_
      refine awp_seq ?_
      refine awp_region ?_
      refine AL_upto (by exact rfl) (by simp only [go_sem, seval, hb_2691F, hb_2694]; exact rfl) ?_
      refine AL_nil ?_
      refine thenA_n ?_
      refine awp_ret ?_
      refine thenA_ret ?_
      cases h
      refine retQ_ret (by simp only [Tryz.results59]; simp only [go_sem, seval, hb_2691F, hb_2694]; exact rfl) ?_
      simp only [go_sem, seval, hb_2691F, hb_2694]
      all_goals ((repeat' refine And.intro ?_ ?_) <;> first | rfl | (simp; done) | (simp; rfl) | (simp [*]; done) | (simp [*]; rfl))
    · rw [if_neg hb_2694] at h
      have hb_2694F := Bool.eq_false_iff.2 hb_2694
      refine awp_cf (by simp only [go_sem, seval, hb_2691F, hb_2694F]) ?_
      refine awp_skip ?_
      refine thenA_n ?_
      refine awp_seq ?_
      refine awp_region ?_
      refine AL_upto (by exact rfl) (by simp only [go_sem, seval, hb_2691F, hb_2694F]; exact rfl) ?_
      obtain ⟨r_2695, hr_2696, h⟩ := Option.bind_eq_some_iff.1 h
      refine AL_con' rfl (guard_none rfl) rfl (by simp only [go_sem, seval, hb_2691F, hb_2694F]; exact rfl) (by simp only [go_sem, seval, hb_2691F, hb_2694F]; all_goals ((repeat' refine And.intro ?_ ?_) <;> first | rfl | (simp; done) | (simp; rfl) | (simp [*]; done) | (simp [*]; rfl))) (drossref01_strings_con a_2687.Str b_2688.Str _ hr_2696) (.inr rfl) rfl ?_
      refine AL_upto (by exact rfl) (by simp only [go_sem, seval, hb_2691F, hb_2694F]; exact rfl) ?_
      refine AL_nil ?_
      refine thenA_n ?_
      refine awp_ret ?_
      cases h
      refine retQ_ret (by simp only [Tryz.results59]; simp only [go_sem, seval, hb_2691F, hb_2694F]; exact rfl) ?_
      simp only [go_sem, seval, hb_2691F, hb_2694F]
      all_goals ((repeat' refine And.intro ?_ ?_) <;> first | rfl | (simp; done) | (simp; rfl) | (simp [*]; done) | (simp [*]; rfl))
end Go.Proofs.YtdmddoljldjjeaaGreat
set_option linter.unusedVariables false
set_option linter.unusedSimpArgs false
namespace Go.Proofs.YtdmddoljldjjeaaGreat
open Go Go.Ab
set_option maxHeartbeats 4000000 in
theorem drossref55_times_con (rows_2698 : List Row) (attr_2699 : Int) (v_2700 : Value) (r_2731 : Int) (h : drossref55_times rows_2698 attr_2699 v_2700 = some r_2731) : Con Tryz.prog 146 [(.slc (List.map encRow rows_2698)), (.int .i64 attr_2699), (encValue v_2700)] (.int .i64 r_2731) := by
  refine ⟨Tryz.call146, ?_⟩
  refine pure_of_awp Tryz.func146 rfl Tryz.ntmps146 (by simp) fun X w => ?_
  show AWp _ _ _ ⟨[(0, .p (.slc (List.map encRow rows_2698))), (1, .p (.int .i64 attr_2699)), (2, .p (encValue v_2700))], []⟩
  simp only [drossref55_times] at h
  refine awp_seq ?_
  refine awp_region ?_
  refine AL_upto (by exact rfl) (by simp only [go_sem, seval]; exact rfl) ?_
  refine AL_nil ?_
  refine thenA_n ?_
  refine awp_seq ?_
  refine awp_region ?_
  refine AL_upto (by exact rfl) (by simp only [go_sem, seval]; exact rfl) ?_
  refine AL_nil ?_
  refine thenA_n ?_
  refine awp_seq ?_
  refine awp_seq ?_
  refine awp_region ?_
  refine AL_upto (by exact rfl) (by simp only [go_sem, seval]; exact rfl) ?_
  refine AL_nil ?_
  refine thenA_n ?_
  refine awp_block ?_
  obtain ⟨o_2728, hL_2729, h⟩ := Option.bind_eq_some_iff.1 h
  refine awp_loop_L (fun (s : Int × Int) => ⟨[(0, .p (.slc (List.map encRow rows_2698))), (1, .p (.int .i64 attr_2699)), (5, .loc 5 1 0 0), (7, .p (.int .i64 s.1)), (8, .p (.int .i64 s.2))], [(5, .arr 64 3 1 [.p (encValue v_2700)])]⟩) (fun (o_2730 : Int) (e : Exit) (s' : St) => e = (.exit 0) ∧ Le ⟨Tryz.prog, Tryz.f146.ntmps, 0, X, [], fun _ => none, w⟩ s' ⟨[(7, .p (.int .i64 o_2730))], []⟩) (by intro o s hT; have hh := hT.1; cases hh) hL_2729 (by simp only [go_sem, seval]; all_goals ((repeat' refine And.intro ?_ ?_) <;> first | rfl | (simp; done) | (simp; rfl) | (simp [*]; done) | (simp [*]; rfl))) ?_ ?_
  · clear h
    intro s x h
    obtain ⟨n_2709, i_2710⟩ := s
    simp only [drossref55_times_l1] at h
    show AWp _ _ _ ⟨[(0, .p (.slc (List.map encRow rows_2698))), (1, .p (.int .i64 attr_2699)), (5, .loc 5 1 0 0), (7, .p (.int .i64 n_2709)), (8, .p (.int .i64 i_2710))], [(5, .arr 64 3 1 [.p (encValue v_2700)])]⟩
    refine awp_seq ?_
    refine awp_seq ?_
    refine awp_region ?_
    refine AL_upto (by exact rfl) (by simp only [go_sem, seval]; exact rfl) ?_
    refine AL_nil ?_
    refine thenA_n ?_
    by_cases hb_2720 : i_2710 < (rows_2698.length : Int)
    · rw [if_pos hb_2720] at h
      have hb_2720T := eq_true hb_2720
      refine awp_ct (by simp only [go_sem, seval, hb_2720T]) ?_
      refine awp_skip ?_
      refine thenA_n ?_
      refine awp_seq ?_
      refine awp_block ?_
      refine awp_seq ?_
      refine awp_drawn_walk mixed (by decide) ?_
      obtain ⟨x_2721, hx_2722, h⟩ := Option.bind_eq_some_iff.1 h
      obtain ⟨hx_2722a, hx_2722, hx_2722b⟩ := idx_some hx_2722
      have hx_2722A := eq_true hx_2722a
      have hx_2722B := eq_true hx_2722b
      obtain ⟨x_2723, hx_2724, h⟩ := Option.bind_eq_some_iff.1 h
      obtain ⟨hx_2724a, hx_2724, hx_2724b⟩ := idx_some hx_2724
      have hx_2724A := eq_true hx_2724a
      have hx_2724B := eq_true hx_2724b
      refine DGo.upto (by exact rfl) (by simp only [go_sem, seval, hb_2720T, hx_2722, hx_2722A, hx_2722B, hx_2724, hx_2724A, hx_2724B]; first | exact ⟨rfl, rfl⟩ | exact rfl) ?_
      obtain ⟨r_2725, hr_2726, h⟩ := Option.bind_eq_some_iff.1 h
      refine DGo.con' rfl (guard_none rfl) rfl (by simp only [go_sem, seval, hb_2720T]; exact rfl) (by simp only [go_sem, seval, hb_2720T]; all_goals ((repeat' refine And.intro ?_ ?_) <;> first | rfl | (simp; done) | (simp; rfl) | (simp [*]; done) | (simp [*]; rfl))) (by simp only [go_sem, seval, hb_2720T]; exact rfl) (drossref01_Compare_con x_2723 v_2700 _ hr_2726) (.inr rfl) rfl ?_
      refine DGo.upto (by exact rfl) (by simp only [go_sem, seval, hb_2720T]; first | exact ⟨rfl, rfl⟩ | exact rfl) ?_
      refine DGo.fin rfl ?_
      refine thenA_n ?_
      by_cases hb_2727 : (r_2725 == 0) = true
      · rw [if_pos hb_2727] at h
        refine awp_ct (by simp only [go_sem, seval, hb_2720T, hb_2727]) ?_
        refine awp_region ?_
        refine AL_upto (by exact rfl) (by simp only [go_sem, seval, hb_2720T, hb_2727]; exact rfl) ?_
        refine AL_nil ?_
        refine blockA_n ?_
        refine thenA_n ?_
        refine awp_region ?_
        refine AL_upto (by exact rfl) (by simp only [go_sem, seval, hb_2720T, hb_2727]; exact rfl) ?_
        refine AL_nil ?_
        cases h
        refine ⟨rfl, ?_⟩
        simp only [go_sem, seval, hb_2720T, hb_2727]
        all_goals ((repeat' refine And.intro ?_ ?_) <;> first | rfl | (simp; done) | (simp; rfl) | (simp [*]; done) | (simp [*]; rfl))
      · rw [if_neg hb_2727] at h
        have hb_2727F := Bool.eq_false_iff.2 hb_2727
        refine awp_cf (by simp only [go_sem, seval, hb_2720T, hb_2727F]) ?_
        refine awp_skip ?_
        refine blockA_n ?_
        refine thenA_n ?_
        refine awp_region ?_
        refine AL_upto (by exact rfl) (by simp only [go_sem, seval, hb_2720T, hb_2727F]; exact rfl) ?_
        refine AL_nil ?_
        cases h
        refine ⟨rfl, ?_⟩
        simp only [go_sem, seval, hb_2720T, hb_2727F]
        all_goals ((repeat' refine And.intro ?_ ?_) <;> first | rfl | (simp; done) | (simp; rfl) | (simp [*]; done) | (simp [*]; rfl))
    · rw [if_neg hb_2720] at h
      have hb_2720T := eq_false hb_2720
      refine awp_cf (by simp only [go_sem, seval, hb_2720T]) ?_
      refine awp_exit ?_
      refine thenA_exit ?_
      cases h
      refine ⟨rfl, ?_⟩
      simp only [go_sem, seval, hb_2720T]
      all_goals ((repeat' refine And.intro ?_ ?_) <;> first | rfl | (simp; done) | (simp; rfl) | (simp [*]; done) | (simp [*]; rfl))
  · intro e s' hT
    obtain ⟨n_2719, rfl⟩ : ∃ z, z = o_2728 := ⟨_, rfl⟩
    try simp only at h
    try simp only at hT
    obtain ⟨rfl, hle⟩ := hT
    refine Wk.to hle ?_
    clear hle
    refine blockA_here ?_
    refine thenA_n ?_
    refine awp_seq ?_
    refine awp_region ?_
    refine AL_upto (by exact rfl) (by simp only [go_sem, seval]; exact rfl) ?_
    refine AL_nil ?_
    refine thenA_n ?_
    refine awp_ret ?_
    cases h
    refine retQ_ret (by simp only [Tryz.results146]; simp only [go_sem, seval]; exact rfl) ?_
    simp only [go_sem, seval]
    all_goals ((repeat' refine And.intro ?_ ?_) <;> first | rfl | (simp; done) | (simp; rfl) | (simp [*]; done) | (simp [*]; rfl))
end Go.Proofs.YtdmddoljldjjeaaGreat
set_option linter.unusedVariables false
set_option linter.unusedSimpArgs false
namespace Go.Proofs.YtdmddoljldjjeaaGreat
open Go Go.Ab
set_option maxHeartbeats 4000000 in
theorem drossref55_better_con (rows_2732 : List Row) (attr_2733 : Int) (rule_2734 : Int) (v_2735 : Value) (old_2736 : Value) (r_2753 : Bool) (h : drossref55_better rows_2732 attr_2733 rule_2734 v_2735 old_2736 = some r_2753) : Con Tryz.prog 125 [(.slc (List.map encRow rows_2732)), (.int .i64 attr_2733), (.int .i64 rule_2734), (encValue v_2735), (encValue old_2736)] (.bool r_2753) := by
  refine ⟨Tryz.call125, ?_⟩
  refine pure_of_awp Tryz.func125 rfl Tryz.ntmps125 (by simp) fun X w => ?_
  show AWp _ _ _ ⟨[(0, .p (.slc (List.map encRow rows_2732))), (1, .p (.int .i64 attr_2733)), (2, .p (.int .i64 rule_2734)), (3, .p (encValue v_2735)), (4, .p (encValue old_2736))], []⟩
  simp only [drossref55_better] at h
  refine awp_seq ?_
  refine awp_region ?_
  refine AL_upto (by exact rfl) (by simp only [go_sem, seval]; exact rfl) ?_
  refine AL_nil ?_
  refine thenA_n ?_
  refine awp_seq ?_
  refine awp_seq ?_
  refine awp_region ?_
  refine AL_upto (by exact rfl) (by simp only [go_sem, seval]; exact rfl) ?_
  refine AL_nil ?_
  refine thenA_n ?_
  by_cases hb_2737 : (rule_2734 == 2) = true
  · rw [if_pos hb_2737] at h
    refine awp_ct (by simp only [go_sem, seval, hb_2737]) ?_
    refine awp_seq ?_
    refine awp_drawn_walk mixed (by decide) ?_
    refine DGo.upto (by exact rfl) (by simp only [go_sem, seval, hb_2737]; first | exact ⟨rfl, rfl⟩ | exact rfl) ?_
    obtain ⟨r_2738, hr_2739, h⟩ := Option.bind_eq_some_iff.1 h
    refine DGo.con' rfl (guard_none rfl) rfl (by simp only [go_sem, seval, hb_2737]; exact rfl) (by simp only [go_sem, seval, hb_2737]; all_goals ((repeat' refine And.intro ?_ ?_) <;> first | rfl | (simp; done) | (simp; rfl) | (simp [*]; done) | (simp [*]; rfl))) (by simp only [go_sem, seval, hb_2737]; exact rfl) (drossref55_times_con rows_2732 attr_2733 v_2735 _ hr_2739) (.inr rfl) rfl ?_
    refine DGo.upto (by exact rfl) (by simp only [go_sem, seval, hb_2737]; first | exact ⟨rfl, rfl⟩ | exact rfl) ?_
    obtain ⟨r_2740, hr_2741, h⟩ := Option.bind_eq_some_iff.1 h
    refine DGo.con' rfl (guard_none rfl) rfl (by simp only [go_sem, seval, hb_2737]; exact rfl) (by simp only [go_sem, seval, hb_2737]; all_goals ((repeat' refine And.intro ?_ ?_) <;> first | rfl | (simp; done) | (simp; rfl) | (simp [*]; done) | (simp [*]; rfl))) (by simp only [go_sem, seval, hb_2737]; exact rfl) (drossref55_times_con rows_2732 attr_2733 old_2736 _ hr_2741) (.inr rfl) rfl ?_
    refine DGo.upto (by exact rfl) (by simp only [go_sem, seval, hb_2737]; first | exact ⟨rfl, rfl⟩ | exact rfl) ?_
    refine DGo.fin rfl ?_
    refine thenA_n ?_
    refine awp_ret ?_
    refine thenA_ret ?_
    cases h
    refine retQ_ret (by simp only [Tryz.results125]; simp only [go_sem, seval, hb_2737]; exact rfl) ?_
    simp only [go_sem, seval, hb_2737]
    all_goals ((repeat' refine And.intro ?_ ?_) <;> first | rfl | (simp; done) | (simp; rfl) | (simp [*]; done) | (simp [*]; rfl))
  · rw [if_neg hb_2737] at h
    have hb_2737F := Bool.eq_false_iff.2 hb_2737
    refine awp_cf (by simp only [go_sem, seval, hb_2737F]) ?_
    refine awp_skip ?_
    refine thenA_n ?_
    refine awp_seq ?_
    refine awp_seq ?_
    refine awp_region ?_
    refine AL_upto (by exact rfl) (by simp only [go_sem, seval, hb_2737F]; exact rfl) ?_
    refine AL_nil ?_
    refine thenA_n ?_
    by_cases hb_2742 : (rule_2734 == 3) = true
    · rw [if_pos hb_2742] at h
      refine awp_ct (by simp only [go_sem, seval, hb_2737F, hb_2742]) ?_
      refine awp_seq ?_
      refine awp_region ?_
      refine AL_upto (by exact rfl) (by simp only [go_sem, seval, hb_2737F, hb_2742]; exact rfl) ?_
      by_cases hb_2743 : (v_2735.Kind == 2) = true
      · rw [if_pos hb_2743] at h
        refine AL_known (d := 28) (v := .p (.bool true)) (by simp only [go_sem, seval, hb_2737F, hb_2742, hb_2743]) ?_
        refine AL_gt' (guard_true' rfl rfl (by exact rfl) (by exact rfl)) rfl (by simp only [go_sem, seval, hb_2737F, hb_2742, hb_2743]; exact rfl) ?_
        refine AL_gt' (guard_true' rfl rfl (by exact rfl) (by exact rfl)) rfl (by simp only [go_sem, seval, hb_2737F, hb_2742, hb_2743]; exact rfl) ?_
        refine AL_gt' (guard_true' rfl rfl (by exact rfl) (by exact rfl)) rfl (by simp only [go_sem, seval, hb_2737F, hb_2742, hb_2743]; exact rfl) ?_
        refine AL_gt' (guard_true' rfl rfl (by exact rfl) (by exact rfl)) rfl (by simp only [go_sem, seval, hb_2737F, hb_2742, hb_2743]; exact rfl) ?_
        by_cases hb_2744 : (old_2736.Kind != 2) = true
        · rw [if_pos hb_2744] at h
          refine AL_known (d := 32) (v := .p (.bool true)) (by simp only [go_sem, seval, hb_2737F, hb_2742, hb_2743, hb_2744]) ?_
          refine AL_skips (by exact rfl) ?_
          refine AL_gt' (guard_true' rfl rfl (by exact rfl) (by exact rfl)) rfl (by simp only [go_sem, seval, hb_2737F, hb_2742, hb_2743, hb_2744]; exact rfl) ?_
          refine AL_upto (by exact rfl) (by simp only [go_sem, seval, hb_2737F, hb_2742, hb_2743, hb_2744]; exact rfl) ?_
          refine AL_nil ?_
          refine thenA_n ?_
          refine awp_ret ?_
          refine thenA_ret ?_
          cases h
          refine retQ_ret (by simp only [Tryz.results125]; simp only [go_sem, seval, hb_2737F, hb_2742, hb_2743, hb_2744]; exact rfl) ?_
          simp only [go_sem, seval, hb_2737F, hb_2742, hb_2743, hb_2744]
          all_goals ((repeat' refine And.intro ?_ ?_) <;> first | rfl | (simp; done) | (simp; rfl) | (simp [*]; done) | (simp [*]; rfl))
        · rw [if_neg hb_2744] at h
          have hb_2744F := Bool.eq_false_iff.2 hb_2744
          refine AL_known (d := 32) (v := .p (.bool false)) (by simp only [go_sem, seval, hb_2737F, hb_2742, hb_2743, hb_2744F]) ?_
          refine AL_gt' (guard_true' rfl rfl (by exact rfl) (by exact rfl)) rfl (by simp only [go_sem, seval, hb_2737F, hb_2742, hb_2743, hb_2744F]; exact rfl) ?_
          refine AL_gt' (guard_true' rfl rfl (by exact rfl) (by exact rfl)) rfl (by simp only [go_sem, seval, hb_2737F, hb_2742, hb_2743, hb_2744F]; exact rfl) ?_
          refine AL_gt' (guard_true' rfl rfl (by exact rfl) (by exact rfl)) rfl (by simp only [go_sem, seval, hb_2737F, hb_2742, hb_2743, hb_2744F]; exact rfl) ?_
          refine AL_gt' (guard_true' rfl rfl (by exact rfl) (by exact rfl)) rfl (by simp only [go_sem, seval, hb_2737F, hb_2742, hb_2743, hb_2744F]; exact rfl) ?_
          refine AL_gt' (guard_true' rfl rfl (by exact rfl) (by exact rfl)) rfl (by simp only [go_sem, seval, hb_2737F, hb_2742, hb_2743, hb_2744F]; exact rfl) ?_
          refine AL_gt' (guard_true' rfl rfl (by exact rfl) (by exact rfl)) rfl (by simp only [go_sem, seval, hb_2737F, hb_2742, hb_2743, hb_2744F]; exact rfl) ?_
          refine AL_gt' (guard_true' rfl rfl (by exact rfl) (by exact rfl)) rfl (by simp only [go_sem, seval, hb_2737F, hb_2742, hb_2743, hb_2744F]; exact rfl) ?_
          refine AL_gt' (guard_true' rfl rfl (by exact rfl) (by exact rfl)) rfl (by simp only [go_sem, seval, hb_2737F, hb_2742, hb_2743, hb_2744F]; exact rfl) ?_
          refine AL_upto (by exact rfl) (by simp only [go_sem, seval, hb_2737F, hb_2742, hb_2743, hb_2744F]; exact rfl) ?_
          refine AL_nil ?_
          refine thenA_n ?_
          refine awp_ret ?_
          refine thenA_ret ?_
          cases h
          refine retQ_ret (by simp only [Tryz.results125]; simp only [go_sem, seval, hb_2737F, hb_2742, hb_2743, hb_2744F]; exact rfl) ?_
          simp only [go_sem, seval, hb_2737F, hb_2742, hb_2743, hb_2744F]
          all_goals ((repeat' refine And.intro ?_ ?_) <;> first | rfl | (simp; done) | (simp; rfl) | (simp [*]; done) | (simp [*]; rfl))
      · rw [if_neg hb_2743] at h
        have hb_2743F := Bool.eq_false_iff.2 hb_2743
        refine AL_known (d := 28) (v := .p (.bool false)) (by simp only [go_sem, seval, hb_2737F, hb_2742, hb_2743F]) ?_
        refine AL_skips (by exact rfl) ?_
        refine AL_upto (by exact rfl) (by simp only [go_sem, seval, hb_2737F, hb_2742, hb_2743F]; exact rfl) ?_
        refine AL_nil ?_
        refine thenA_n ?_
        refine awp_ret ?_
        refine thenA_ret ?_
        cases h
        refine retQ_ret (by simp only [Tryz.results125]; simp only [go_sem, seval, hb_2737F, hb_2742, hb_2743F]; exact rfl) ?_
        simp only [go_sem, seval, hb_2737F, hb_2742, hb_2743F]
        all_goals ((repeat' refine And.intro ?_ ?_) <;> first | rfl | (simp; done) | (simp; rfl) | (simp [*]; done) | (simp [*]; rfl))
    · rw [if_neg hb_2742] at h
      have hb_2742F := Bool.eq_false_iff.2 hb_2742
      refine awp_cf (by simp only [go_sem, seval, hb_2737F, hb_2742F]) ?_
      refine awp_skip ?_
      refine thenA_n ?_
      refine awp_seq ?_
      refine awp_region ?_
      refine AL_upto (by exact rfl) (by simp only [go_sem, seval, hb_2737F, hb_2742F]; exact rfl) ?_
      obtain ⟨r_2747, hr_2748, h⟩ := Option.bind_eq_some_iff.1 h
      refine AL_con' rfl (guard_none rfl) rfl (by simp only [go_sem, seval, hb_2737F, hb_2742F]; exact rfl) (by simp only [go_sem, seval, hb_2737F, hb_2742F]; all_goals ((repeat' refine And.intro ?_ ?_) <;> first | rfl | (simp; done) | (simp; rfl) | (simp [*]; done) | (simp [*]; rfl))) (drossref01_Compare_con v_2735 old_2736 _ hr_2748) (.inr rfl) rfl ?_
      refine AL_upto (by exact rfl) (by simp only [go_sem, seval, hb_2737F, hb_2742F]; exact rfl) ?_
      refine AL_nil ?_
      refine thenA_n ?_
      refine awp_seq ?_
      refine awp_region ?_
      refine AL_upto (by exact rfl) (by simp only [go_sem, seval, hb_2737F, hb_2742F]; exact rfl) ?_
      by_cases hb_2749 : (rule_2734 == 4) = true
      · rw [if_pos hb_2749] at h
        refine AL_known (d := 47) (v := .p (.bool true)) (by simp only [go_sem, seval, hb_2737F, hb_2742F, hb_2749]) ?_
        refine AL_gt' (guard_true' rfl rfl (by exact rfl) (by exact rfl)) rfl (by simp only [go_sem, seval, hb_2737F, hb_2742F, hb_2749]; exact rfl) ?_
        refine AL_gt' (guard_true' rfl rfl (by exact rfl) (by exact rfl)) rfl (by simp only [go_sem, seval, hb_2737F, hb_2742F, hb_2749]; exact rfl) ?_
        refine AL_upto (by exact rfl) (by simp only [go_sem, seval, hb_2737F, hb_2742F, hb_2749]; exact rfl) ?_
        by_cases hb_2750 : r_2747 < 0
        · rw [if_pos hb_2750] at h
          have hb_2750T := eq_true hb_2750
          refine AL_known (d := 51) (v := .p (.bool true)) (by simp only [go_sem, seval, hb_2737F, hb_2742F, hb_2749, hb_2750T]) ?_
          refine AL_skips (by exact rfl) ?_
          refine AL_upto (by exact rfl) (by simp only [go_sem, seval, hb_2737F, hb_2742F, hb_2749, hb_2750T]; exact rfl) ?_
          refine AL_nil ?_
          refine thenA_n ?_
          refine awp_ret ?_
          cases h
          refine retQ_ret (by simp only [Tryz.results125]; simp only [go_sem, seval, hb_2737F, hb_2742F, hb_2749, hb_2750T]; exact rfl) ?_
          simp only [go_sem, seval, hb_2737F, hb_2742F, hb_2749, hb_2750T]
          all_goals ((repeat' refine And.intro ?_ ?_) <;> first | rfl | (simp; done) | (simp; rfl) | (simp [*]; done) | (simp [*]; rfl))
        · rw [if_neg hb_2750] at h
          have hb_2750T := eq_false hb_2750
          refine AL_known (d := 51) (v := .p (.bool false)) (by simp only [go_sem, seval, hb_2737F, hb_2742F, hb_2749, hb_2750T]) ?_
          refine AL_gt' (guard_true' rfl rfl (by exact rfl) (by exact rfl)) rfl (by simp only [go_sem, seval, hb_2737F, hb_2742F, hb_2749, hb_2750T]; exact rfl) ?_
          refine AL_gt' (guard_true' rfl rfl (by exact rfl) (by exact rfl)) rfl (by simp only [go_sem, seval, hb_2737F, hb_2742F, hb_2749, hb_2750T]; exact rfl) ?_
          refine AL_gt' (guard_true' rfl rfl (by exact rfl) (by exact rfl)) rfl (by simp only [go_sem, seval, hb_2737F, hb_2742F, hb_2749, hb_2750T]; exact rfl) ?_
          by_cases hb_2751 : (rule_2734 == 5) = true
          · rw [if_pos hb_2751] at h
            refine AL_known (d := 54) (v := .p (.bool true)) (by simp only [go_sem, seval, hb_2737F, hb_2742F, hb_2749, hb_2750T, hb_2751]) ?_
            refine AL_gt' (guard_true' rfl rfl (by exact rfl) (by exact rfl)) rfl (by simp only [go_sem, seval, hb_2737F, hb_2742F, hb_2749, hb_2750T, hb_2751]; exact rfl) ?_
            refine AL_gt' (guard_true' rfl rfl (by exact rfl) (by exact rfl)) rfl (by simp only [go_sem, seval, hb_2737F, hb_2742F, hb_2749, hb_2750T, hb_2751]; exact rfl) ?_
            refine AL_gt' (guard_true' rfl rfl (by exact rfl) (by exact rfl)) rfl (by simp only [go_sem, seval, hb_2737F, hb_2742F, hb_2749, hb_2750T, hb_2751]; exact rfl) ?_
            refine AL_upto (by exact rfl) (by simp only [go_sem, seval, hb_2737F, hb_2742F, hb_2749, hb_2750T, hb_2751]; exact rfl) ?_
            refine AL_nil ?_
            refine thenA_n ?_
            refine awp_ret ?_
            cases h
            refine retQ_ret (by simp only [Tryz.results125]; simp only [go_sem, seval, hb_2737F, hb_2742F, hb_2749, hb_2750T, hb_2751]; exact rfl) ?_
            simp only [go_sem, seval, hb_2737F, hb_2742F, hb_2749, hb_2750T, hb_2751]
            all_goals ((repeat' refine And.intro ?_ ?_) <;> first | rfl | (simp; done) | (simp; rfl) | (simp [*]; done) | (simp [*]; rfl))
          · rw [if_neg hb_2751] at h
            have hb_2751F := Bool.eq_false_iff.2 hb_2751
            refine AL_known (d := 54) (v := .p (.bool false)) (by simp only [go_sem, seval, hb_2737F, hb_2742F, hb_2749, hb_2750T, hb_2751F]) ?_
            refine AL_skips (by exact rfl) ?_
            refine AL_gt' (guard_true' rfl rfl (by exact rfl) (by exact rfl)) rfl (by simp only [go_sem, seval, hb_2737F, hb_2742F, hb_2749, hb_2750T, hb_2751F]; exact rfl) ?_
            refine AL_upto (by exact rfl) (by simp only [go_sem, seval, hb_2737F, hb_2742F, hb_2749, hb_2750T, hb_2751F]; exact rfl) ?_
            refine AL_nil ?_
            refine thenA_n ?_
            refine awp_ret ?_
            cases h
            refine retQ_ret (by simp only [Tryz.results125]; simp only [go_sem, seval, hb_2737F, hb_2742F, hb_2749, hb_2750T, hb_2751F]; exact rfl) ?_
            simp only [go_sem, seval, hb_2737F, hb_2742F, hb_2749, hb_2750T, hb_2751F]
            all_goals ((repeat' refine And.intro ?_ ?_) <;> first | rfl | (simp; done) | (simp; rfl) | (simp [*]; done) | (simp [*]; rfl))
      · rw [if_neg hb_2749] at h
        have hb_2749F := Bool.eq_false_iff.2 hb_2749
        refine AL_known (d := 47) (v := .p (.bool false)) (by simp only [go_sem, seval, hb_2737F, hb_2742F, hb_2749F]) ?_
        refine AL_skips (by exact rfl) ?_
        refine AL_upto (by exact rfl) (by simp only [go_sem, seval, hb_2737F, hb_2742F, hb_2749F]; exact rfl) ?_
        refine AL_gt' (guard_true' rfl rfl (by exact rfl) (by exact rfl)) rfl (by simp only [go_sem, seval, hb_2737F, hb_2742F, hb_2749F]; exact rfl) ?_
        refine AL_gt' (guard_true' rfl rfl (by exact rfl) (by exact rfl)) rfl (by simp only [go_sem, seval, hb_2737F, hb_2742F, hb_2749F]; exact rfl) ?_
        refine AL_gt' (guard_true' rfl rfl (by exact rfl) (by exact rfl)) rfl (by simp only [go_sem, seval, hb_2737F, hb_2742F, hb_2749F]; exact rfl) ?_
        by_cases hb_2752 : (rule_2734 == 5) = true
        · rw [if_pos hb_2752] at h
          refine AL_known (d := 54) (v := .p (.bool true)) (by simp only [go_sem, seval, hb_2737F, hb_2742F, hb_2749F, hb_2752]) ?_
          refine AL_gt' (guard_true' rfl rfl (by exact rfl) (by exact rfl)) rfl (by simp only [go_sem, seval, hb_2737F, hb_2742F, hb_2749F, hb_2752]; exact rfl) ?_
          refine AL_gt' (guard_true' rfl rfl (by exact rfl) (by exact rfl)) rfl (by simp only [go_sem, seval, hb_2737F, hb_2742F, hb_2749F, hb_2752]; exact rfl) ?_
          refine AL_gt' (guard_true' rfl rfl (by exact rfl) (by exact rfl)) rfl (by simp only [go_sem, seval, hb_2737F, hb_2742F, hb_2749F, hb_2752]; exact rfl) ?_
          refine AL_upto (by exact rfl) (by simp only [go_sem, seval, hb_2737F, hb_2742F, hb_2749F, hb_2752]; exact rfl) ?_
          refine AL_nil ?_
          refine thenA_n ?_
          refine awp_ret ?_
          cases h
          refine retQ_ret (by simp only [Tryz.results125]; simp only [go_sem, seval, hb_2737F, hb_2742F, hb_2749F, hb_2752]; exact rfl) ?_
          simp only [go_sem, seval, hb_2737F, hb_2742F, hb_2749F, hb_2752]
          all_goals ((repeat' refine And.intro ?_ ?_) <;> first | rfl | (simp; done) | (simp; rfl) | (simp [*]; done) | (simp [*]; rfl))
        · rw [if_neg hb_2752] at h
          have hb_2752F := Bool.eq_false_iff.2 hb_2752
          refine AL_known (d := 54) (v := .p (.bool false)) (by simp only [go_sem, seval, hb_2737F, hb_2742F, hb_2749F, hb_2752F]) ?_
          refine AL_skips (by exact rfl) ?_
          refine AL_gt' (guard_true' rfl rfl (by exact rfl) (by exact rfl)) rfl (by simp only [go_sem, seval, hb_2737F, hb_2742F, hb_2749F, hb_2752F]; exact rfl) ?_
          refine AL_upto (by exact rfl) (by simp only [go_sem, seval, hb_2737F, hb_2742F, hb_2749F, hb_2752F]; exact rfl) ?_
          refine AL_nil ?_
          refine thenA_n ?_
          refine awp_ret ?_
          cases h
          refine retQ_ret (by simp only [Tryz.results125]; simp only [go_sem, seval, hb_2737F, hb_2742F, hb_2749F, hb_2752F]; exact rfl) ?_
          simp only [go_sem, seval, hb_2737F, hb_2742F, hb_2749F, hb_2752F]
          all_goals ((repeat' refine And.intro ?_ ?_) <;> first | rfl | (simp; done) | (simp; rfl) | (simp [*]; done) | (simp [*]; rfl))
end Go.Proofs.YtdmddoljldjjeaaGreat
set_option linter.unusedVariables false
set_option linter.unusedSimpArgs false
namespace Go.Proofs.YtdmddoljldjjeaaGreat
open Go Go.Ab
set_option maxHeartbeats 4000000 in
theorem drossref55_Pick_con (rows_2754 : List Row) (attr_2755 : Int) (rule_2756 : Int) (r_2826 : Drossref55_Result) (h : drossref55_Pick rows_2754 attr_2755 rule_2756 = some r_2826) : Con Tryz.prog 84 [(.slc (List.map encRow rows_2754)), (.int .i64 attr_2755), (.int .i64 rule_2756)] (encDrossref55_Result r_2826) := by
  refine ⟨Tryz.call84, ?_⟩
  refine pure_of_awp Tryz.func84 rfl Tryz.ntmps84 (by simp) fun X w => ?_
  show AWp _ _ _ ⟨[(0, .p (.slc (List.map encRow rows_2754))), (1, .p (.int .i64 attr_2755)), (2, .p (.int .i64 rule_2756))], []⟩
  simp only [drossref55_Pick] at h
  refine awp_seq ?_
  refine awp_region ?_
  refine AL_upto (by exact rfl) (by simp only [go_sem, seval]; exact rfl) ?_
  refine AL_nil ?_
  refine thenA_n ?_
  refine awp_seq ?_
  refine awp_region ?_
  refine AL_upto (by exact rfl) (by simp only [go_sem, seval]; exact rfl) ?_
  refine AL_nil ?_
  refine thenA_n ?_
  refine awp_seq ?_
  refine awp_seq ?_
  refine awp_region ?_
  refine AL_upto (by exact rfl) (by simp only [go_sem, seval]; exact rfl) ?_
  refine AL_nil ?_
  refine thenA_n ?_
  refine awp_block ?_
  obtain ⟨o_2820, hL_2821, h⟩ := Option.bind_eq_some_iff.1 h
  refine awp_loop_L (fun (s : Drossref55_Result × Int) => ⟨[(0, .p (.slc (List.map encRow rows_2754))), (1, .p (.int .i64 attr_2755)), (2, .p (.int .i64 rule_2756)), (6, .loc 6 1 0 0), (7, .loc 7 1 0 0), (8, .p (.int .i64 s.2))], [(6, .arr 122 4 1 [.p (.agg [.int .i64 0, .int .i64 0, .str [], .int .i64 0])]), (7, .arr 122 4 1 [.p (encDrossref55_Result s.1)])]⟩) (fun (o_2825 : Drossref55_Result) (e : Exit) (s' : St) => e = (.exit 0) ∧ Le ⟨Tryz.prog, Tryz.f84.ntmps, 0, X, [], fun _ => none, w⟩ s' ⟨[(0, .p (.slc (List.map encRow rows_2754))), (6, .loc 6 1 0 0), (7, .loc 7 1 0 0)], [(6, .arr 122 4 1 [.p (.agg [.int .i64 0, .int .i64 0, .str [], .int .i64 0])]), (7, .arr 122 4 1 [.p (encDrossref55_Result o_2825)])]⟩) (by intro o s hT; have hh := hT.1; cases hh) hL_2821 (by simp only [go_sem, seval]; all_goals ((repeat' refine And.intro ?_ ?_) <;> first | rfl | (simp; done) | (simp; rfl) | (simp [*]; done) | (simp [*]; rfl))) ?_ ?_
  · clear h
    intro s x h
    obtain ⟨out_2773, i_2774⟩ := s
    simp only [drossref55_Pick_l1] at h
    show AWp _ _ _ ⟨[(0, .p (.slc (List.map encRow rows_2754))), (1, .p (.int .i64 attr_2755)), (2, .p (.int .i64 rule_2756)), (6, .loc 6 1 0 0), (7, .loc 7 1 0 0), (8, .p (.int .i64 i_2774))], [(6, .arr 122 4 1 [.p (.agg [.int .i64 0, .int .i64 0, .str [], .int .i64 0])]), (7, .arr 122 4 1 [.p (encDrossref55_Result out_2773)])]⟩
    refine awp_seq ?_
    refine awp_seq ?_
    refine awp_region ?_
    refine AL_upto (by exact rfl) (by simp only [go_sem, seval]; exact rfl) ?_
    refine AL_nil ?_
    refine thenA_n ?_
    by_cases hb_2798 : i_2774 < (rows_2754.length : Int)
    · rw [if_pos hb_2798] at h
      have hb_2798T := eq_true hb_2798
      refine awp_ct (by simp only [go_sem, seval, hb_2798T]) ?_
      refine awp_skip ?_
      refine thenA_n ?_
      refine awp_seq ?_
      refine awp_block ?_
      refine awp_seq ?_
      refine awp_region ?_
      obtain ⟨x_2803, hx_2804, h⟩ := Option.bind_eq_some_iff.1 h
      obtain ⟨hx_2804a, hx_2804, hx_2804b⟩ := idx_some hx_2804
      have hx_2804A := eq_true hx_2804a
      have hx_2804B := eq_true hx_2804b
      obtain ⟨x_2805, hx_2806, h⟩ := Option.bind_eq_some_iff.1 h
      obtain ⟨hx_2806a, hx_2806, hx_2806b⟩ := idx_some hx_2806
      have hx_2806A := eq_true hx_2806a
      have hx_2806B := eq_true hx_2806b
      refine AL_upto (by exact rfl) (by simp only [go_sem, seval, hb_2798T, hx_2804, hx_2804A, hx_2804B, hx_2806, hx_2806A, hx_2806B]; exact rfl) ?_
      refine AL_nil ?_
      refine thenA_n ?_
      obtain ⟨o_2812, hA_2813, h⟩ := Option.bind_eq_some_iff.1 h
      refine awp_join (T := (fun (o_2819 : Bool) (e : Exit) (s' : St) => e = .normal ∧ Le ⟨Tryz.prog, Tryz.f84.ntmps, 0, X, [], fun _ => none, w⟩ s' ⟨[(0, .p (.slc (List.map encRow rows_2754))), (1, .p (.int .i64 attr_2755)), (2, .p (.int .i64 rule_2756)), (6, .loc 6 1 0 0), (7, .loc 7 1 0 0), (8, .p (.int .i64 i_2774)), (9, .loc 9 1 0 0), (40, .p (.bool o_2819))], [(6, .arr 122 4 1 [.p (.agg [.int .i64 0, .int .i64 0, .str [], .int .i64 0])]), (7, .arr 122 4 1 [.p (encDrossref55_Result out_2773)]), (9, .arr 64 3 1 [.p (encValue x_2805)])]⟩) o_2812) ?_ ?_
      · replace h := hA_2813
        clear hA_2813
        refine awp_region ?_
        refine AL_upto (by exact rfl) (by simp only [go_sem, seval, hb_2798T]; exact rfl) ?_
        by_cases hb_2814 : (x_2805.Kind != 0) = true
        · rw [if_pos hb_2814] at h
          refine AL_known (d := 27) (v := .p (.bool true)) (by simp only [go_sem, seval, hb_2798T, hb_2814]) ?_
          refine AL_gt' (guard_true' rfl rfl (by exact rfl) (by exact rfl)) rfl (by simp only [go_sem, seval, hb_2798T, hb_2814]; exact rfl) ?_
          refine AL_gt' (guard_true' rfl rfl (by exact rfl) (by exact rfl)) rfl (by simp only [go_sem, seval, hb_2798T, hb_2814]; exact rfl) ?_
          refine AL_gt' (guard_true' rfl rfl (by exact rfl) (by exact rfl)) rfl (by simp only [go_sem, seval, hb_2798T, hb_2814]; exact rfl) ?_
          refine AL_gt' (guard_true' rfl rfl (by exact rfl) (by exact rfl)) rfl (by simp only [go_sem, seval, hb_2798T, hb_2814]; exact rfl) ?_
          by_cases hb_2815 : (out_2773.Origin == 0) = true
          · rw [if_pos hb_2815] at h
            refine AL_known (d := 31) (v := .p (.bool true)) (by simp only [go_sem, seval, hb_2798T, hb_2814, hb_2815]) ?_
            refine AL_skips (by exact rfl) ?_
            refine AL_gt' (guard_true' rfl rfl (by exact rfl) (by exact rfl)) rfl (by simp only [go_sem, seval, hb_2798T, hb_2814, hb_2815]; exact rfl) ?_
            refine AL_upto (by exact rfl) (by simp only [go_sem, seval, hb_2798T, hb_2814, hb_2815]; exact rfl) ?_
            refine AL_nil ?_
            cases h
            refine ⟨rfl, ?_⟩
            simp only [go_sem, seval, hb_2798T, hb_2814, hb_2815]
            all_goals ((repeat' refine And.intro ?_ ?_) <;> first | rfl | (simp; done) | (simp; rfl) | (simp [*]; done) | (simp [*]; rfl))
          · rw [if_neg hb_2815] at h
            have hb_2815F := Bool.eq_false_iff.2 hb_2815
            refine AL_known (d := 31) (v := .p (.bool false)) (by simp only [go_sem, seval, hb_2798T, hb_2814, hb_2815F]) ?_
            refine AL_gt' (guard_true' rfl rfl (by exact rfl) (by exact rfl)) rfl (by simp only [go_sem, seval, hb_2798T, hb_2814, hb_2815F]; exact rfl) ?_
            refine AL_gt' (guard_true' rfl rfl (by exact rfl) (by exact rfl)) rfl (by simp only [go_sem, seval, hb_2798T, hb_2814, hb_2815F]; exact rfl) ?_
            refine AL_gt' (guard_true' rfl rfl (by exact rfl) (by exact rfl)) rfl (by simp only [go_sem, seval, hb_2798T, hb_2814, hb_2815F]; exact rfl) ?_
            refine AL_gt' (guard_true' rfl rfl (by exact rfl) (by exact rfl)) rfl (by simp only [go_sem, seval, hb_2798T, hb_2814, hb_2815F]; exact rfl) ?_
            refine AL_gt' (guard_true' rfl rfl (by exact rfl) (by exact rfl)) rfl (by simp only [go_sem, seval, hb_2798T, hb_2814, hb_2815F]; exact rfl) ?_
            refine AL_gt' (guard_true' rfl rfl (by exact rfl) (by exact rfl)) rfl (by simp only [go_sem, seval, hb_2798T, hb_2814, hb_2815F]; exact rfl) ?_
            obtain ⟨r_2816, hr_2817, h⟩ := Option.bind_eq_some_iff.1 h
            refine AL_con' rfl (guard_true' rfl rfl (by exact rfl) (by exact rfl)) rfl (by simp only [go_sem, seval, hb_2798T, hb_2814, hb_2815F]; exact rfl) (by simp only [go_sem, seval, hb_2798T, hb_2814, hb_2815F]; all_goals ((repeat' refine And.intro ?_ ?_) <;> first | rfl | (simp; done) | (simp; rfl) | (simp [*]; done) | (simp [*]; rfl))) (drossref55_better_con rows_2754 attr_2755 rule_2756 x_2805 out_2773.Value _ hr_2817) (.inr rfl) rfl ?_
            refine AL_gt' (guard_true' rfl rfl (by exact rfl) (by exact rfl)) rfl (by simp only [go_sem, seval, hb_2798T, hb_2814, hb_2815F]; exact rfl) ?_
            refine AL_upto (by exact rfl) (by simp only [go_sem, seval, hb_2798T, hb_2814, hb_2815F]; exact rfl) ?_
            refine AL_nil ?_
            cases h
            refine ⟨rfl, ?_⟩
            simp only [go_sem, seval, hb_2798T, hb_2814, hb_2815F]
            all_goals ((repeat' refine And.intro ?_ ?_) <;> first | rfl | (simp; done) | (simp; rfl) | (simp [*]; done) | (simp [*]; rfl))
        · rw [if_neg hb_2814] at h
          have hb_2814F := Bool.eq_false_iff.2 hb_2814
          refine AL_known (d := 27) (v := .p (.bool false)) (by simp only [go_sem, seval, hb_2798T, hb_2814F]) ?_
          refine AL_skips (by exact rfl) ?_
          refine AL_upto (by exact rfl) (by simp only [go_sem, seval, hb_2798T, hb_2814F]; exact rfl) ?_
          refine AL_nil ?_
          cases h
          refine ⟨rfl, ?_⟩
          simp only [go_sem, seval, hb_2798T, hb_2814F]
          all_goals ((repeat' refine And.intro ?_ ?_) <;> first | rfl | (simp; done) | (simp; rfl) | (simp [*]; done) | (simp [*]; rfl))
      · intro e s' hT
        obtain ⟨t40_2811, rfl⟩ : ∃ z, z = o_2812 := ⟨_, rfl⟩
        try simp only at h
        try simp only at hT
        obtain ⟨rfl, hle⟩ := hT
        refine Wk.to hle ?_
        clear hle
        refine thenA_n ?_
        by_cases hb_2818 : t40_2811 = true
        · rw [if_pos hb_2818] at h
          refine awp_ct (by simp only [go_sem, seval, hb_2798T, hb_2818]) ?_
          refine awp_drawn_walk mixed (by decide) ?_
          refine DGo.upto (by exact rfl) (by simp only [go_sem, seval, hb_2798T, hb_2818, hx_2804, hx_2804A, hx_2804B]; first | exact ⟨rfl, rfl⟩ | exact rfl) ?_
          refine DGo.fin rfl ?_
          refine blockA_n ?_
          refine thenA_n ?_
          refine awp_region ?_
          refine AL_upto (by exact rfl) (by simp only [go_sem, seval, hb_2798T, hb_2818]; exact rfl) ?_
          refine AL_nil ?_
          cases h
          refine ⟨rfl, ?_⟩
          simp only [go_sem, seval, hb_2798T, hb_2818]
          all_goals ((repeat' refine And.intro ?_ ?_) <;> first | rfl | (simp; done) | (simp; rfl) | (simp [*]; done) | (simp [*]; rfl))
        · rw [if_neg hb_2818] at h
          have hb_2818F := Bool.eq_false_iff.2 hb_2818
          refine awp_cf (by simp only [go_sem, seval, hb_2798T, hb_2818F]) ?_
          refine awp_skip ?_
          refine blockA_n ?_
          refine thenA_n ?_
          refine awp_region ?_
          refine AL_upto (by exact rfl) (by simp only [go_sem, seval, hb_2798T, hb_2818F]; exact rfl) ?_
          refine AL_nil ?_
          cases h
          refine ⟨rfl, ?_⟩
          simp only [go_sem, seval, hb_2798T, hb_2818F]
          all_goals ((repeat' refine And.intro ?_ ?_) <;> first | rfl | (simp; done) | (simp; rfl) | (simp [*]; done) | (simp [*]; rfl))
    · rw [if_neg hb_2798] at h
      have hb_2798T := eq_false hb_2798
      refine awp_cf (by simp only [go_sem, seval, hb_2798T]) ?_
      refine awp_exit ?_
      refine thenA_exit ?_
      cases h
      refine ⟨rfl, ?_⟩
      simp only [go_sem, seval, hb_2798T]
      all_goals ((repeat' refine And.intro ?_ ?_) <;> first | rfl | (simp; done) | (simp; rfl) | (simp [*]; done) | (simp [*]; rfl))
  · intro e s' hT
    obtain ⟨out_2797, rfl⟩ : ∃ z, z = o_2820 := ⟨_, rfl⟩
    try simp only at h
    try simp only at hT
    obtain ⟨rfl, hle⟩ := hT
    refine Wk.to hle ?_
    clear hle
    refine blockA_here ?_
    refine thenA_n ?_
    refine awp_seq ?_
    refine awp_seq ?_
    refine awp_region ?_
    refine AL_upto (by exact rfl) (by simp only [go_sem, seval]; exact rfl) ?_
    refine AL_nil ?_
    refine thenA_n ?_
    by_cases hb_2822 : (out_2797.Origin == 0) = true
    · rw [if_pos hb_2822] at h
      refine awp_ct (by simp only [go_sem, seval, hb_2822]) ?_
      refine awp_region ?_
      obtain ⟨x_2823, hx_2824, h⟩ := Option.bind_eq_some_iff.1 h
      have hx_2824l := eq_true (lt_of_get hx_2824)
      have hx_2824L : ((0 : Int) < (rows_2754.length : Int)) = True := eq_true (by have := lt_of_get hx_2824; omega)
      refine AL_upto (by exact rfl) (by simp only [go_sem, seval, hb_2822, hx_2824, hx_2824l, hx_2824L]; exact rfl) ?_
      refine AL_nil ?_
      refine thenA_n ?_
      refine awp_seq ?_
      refine awp_region ?_
      refine AL_upto (by exact rfl) (by simp only [go_sem, seval, hb_2822]; exact rfl) ?_
      refine AL_nil ?_
      refine thenA_n ?_
      refine awp_ret ?_
      cases h
      refine retQ_ret (by simp only [Tryz.results84]; simp only [go_sem, seval, hb_2822]; exact rfl) ?_
      simp only [go_sem, seval, hb_2822]
      all_goals ((repeat' refine And.intro ?_ ?_) <;> first | rfl | (simp; done) | (simp; rfl) | (simp [*]; done) | (simp [*]; rfl))
    · rw [if_neg hb_2822] at h
      have hb_2822F := Bool.eq_false_iff.2 hb_2822
      refine awp_cf (by simp only [go_sem, seval, hb_2822F]) ?_
      refine awp_skip ?_
      refine thenA_n ?_
      refine awp_seq ?_
      refine awp_region ?_
      refine AL_upto (by exact rfl) (by simp only [go_sem, seval, hb_2822F]; exact rfl) ?_
      refine AL_nil ?_
      refine thenA_n ?_
      refine awp_ret ?_
      cases h
      refine retQ_ret (by simp only [Tryz.results84]; simp only [go_sem, seval, hb_2822F]; exact rfl) ?_
      simp only [go_sem, seval, hb_2822F]
      all_goals ((repeat' refine And.intro ?_ ?_) <;> first | rfl | (simp; done) | (simp; rfl) | (simp [*]; done) | (simp [*]; rfl))
end Go.Proofs.YtdmddoljldjjeaaGreat
set_option linter.unusedVariables false
set_option linter.unusedSimpArgs false
namespace Go.Proofs.YtdmddoljldjjeaaGreat
open Go Go.Ab
set_option maxHeartbeats 4000000 in
theorem drossref55_merge_con (rows_2827 : List Row) (rules_2828 : List Int) (r_2877 : Drossref55_Row) (h : drossref55_merge rows_2827 rules_2828 = some r_2877) : Con Tryz.prog 45 [(.slc (List.map encRow rows_2827)), (.slc (List.map (PV.int .i64) rules_2828))] (encDrossref55_Row r_2877) := by
  refine ⟨Tryz.call45, ?_⟩
  refine pure_of_awp Tryz.func45 rfl Tryz.ntmps45 (by simp) fun X w => ?_
  show AWp _ _ _ ⟨[(0, .p (.slc (List.map encRow rows_2827))), (1, .p (.slc (List.map (PV.int .i64) rules_2828)))], []⟩
  simp only [drossref55_merge] at h
  refine awp_seq ?_
  refine awp_region ?_
  refine AL_upto (by exact rfl) (by simp only [go_sem, seval]; exact rfl) ?_
  refine AL_nil ?_
  refine thenA_n ?_
  refine awp_seq ?_
  refine awp_region ?_
  obtain ⟨x_2831, hx_2832, h⟩ := Option.bind_eq_some_iff.1 h
  have hx_2832l := eq_true (lt_of_get hx_2832)
  have hx_2832L : ((0 : Int) < (rows_2827.length : Int)) = True := eq_true (by have := lt_of_get hx_2832; omega)
  refine AL_upto (by exact rfl) (by simp only [go_sem, seval, hx_2832, hx_2832l, hx_2832L]; exact rfl) ?_
  refine AL_nil ?_
  refine thenA_n ?_
  refine awp_seq ?_
  refine awp_seq ?_
  refine awp_region ?_
  refine AL_upto (by exact rfl) (by simp only [go_sem, seval]; exact rfl) ?_
  refine AL_nil ?_
  refine thenA_n ?_
  refine awp_block ?_
  obtain ⟨o_2874, hL_2875, h⟩ := Option.bind_eq_some_iff.1 h
  refine awp_loop_L (fun (s : List Value × List Int × Int) => ⟨[(0, .p (.slc (List.map encRow rows_2827))), (1, .p (.slc (List.map (PV.int .i64) rules_2828))), (4, .loc 4 1 0 0), (5, .loc 5 1 0 0), (6, .p (.int .i64 s.2.2))], [(4, .arr 84 3 1 [.agg [.p (.int .i64 0), .nils, .nils]]), (5, .arr 84 3 1 [.agg [.p (.int .i64 x_2831.ID), .own 33 1 0 s.1.length, .own 41 1 0 s.2.1.length]]), (33, .arr 64 3 1 (List.map AV.p (List.map encValue s.1))), (41, .arr 2 1 1 (List.map AV.p (List.map (PV.int .i64) s.2.1)))]⟩) (fun (o_2876 : List Value × List Int) (e : Exit) (s' : St) => e = (.exit 0) ∧ Le ⟨Tryz.prog, Tryz.f45.ntmps, 0, X, [], fun _ => none, w⟩ s' ⟨[(4, .loc 4 1 0 0), (5, .loc 5 1 0 0)], [(4, .arr 84 3 1 [.agg [.p (.int .i64 0), .nils, .nils]]), (5, .arr 84 3 1 [.agg [.p (.int .i64 x_2831.ID), .own 33 1 0 o_2876.1.length, .own 41 1 0 o_2876.2.length]]), (33, .arr 64 3 1 (List.map AV.p (List.map encValue o_2876.1))), (41, .arr 2 1 1 (List.map AV.p (List.map (PV.int .i64) o_2876.2)))]⟩) (by intro o s hT; have hh := hT.1; cases hh) hL_2875 (by simp only [go_sem, seval]; all_goals ((repeat' refine And.intro ?_ ?_) <;> first | rfl | (simp; done) | (simp; rfl) | (simp [*]; done) | (simp [*]; rfl))) ?_ ?_
  · clear h
    intro s x h
    obtain ⟨out_2845, out_2846, i_2847⟩ := s
    simp only [drossref55_merge_l1] at h
    show AWp _ _ _ ⟨[(0, .p (.slc (List.map encRow rows_2827))), (1, .p (.slc (List.map (PV.int .i64) rules_2828))), (4, .loc 4 1 0 0), (5, .loc 5 1 0 0), (6, .p (.int .i64 i_2847))], [(4, .arr 84 3 1 [.agg [.p (.int .i64 0), .nils, .nils]]), (5, .arr 84 3 1 [.agg [.p (.int .i64 x_2831.ID), .own 33 1 0 out_2845.length, .own 41 1 0 out_2846.length]]), (33, .arr 64 3 1 (List.map AV.p (List.map encValue out_2845))), (41, .arr 2 1 1 (List.map AV.p (List.map (PV.int .i64) out_2846)))]⟩
    refine awp_seq ?_
    refine awp_seq ?_
    refine awp_region ?_
    refine AL_upto (by exact rfl) (by simp only [go_sem, seval]; exact rfl) ?_
    refine AL_nil ?_
    refine thenA_n ?_
    by_cases hb_2862 : i_2847 < (rules_2828.length : Int)
    · rw [if_pos hb_2862] at h
      have hb_2862T := eq_true hb_2862
      refine awp_ct (by simp only [go_sem, seval, hb_2862T]) ?_
      refine awp_skip ?_
      refine thenA_n ?_
      refine awp_seq ?_
      refine awp_block ?_
      refine awp_seq ?_
      refine awp_region ?_
      obtain ⟨x_2867, hx_2868, h⟩ := Option.bind_eq_some_iff.1 h
      obtain ⟨hx_2868a, hx_2868, hx_2868b⟩ := idx_some hx_2868
      have hx_2868A := eq_true hx_2868a
      have hx_2868B := eq_true hx_2868b
      refine AL_upto (by exact rfl) (by simp only [go_sem, seval, hb_2862T, hx_2868, hx_2868A, hx_2868B]; exact rfl) ?_
      obtain ⟨r_2869, hr_2870, h⟩ := Option.bind_eq_some_iff.1 h
      refine AL_con' rfl (guard_none rfl) rfl (by simp only [go_sem, seval, hb_2862T]; exact rfl) (by simp only [go_sem, seval, hb_2862T]; all_goals ((repeat' refine And.intro ?_ ?_) <;> first | rfl | (simp; done) | (simp; rfl) | (simp [*]; done) | (simp [*]; rfl))) (drossref55_Pick_con rows_2827 i_2847 x_2867 _ hr_2870) (.inr rfl) rfl ?_
      refine AL_upto (by exact rfl) (by simp only [go_sem, seval, hb_2862T]; exact rfl) ?_
      refine AL_nil ?_
      refine thenA_n ?_
      refine awp_seq ?_
      refine awp_region ?_
      obtain ⟨hc_2872, h⟩ := ite_some h
      refine AL_upto (by exact rfl) (by simp only [go_sem, seval, hb_2862T, hc_2872]; exact rfl) ?_
      refine AL_nil ?_
      refine thenA_n ?_
      refine awp_region ?_
      obtain ⟨hc_2873, h⟩ := ite_some h
      refine AL_upto (by exact rfl) (by simp only [go_sem, seval, hb_2862T, hc_2873]; exact rfl) ?_
      refine AL_nil ?_
      refine blockA_n ?_
      refine thenA_n ?_
      refine awp_region ?_
      refine AL_upto (by exact rfl) (by simp only [go_sem, seval, hb_2862T]; exact rfl) ?_
      refine AL_nil ?_
      cases h
      refine ⟨rfl, ?_⟩
      simp only [go_sem, seval, hb_2862T]
      all_goals ((repeat' refine And.intro ?_ ?_) <;> first | rfl | (simp; done) | (simp; rfl) | (simp [*]; done) | (simp [*]; rfl))
    · rw [if_neg hb_2862] at h
      have hb_2862T := eq_false hb_2862
      refine awp_cf (by simp only [go_sem, seval, hb_2862T]) ?_
      refine awp_exit ?_
      refine thenA_exit ?_
      cases h
      refine ⟨rfl, ?_⟩
      simp only [go_sem, seval, hb_2862T]
      all_goals ((repeat' refine And.intro ?_ ?_) <;> first | rfl | (simp; done) | (simp; rfl) | (simp [*]; done) | (simp [*]; rfl))
  · intro e s' hT
    obtain ⟨out_2860, out_2861⟩ := o_2874
    try simp only at h
    try simp only at hT
    obtain ⟨rfl, hle⟩ := hT
    refine Wk.to hle ?_
    clear hle
    refine blockA_here ?_
    refine thenA_n ?_
    refine awp_seq ?_
    refine awp_region ?_
    refine AL_upto (by exact rfl) (by simp only [go_sem, seval]; exact rfl) ?_
    refine AL_nil ?_
    refine thenA_n ?_
    refine awp_ret ?_
    cases h
    refine retQ_ret (by simp only [Tryz.results45]; simp only [go_sem, seval]; exact rfl) ?_
    simp only [go_sem, seval]
    all_goals ((repeat' refine And.intro ?_ ?_) <;> first | rfl | (simp; done) | (simp; rfl) | (simp [*]; done) | (simp [*]; rfl))
end Go.Proofs.YtdmddoljldjjeaaGreat
set_option linter.unusedVariables false
set_option linter.unusedSimpArgs false
namespace Go.Proofs.YtdmddoljldjjeaaGreat
open Go Go.Ab
set_option maxHeartbeats 4000000 in
theorem drossref03_cp_con (r_2600 : Row) (r_2602 : Row) (h : drossref03_cp r_2600 = some r_2602) : Con Tryz.prog 83 [(encRow r_2600)] (encRow r_2602) := by
  refine ⟨Tryz.call83, ?_⟩
  refine pure_of_awp Tryz.func83 rfl Tryz.ntmps83 (by simp) fun X w => ?_
  show AWp _ _ _ ⟨[(0, .p (encRow r_2600))], []⟩
  simp only [drossref03_cp] at h
  refine awp_seq ?_
  refine awp_region ?_
  refine AL_upto (by exact rfl) (by simp only [go_sem, seval]; exact rfl) ?_
  refine AL_nil ?_
  refine thenA_n ?_
  refine awp_seq ?_
  refine awp_drawn_walk mixed (by decide) ?_
  obtain ⟨hc_2601, h⟩ := ite_some h
  refine DGo.upto (by exact rfl) (by simp only [go_sem, seval, hc_2601]; first | exact ⟨rfl, rfl⟩ | exact rfl) ?_
  refine DGo.fin rfl ?_
  refine thenA_n ?_
  refine awp_ret ?_
  cases h
  refine retQ_ret (by simp only [Tryz.results83]; simp only [go_sem, seval]; exact rfl) ?_
  simp only [go_sem, seval]
  all_goals ((repeat' refine And.intro ?_ ?_) <;> first | rfl | (simp; done) | (simp; rfl) | (simp [*]; done) | (simp [*]; rfl))
end Go.Proofs.YtdmddoljldjjeaaGreat
set_option linter.unusedVariables false
set_option linter.unusedSimpArgs false
namespace Go.Proofs.YtdmddoljldjjeaaGreat
open Go Go.Ab
set_option maxHeartbeats 4000000 in
theorem drossref03_With_con (t_2603 : Table) (rows_2604 : List Row) (r_2631 : Table) (h : drossref03_With t_2603 rows_2604 = some r_2631) : Con Tryz.prog 44 [(encTable t_2603), (.slc (List.map encRow rows_2604))] (encTable r_2631) := by
  refine ⟨Tryz.call44, ?_⟩
  refine pure_of_awp Tryz.func44 rfl Tryz.ntmps44 (by simp) fun X w => ?_
  show AWp _ _ _ ⟨[(0, .p (encTable t_2603)), (1, .p (.slc (List.map encRow rows_2604)))], []⟩
  simp only [drossref03_With] at h
  refine awp_seq ?_
  refine awp_region ?_
  refine AL_upto (by exact rfl) (by simp only [go_sem, seval]; exact rfl) ?_
  refine AL_nil ?_
  refine thenA_n ?_
  refine awp_seq ?_
  refine awp_drawn_walk mixed (by decide) ?_
  obtain ⟨hc_2606, h⟩ := ite_some h
  refine DGo.upto (by exact rfl) (by simp only [go_sem, seval, hc_2606]; first | exact ⟨rfl, rfl⟩ | exact rfl) ?_
  refine DGo.fin rfl ?_
  refine thenA_n ?_
  refine awp_seq ?_
  refine awp_seq ?_
  refine awp_region ?_
  refine AL_upto (by exact rfl) (by simp only [go_sem, seval]; exact rfl) ?_
  refine AL_nil ?_
  refine thenA_n ?_
  refine awp_block ?_
  obtain ⟨o_2628, hL_2629, h⟩ := Option.bind_eq_some_iff.1 h
  refine awp_loop_L (fun (s : List Row × Int) => ⟨[(1, .p (.slc (List.map encRow rows_2604))), (4, .loc 4 1 0 0), (5, .loc 5 1 0 0), (6, .p (.int .i64 s.2))], [(4, .arr 25 3 1 [.agg [.p (.str []), .nils, .nils]]), (5, .arr 25 3 1 [.agg [.p (.str t_2603.Name), .own 9 1 0 (t_2603.Attrs).length, .own 28 1 0 s.1.length]]), (9, .arr 9 1 1 (List.map AV.p (List.map PV.str t_2603.Attrs))), (28, .arr 56 2 1 (List.map AV.p (List.map encRow s.1)))]⟩) (fun (o_2630 : List Row) (e : Exit) (s' : St) => e = (.exit 0) ∧ Le ⟨Tryz.prog, Tryz.f44.ntmps, 0, X, [], fun _ => none, w⟩ s' ⟨[(4, .loc 4 1 0 0), (5, .loc 5 1 0 0)], [(4, .arr 25 3 1 [.agg [.p (.str []), .nils, .nils]]), (5, .arr 25 3 1 [.agg [.p (.str t_2603.Name), .own 9 1 0 (t_2603.Attrs).length, .own 28 1 0 o_2630.length]]), (9, .arr 9 1 1 (List.map AV.p (List.map PV.str t_2603.Attrs))), (28, .arr 56 2 1 (List.map AV.p (List.map encRow o_2630)))]⟩) (by intro o s hT; have hh := hT.1; cases hh) hL_2629 (by simp only [go_sem, seval]; all_goals ((repeat' refine And.intro ?_ ?_) <;> first | rfl | (simp; done) | (simp; rfl) | (simp [*]; done) | (simp [*]; rfl))) ?_ ?_
  · clear h
    intro s x h
    obtain ⟨out_2613, i_2614⟩ := s
    simp only [drossref03_With_l1] at h
    show AWp _ _ _ ⟨[(1, .p (.slc (List.map encRow rows_2604))), (4, .loc 4 1 0 0), (5, .loc 5 1 0 0), (6, .p (.int .i64 i_2614))], [(4, .arr 25 3 1 [.agg [.p (.str []), .nils, .nils]]), (5, .arr 25 3 1 [.agg [.p (.str t_2603.Name), .own 9 1 0 (t_2603.Attrs).length, .own 28 1 0 out_2613.length]]), (9, .arr 9 1 1 (List.map AV.p (List.map PV.str t_2603.Attrs))), (28, .arr 56 2 1 (List.map AV.p (List.map encRow out_2613)))]⟩
    refine awp_seq ?_
    refine awp_seq ?_
    refine awp_region ?_
    refine AL_upto (by exact rfl) (by simp only [go_sem, seval]; exact rfl) ?_
    refine AL_nil ?_
    refine thenA_n ?_
    by_cases hb_2622 : i_2614 < (rows_2604.length : Int)
    · rw [if_pos hb_2622] at h
      have hb_2622T := eq_true hb_2622
      refine awp_ct (by simp only [go_sem, seval, hb_2622T]) ?_
      refine awp_skip ?_
      refine thenA_n ?_
      refine awp_seq ?_
      refine awp_block ?_
      refine awp_drawn_walk mixed (by decide) ?_
      obtain ⟨x_2623, hx_2624, h⟩ := Option.bind_eq_some_iff.1 h
      obtain ⟨hx_2624a, hx_2624, hx_2624b⟩ := idx_some hx_2624
      have hx_2624A := eq_true hx_2624a
      have hx_2624B := eq_true hx_2624b
      refine DGo.upto (by exact rfl) (by simp only [go_sem, seval, hb_2622T, hx_2624, hx_2624A, hx_2624B]; first | exact ⟨rfl, rfl⟩ | exact rfl) ?_
      obtain ⟨r_2625, hr_2626, h⟩ := Option.bind_eq_some_iff.1 h
      refine DGo.con' rfl (guard_none rfl) rfl (by simp only [go_sem, seval, hb_2622T]; exact rfl) (by simp only [go_sem, seval, hb_2622T]; all_goals ((repeat' refine And.intro ?_ ?_) <;> first | rfl | (simp; done) | (simp; rfl) | (simp [*]; done) | (simp [*]; rfl))) (by simp only [go_sem, seval, hb_2622T]; exact rfl) (drossref03_cp_con x_2623 _ hr_2626) (by first | exact .inl rfl | exact .inl (by simp only [go_sem])) rfl ?_
      obtain ⟨hc_2627, h⟩ := ite_some h
      refine DGo.upto (by exact rfl) (by simp only [go_sem, seval, hb_2622T, hc_2627]; first | exact ⟨rfl, rfl⟩ | exact rfl) ?_
      refine DGo.fin rfl ?_
      refine blockA_n ?_
      refine thenA_n ?_
      refine awp_region ?_
      refine AL_upto (by exact rfl) (by simp only [go_sem, seval, hb_2622T]; exact rfl) ?_
      refine AL_nil ?_
      cases h
      refine ⟨rfl, ?_⟩
      simp only [go_sem, seval, hb_2622T]
      all_goals ((repeat' refine And.intro ?_ ?_) <;> first | rfl | (simp; done) | (simp; rfl) | (simp [*]; done) | (simp [*]; rfl))
    · rw [if_neg hb_2622] at h
      have hb_2622T := eq_false hb_2622
      refine awp_cf (by simp only [go_sem, seval, hb_2622T]) ?_
      refine awp_exit ?_
      refine thenA_exit ?_
      cases h
      refine ⟨rfl, ?_⟩
      simp only [go_sem, seval, hb_2622T]
      all_goals ((repeat' refine And.intro ?_ ?_) <;> first | rfl | (simp; done) | (simp; rfl) | (simp [*]; done) | (simp [*]; rfl))
  · intro e s' hT
    obtain ⟨out_2621, rfl⟩ : ∃ z, z = o_2628 := ⟨_, rfl⟩
    try simp only at h
    try simp only at hT
    obtain ⟨rfl, hle⟩ := hT
    refine Wk.to hle ?_
    clear hle
    refine blockA_here ?_
    refine thenA_n ?_
    refine awp_seq ?_
    refine awp_region ?_
    refine AL_upto (by exact rfl) (by simp only [go_sem, seval]; exact rfl) ?_
    refine AL_nil ?_
    refine thenA_n ?_
    refine awp_ret ?_
    cases h
    refine retQ_ret (by simp only [Tryz.results44]; simp only [go_sem, seval]; exact rfl) ?_
    simp only [go_sem, seval]
    all_goals ((repeat' refine And.intro ?_ ?_) <;> first | rfl | (simp; done) | (simp; rfl) | (simp [*]; done) | (simp [*]; rfl))
end Go.Proofs.YtdmddoljldjjeaaGreat
set_option linter.unusedVariables false
set_option linter.unusedSimpArgs false
namespace Go.Proofs.YtdmddoljldjjeaaGreat
open Go Go.Ab
set_option maxHeartbeats 4000000 in
theorem drossref03_Keep_con (t_2878 : Table) (ids_2879 : List Int) (r_2921 : Table) (h : drossref03_Keep t_2878 ids_2879 = some r_2921) : Con Tryz.prog 46 [(encTable t_2878), (.slc (List.map (PV.int .i64) ids_2879))] (encTable r_2921) := by
  refine ⟨Tryz.call46, ?_⟩
  refine pure_of_awp Tryz.func46 rfl Tryz.ntmps46 (by simp) fun X w => ?_
  show AWp _ _ _ ⟨[(0, .p (encTable t_2878)), (1, .p (.slc (List.map (PV.int .i64) ids_2879)))], []⟩
  simp only [drossref03_Keep] at h
  refine awp_seq ?_
  refine awp_region ?_
  refine AL_upto (by exact rfl) (by simp only [go_sem, seval]; exact rfl) ?_
  refine AL_nil ?_
  refine thenA_n ?_
  refine awp_seq ?_
  refine awp_region ?_
  refine AL_upto (by exact rfl) (by simp only [go_sem, seval]; exact rfl) ?_
  refine AL_nil ?_
  refine thenA_n ?_
  refine awp_seq ?_
  refine awp_seq ?_
  refine awp_region ?_
  refine AL_upto (by exact rfl) (by simp only [go_sem, seval]; exact rfl) ?_
  refine AL_nil ?_
  refine thenA_n ?_
  refine awp_block ?_
  obtain ⟨o_2916, hL_2917, h⟩ := Option.bind_eq_some_iff.1 h
  refine awp_loop_L (fun (s : List Row × Int) => ⟨[(1, .p (.slc (List.map (PV.int .i64) ids_2879))), (2, .loc 2 1 0 0), (4, .loc 4 1 0 0), (5, .own 29 1 0 s.1.length), (6, .p (.int .i64 s.2))], [(2, .arr 25 3 1 [.p (encTable t_2878)]), (4, .arr 25 3 1 [.agg [.p (.str []), .nils, .nils]]), (29, .arr 56 2 1 (List.map AV.p (List.map encRow s.1)))]⟩) (fun (o_2920 : List Row) (e : Exit) (s' : St) => e = (.exit 0) ∧ Le ⟨Tryz.prog, Tryz.f46.ntmps, 0, X, [], fun _ => none, w⟩ s' ⟨[(2, .loc 2 1 0 0), (4, .loc 4 1 0 0), (5, .own 29 1 0 o_2920.length)], [(2, .arr 25 3 1 [.p (encTable t_2878)]), (4, .arr 25 3 1 [.agg [.p (.str []), .nils, .nils]]), (29, .arr 56 2 1 (List.map AV.p (List.map encRow o_2920)))]⟩) (by intro o s hT; have hh := hT.1; cases hh) hL_2917 (by simp only [go_sem, seval]; all_goals ((repeat' refine And.intro ?_ ?_) <;> first | rfl | (simp; done) | (simp; rfl) | (simp [*]; done) | (simp [*]; rfl))) ?_ ?_
  · clear h
    intro s x h
    obtain ⟨rows_2891, i_2892⟩ := s
    simp only [drossref03_Keep_l1] at h
    show AWp _ _ _ ⟨[(1, .p (.slc (List.map (PV.int .i64) ids_2879))), (2, .loc 2 1 0 0), (4, .loc 4 1 0 0), (5, .own 29 1 0 rows_2891.length), (6, .p (.int .i64 i_2892))], [(2, .arr 25 3 1 [.p (encTable t_2878)]), (4, .arr 25 3 1 [.agg [.p (.str []), .nils, .nils]]), (29, .arr 56 2 1 (List.map AV.p (List.map encRow rows_2891)))]⟩
    refine awp_seq ?_
    refine awp_seq ?_
    refine awp_region ?_
    refine AL_upto (by exact rfl) (by simp only [go_sem, seval]; exact rfl) ?_
    refine AL_nil ?_
    refine thenA_n ?_
    by_cases hb_2905 : i_2892 < (t_2878.Rows.length : Int)
    · rw [if_pos hb_2905] at h
      have hb_2905T := eq_true hb_2905
      refine awp_ct (by simp only [go_sem, seval, hb_2905T]) ?_
      refine awp_skip ?_
      refine thenA_n ?_
      refine awp_seq ?_
      refine awp_block ?_
      refine awp_seq ?_
      refine awp_region ?_
      obtain ⟨x_2910, hx_2911, h⟩ := Option.bind_eq_some_iff.1 h
      obtain ⟨hx_2911a, hx_2911, hx_2911b⟩ := idx_some hx_2911
      have hx_2911A := eq_true hx_2911a
      have hx_2911B := eq_true hx_2911b
      refine AL_upto (by exact rfl) (by simp only [go_sem, seval, hb_2905T, hx_2911, hx_2911A, hx_2911B]; exact rfl) ?_
      obtain ⟨r_2912, hr_2913, h⟩ := Option.bind_eq_some_iff.1 h
      refine AL_con' rfl (guard_none rfl) rfl (by simp only [go_sem, seval, hb_2905T]; exact rfl) (by simp only [go_sem, seval, hb_2905T]; all_goals ((repeat' refine And.intro ?_ ?_) <;> first | rfl | (simp; done) | (simp; rfl) | (simp [*]; done) | (simp [*]; rfl))) (drossref03_Has_con ids_2879 x_2910.ID _ hr_2913) (.inr rfl) rfl ?_
      refine AL_nil ?_
      refine thenA_n ?_
      by_cases hb_2914 : r_2912 = true
      · rw [if_pos hb_2914] at h
        refine awp_ct (by simp only [go_sem, seval, hb_2905T, hb_2914]) ?_
        refine awp_region ?_
        obtain ⟨hc_2915, h⟩ := ite_some h
        refine AL_upto (by exact rfl) (by simp only [go_sem, seval, hb_2905T, hb_2914, hx_2911, hx_2911A, hx_2911B, hc_2915]; exact rfl) ?_
        refine AL_nil ?_
        refine blockA_n ?_
        refine thenA_n ?_
        refine awp_region ?_
        refine AL_upto (by exact rfl) (by simp only [go_sem, seval, hb_2905T, hb_2914]; exact rfl) ?_
        refine AL_nil ?_
        cases h
        refine ⟨rfl, ?_⟩
        simp only [go_sem, seval, hb_2905T, hb_2914]
        all_goals ((repeat' refine And.intro ?_ ?_) <;> first | rfl | (simp; done) | (simp; rfl) | (simp [*]; done) | (simp [*]; rfl))
      · rw [if_neg hb_2914] at h
        have hb_2914F := Bool.eq_false_iff.2 hb_2914
        refine awp_cf (by simp only [go_sem, seval, hb_2905T, hb_2914F]) ?_
        refine awp_skip ?_
        refine blockA_n ?_
        refine thenA_n ?_
        refine awp_region ?_
        refine AL_upto (by exact rfl) (by simp only [go_sem, seval, hb_2905T, hb_2914F]; exact rfl) ?_
        refine AL_nil ?_
        cases h
        refine ⟨rfl, ?_⟩
        simp only [go_sem, seval, hb_2905T, hb_2914F]
        all_goals ((repeat' refine And.intro ?_ ?_) <;> first | rfl | (simp; done) | (simp; rfl) | (simp [*]; done) | (simp [*]; rfl))
    · rw [if_neg hb_2905] at h
      have hb_2905T := eq_false hb_2905
      refine awp_cf (by simp only [go_sem, seval, hb_2905T]) ?_
      refine awp_exit ?_
      refine thenA_exit ?_
      cases h
      refine ⟨rfl, ?_⟩
      simp only [go_sem, seval, hb_2905T]
      all_goals ((repeat' refine And.intro ?_ ?_) <;> first | rfl | (simp; done) | (simp; rfl) | (simp [*]; done) | (simp [*]; rfl))
  · intro e s' hT
    obtain ⟨rows_2904, rfl⟩ : ∃ z, z = o_2916 := ⟨_, rfl⟩
    try simp only at h
    try simp only at hT
    obtain ⟨rfl, hle⟩ := hT
    refine Wk.to hle ?_
    clear hle
    refine blockA_here ?_
    refine thenA_n ?_
    refine awp_seq ?_
    refine awp_region ?_
    refine AL_upto (by exact rfl) (by simp only [go_sem, seval]; exact rfl) ?_
    refine AL_le (st' := ⟨[(4, .loc 4 1 0 0), (30, .p (encTable t_2878)), (31, .p (.slc (List.map encRow rows_2904)))], [(4, .arr 25 3 1 [.agg [.p (.str []), .nils, .nils]])]⟩) (by simp only [go_sem, seval]; all_goals ((repeat' refine And.intro ?_ ?_) <;> first | rfl | (simp; done) | (simp; rfl) | (simp [*]; done) | (simp [*]; rfl))) ?_
    obtain ⟨r_2918, hr_2919, h⟩ := Option.bind_eq_some_iff.1 h
    refine AL_con' rfl (guard_none rfl) rfl (by simp only [go_sem, seval]; exact rfl) (by simp only [go_sem, seval]; all_goals ((repeat' refine And.intro ?_ ?_) <;> first | rfl | (simp; done) | (simp; rfl) | (simp [*]; done) | (simp [*]; rfl))) (drossref03_With_con t_2878 rows_2904 _ hr_2919) (by first | exact .inl rfl | exact .inl (by simp only [go_sem])) rfl ?_
    refine AL_upto (by exact rfl) (by simp only [go_sem, seval]; exact rfl) ?_
    refine AL_nil ?_
    refine thenA_n ?_
    refine awp_ret ?_
    cases h
    refine retQ_ret (by simp only [Tryz.results46]; simp only [go_sem, seval]; exact rfl) ?_
    simp only [go_sem, seval]
    all_goals ((repeat' refine And.intro ?_ ?_) <;> first | rfl | (simp; done) | (simp; rfl) | (simp [*]; done) | (simp [*]; rfl))
end Go.Proofs.YtdmddoljldjjeaaGreat
set_option linter.unusedVariables false
set_option linter.unusedSimpArgs false
namespace Go.Proofs.YtdmddoljldjjeaaGreat
open Go Go.Ab
set_option maxHeartbeats 4000000 in
theorem drossref55_Table_con (t_3167 : Table) (clusters_3168 : List (List Int)) (rules_3169 : List Int) (r_3479 : Merged × Int) (h : drossref55_Table t_3167 clusters_3168 rules_3169 = some r_3479) : Con Tryz.prog 13 [(encTable t_3167), (.slc (List.map (encL (PV.int .i64)) clusters_3168)), (.slc (List.map (PV.int .i64) rules_3169))] (.tup [(encMerged r_3479.1), (.int .i64 r_3479.2)]) := by
  refine ⟨Tryz.call13, ?_⟩
  refine pure_of_awp Tryz.func13 rfl Tryz.ntmps13 (by simp) fun X w => ?_
  show AWp _ _ _ ⟨[(0, .p (encTable t_3167)), (1, .p (.slc (List.map (encL (PV.int .i64)) clusters_3168))), (2, .p (.slc (List.map (PV.int .i64) rules_3169)))], []⟩
  simp only [drossref55_Table] at h
  refine awp_seq ?_
  refine awp_region ?_
  refine AL_upto (by exact rfl) (by simp only [go_sem, seval]; exact rfl) ?_
  refine AL_nil ?_
  refine thenA_n ?_
  refine awp_seq ?_
  refine awp_seq ?_
  refine awp_region ?_
  refine AL_upto (by exact rfl) (by simp only [go_sem, seval]; exact rfl) ?_
  obtain ⟨r_3172, hr_3173, h⟩ := Option.bind_eq_some_iff.1 h
  refine AL_con' rfl (guard_none rfl) rfl (by simp only [go_sem, seval]; exact rfl) (by simp only [go_sem, seval]; all_goals ((repeat' refine And.intro ?_ ?_) <;> first | rfl | (simp; done) | (simp; rfl) | (simp [*]; done) | (simp [*]; rfl))) (drossref03_Valid_con t_3167 _ hr_3173) (.inr rfl) rfl ?_
  refine AL_upto (by exact rfl) (by simp only [go_sem, seval]; exact rfl) ?_
  refine AL_nil ?_
  refine thenA_n ?_
  refine awp_seq ?_
  refine awp_region ?_
  refine AL_upto (by exact rfl) (by simp only [go_sem, seval]; exact rfl) ?_
  refine AL_nil ?_
  refine thenA_n ?_
  by_cases hb_3174 : (r_3172 != 0) = true
  · rw [if_pos hb_3174] at h
    refine awp_ct (by simp only [go_sem, seval, hb_3174]) ?_
    refine awp_seq ?_
    refine awp_region ?_
    refine AL_upto (by exact rfl) (by simp only [go_sem, seval, hb_3174]; exact rfl) ?_
    refine AL_nil ?_
    refine thenA_n ?_
    refine awp_ret ?_
    refine thenA_ret ?_
    cases h
    refine retQ_ret (by simp only [Tryz.results13]; simp only [go_sem, seval, hb_3174]; exact rfl) ?_
    simp only [go_sem, seval, hb_3174]
    all_goals ((repeat' refine And.intro ?_ ?_) <;> first | rfl | (simp; done) | (simp; rfl) | (simp [*]; done) | (simp [*]; rfl))
  · rw [if_neg hb_3174] at h
    have hb_3174F := Bool.eq_false_iff.2 hb_3174
    refine awp_cf (by simp only [go_sem, seval, hb_3174F]) ?_
    refine awp_skip ?_
    refine thenA_n ?_
    refine awp_seq ?_
    refine awp_seq ?_
    refine awp_region ?_
    refine AL_upto (by exact rfl) (by simp only [go_sem, seval, hb_3174F]; exact rfl) ?_
    refine AL_nil ?_
    refine thenA_n ?_
    by_cases hb_3175 : ((rules_3169.length : Int) != (t_3167.Attrs.length : Int)) = true
    · rw [if_pos hb_3175] at h
      refine awp_ct (by simp only [go_sem, seval, hb_3174F, hb_3175]) ?_
      refine awp_seq ?_
      refine awp_region ?_
      refine AL_upto (by exact rfl) (by simp only [go_sem, seval, hb_3174F, hb_3175]; exact rfl) ?_
      refine AL_nil ?_
      refine thenA_n ?_
      refine awp_ret ?_
      refine thenA_ret ?_
      cases h
      refine retQ_ret (by simp only [Tryz.results13]; simp only [go_sem, seval, hb_3174F, hb_3175]; exact rfl) ?_
      simp only [go_sem, seval, hb_3174F, hb_3175]
      all_goals ((repeat' refine And.intro ?_ ?_) <;> first | rfl | (simp; done) | (simp; rfl) | (simp [*]; done) | (simp [*]; rfl))
    · rw [if_neg hb_3175] at h
      have hb_3175F := Bool.eq_false_iff.2 hb_3175
      refine awp_cf (by simp only [go_sem, seval, hb_3174F, hb_3175F]) ?_
      refine awp_skip ?_
      refine thenA_n ?_
      refine awp_seq ?_
      refine awp_seq ?_
      refine awp_region ?_
      refine AL_upto (by exact rfl) (by simp only [go_sem, seval, hb_3174F, hb_3175F]; exact rfl) ?_
      obtain ⟨r_3176, hr_3177, h⟩ := Option.bind_eq_some_iff.1 h
      refine AL_con' rfl (guard_none rfl) rfl (by simp only [go_sem, seval, hb_3174F, hb_3175F]; exact rfl) (by simp only [go_sem, seval, hb_3174F, hb_3175F]; all_goals ((repeat' refine And.intro ?_ ?_) <;> first | rfl | (simp; done) | (simp; rfl) | (simp [*]; done) | (simp [*]; rfl))) (drossref55_Rules_con rules_3169 _ hr_3177) (.inr rfl) rfl ?_
      refine AL_upto (by exact rfl) (by simp only [go_sem, seval, hb_3174F, hb_3175F]; exact rfl) ?_
      by_cases hb_3178 : r_3176 = true
      · rw [if_pos hb_3178] at h
        refine AL_known (d := 31) (v := .p (.bool false)) (by simp only [go_sem, seval, hb_3174F, hb_3175F, hb_3178]) ?_
        refine AL_gt' (guard_true' rfl rfl (by exact rfl) (by exact rfl)) rfl (by simp only [go_sem, seval, hb_3174F, hb_3175F, hb_3178]; exact rfl) ?_
        refine AL_gt' (guard_true' rfl rfl (by exact rfl) (by exact rfl)) rfl (by simp only [go_sem, seval, hb_3174F, hb_3175F, hb_3178]; exact rfl) ?_
        obtain ⟨r_3179, hr_3180, h⟩ := Option.bind_eq_some_iff.1 h
        refine AL_con' rfl (guard_true' rfl rfl (by exact rfl) (by exact rfl)) rfl (by simp only [go_sem, seval, hb_3174F, hb_3175F, hb_3178]; exact rfl) (by simp only [go_sem, seval, hb_3174F, hb_3175F, hb_3178]; all_goals ((repeat' refine And.intro ?_ ?_) <;> first | rfl | (simp; done) | (simp; rfl) | (simp [*]; done) | (simp [*]; rfl))) (drossref55_Of_con t_3167 clusters_3168 _ hr_3180) (.inr rfl) rfl ?_
        refine AL_gt' (guard_true' rfl rfl (by exact rfl) (by exact rfl)) rfl (by simp only [go_sem, seval, hb_3174F, hb_3175F, hb_3178]; exact rfl) ?_
        refine AL_upto (by exact rfl) (by simp only [go_sem, seval, hb_3174F, hb_3175F, hb_3178]; exact rfl) ?_
        refine AL_nil ?_
        refine thenA_n ?_
        by_cases hb_3181 : r_3179 = true
        · rw [if_pos hb_3181] at h
          refine awp_cf (by simp only [go_sem, seval, hb_3174F, hb_3175F, hb_3178, hb_3181]) ?_
          refine awp_skip ?_
          refine thenA_n ?_
          refine awp_seq ?_
          refine awp_region ?_
          obtain ⟨hc_3183, h⟩ := ite_some h
          refine AL_upto (by exact rfl) (by simp only [go_sem, seval, hb_3174F, hb_3175F, hb_3178, hb_3181, hc_3183]; exact rfl) ?_
          refine AL_nil ?_
          refine thenA_n ?_
          refine awp_seq ?_
          refine awp_seq ?_
          refine awp_region ?_
          refine AL_upto (by exact rfl) (by simp only [go_sem, seval, hb_3174F, hb_3175F, hb_3178, hb_3181]; exact rfl) ?_
          refine AL_nil ?_
          refine thenA_n ?_
          refine awp_block ?_
          obtain ⟨o_3393, hL_3394, h⟩ := Option.bind_eq_some_iff.1 h
          refine awp_loop_L (fun (s : List (List Int) × Int) => ⟨[(2, .p (.slc (List.map (PV.int .i64) rules_3169))), (3, .loc 3 1 0 0), (6, .loc 6 1 0 0), (9, .own 38 1 0 s.1.length), (10, .p (.int .i64 s.2))], [(3, .arr 25 3 1 [.p (encTable t_3167)]), (6, .arr 31 5 1 [.agg [.p (.str []), .nils, .nils, .nils, .nils]]), (38, .arr 36 1 1 (List.map AV.p (List.map (encL (PV.int .i64)) s.1)))]⟩) (fun (o_3478 : List (List Int)) (e : Exit) (s' : St) => e = (.exit 0) ∧ Le ⟨Tryz.prog, Tryz.f13.ntmps, 0, X, [], fun _ => none, w⟩ s' ⟨[(2, .p (.slc (List.map (PV.int .i64) rules_3169))), (3, .loc 3 1 0 0), (6, .loc 6 1 0 0), (9, .own 38 1 0 o_3478.length)], [(3, .arr 25 3 1 [.p (encTable t_3167)]), (6, .arr 31 5 1 [.agg [.p (.str []), .nils, .nils, .nils, .nils]]), (38, .arr 36 1 1 (List.map AV.p (List.map (encL (PV.int .i64)) o_3478)))]⟩) (by intro o s hT; have hh := hT.1; cases hh) hL_3394 (by simp only [go_sem, seval, hb_3174F, hb_3175F, hb_3178, hb_3181]; all_goals ((repeat' refine And.intro ?_ ?_) <;> first | rfl | (simp; done) | (simp; rfl) | (simp [*]; done) | (simp [*]; rfl))) ?_ ?_
          · clear h
            intro s x h
            obtain ⟨l_3256, i_3257⟩ := s
            simp only [drossref55_Table_l5] at h
            show AWp _ _ _ ⟨[(2, .p (.slc (List.map (PV.int .i64) rules_3169))), (3, .loc 3 1 0 0), (6, .loc 6 1 0 0), (9, .own 38 1 0 l_3256.length), (10, .p (.int .i64 i_3257))], [(3, .arr 25 3 1 [.p (encTable t_3167)]), (6, .arr 31 5 1 [.agg [.p (.str []), .nils, .nils, .nils, .nils]]), (38, .arr 36 1 1 (List.map AV.p (List.map (encL (PV.int .i64)) l_3256)))]⟩
            refine awp_seq ?_
            refine awp_seq ?_
            refine awp_region ?_
            refine AL_upto (by exact rfl) (by simp only [go_sem, seval]; exact rfl) ?_
            refine AL_nil ?_
            refine thenA_n ?_
            by_cases hb_3326 : i_3257 < ((l_3256.length : Nat) : Int)
            · rw [if_pos hb_3326] at h
              have hb_3326T := eq_true hb_3326
              refine awp_ct (by simp only [go_sem, seval, hb_3326T]) ?_
              refine awp_skip ?_
              refine thenA_n ?_
              refine awp_seq ?_
              refine awp_block ?_
              refine awp_seq ?_
              refine awp_region ?_
              refine AL_upto (by exact rfl) (by simp only [go_sem, seval, hb_3326T]; exact rfl) ?_
              refine AL_nil ?_
              refine thenA_n ?_
              refine awp_block ?_
              obtain ⟨o_3390, hL_3391, h⟩ := Option.bind_eq_some_iff.1 h
              refine awp_loop_L (fun (s : List (List Int) × Int) => ⟨[(2, .p (.slc (List.map (PV.int .i64) rules_3169))), (3, .loc 3 1 0 0), (6, .loc 6 1 0 0), (9, .own 38 1 0 s.1.length), (10, .p (.int .i64 i_3257)), (11, .p (.int .i64 s.2))], [(3, .arr 25 3 1 [.p (encTable t_3167)]), (6, .arr 31 5 1 [.agg [.p (.str []), .nils, .nils, .nils, .nils]]), (38, .arr 36 1 1 (List.map AV.p (List.map (encL (PV.int .i64)) s.1)))]⟩) (fun (o_3392 : List (List Int)) (e : Exit) (s' : St) => e = (.exit 2) ∧ Le ⟨Tryz.prog, Tryz.f13.ntmps, 0, X, [], fun _ => none, w⟩ s' ⟨[(2, .p (.slc (List.map (PV.int .i64) rules_3169))), (3, .loc 3 1 0 0), (6, .loc 6 1 0 0), (9, .own 38 1 0 o_3392.length), (10, .p (.int .i64 i_3257))], [(3, .arr 25 3 1 [.p (encTable t_3167)]), (6, .arr 31 5 1 [.agg [.p (.str []), .nils, .nils, .nils, .nils]]), (38, .arr 36 1 1 (List.map AV.p (List.map (encL (PV.int .i64)) o_3392)))]⟩) (by intro o s hT; have hh := hT.1; cases hh) hL_3391 (by simp only [go_sem, seval, hb_3326T]; all_goals ((repeat' refine And.intro ?_ ?_) <;> first | rfl | (simp; done) | (simp; rfl) | (simp [*]; done) | (simp [*]; rfl))) ?_ ?_
              · clear h
                intro s x h
                obtain ⟨l_3347, k_3348⟩ := s
                simp only [drossref55_Table_l4] at h
                show AWp _ _ _ ⟨[(2, .p (.slc (List.map (PV.int .i64) rules_3169))), (3, .loc 3 1 0 0), (6, .loc 6 1 0 0), (9, .own 38 1 0 l_3347.length), (10, .p (.int .i64 i_3257)), (11, .p (.int .i64 k_3348))], [(3, .arr 25 3 1 [.p (encTable t_3167)]), (6, .arr 31 5 1 [.agg [.p (.str []), .nils, .nils, .nils, .nils]]), (38, .arr 36 1 1 (List.map AV.p (List.map (encL (PV.int .i64)) l_3347)))]⟩
                refine awp_seq ?_
                refine awp_seq ?_
                refine awp_drawn_walk mixed (by decide) ?_
                refine DGo.upto (by exact rfl) (by simp only [go_sem, seval]; first | exact ⟨rfl, rfl⟩ | exact rfl) ?_
                by_cases hb_3370 : k_3348 > 0
                · rw [if_pos hb_3370] at h
                  have hb_3370T := eq_true hb_3370
                  refine DGo.known' (d := 50) (v := .p (.bool true)) (by simp only [go_sem, seval, hb_3370T]) ?_
                  refine DGo.gt' (guard_true' rfl rfl (by exact rfl) (by exact rfl)) rfl (by simp only [go_sem, seval, hb_3370T]; first | exact ⟨rfl, rfl⟩ | exact rfl) ?_
                  refine DGo.gt' (guard_true' rfl rfl (by exact rfl) (by exact rfl)) rfl (by simp only [go_sem, seval, hb_3370T]; first | exact ⟨rfl, rfl⟩ | exact rfl) ?_
                  obtain ⟨x_3373, hx_3374, h⟩ := Option.bind_eq_some_iff.1 h
                  obtain ⟨hx_3374a, hx_3374, hx_3374b⟩ := idx_some hx_3374
                  have hx_3374A := eq_true hx_3374a
                  have hx_3374B := eq_true hx_3374b
                  refine DGo.gt' (guard_true' rfl rfl (by exact rfl) (by exact rfl)) rfl (by simp only [go_sem, seval, hb_3370T, hx_3374, hx_3374A, hx_3374B]; first | exact ⟨rfl, rfl⟩ | exact rfl) ?_
                  refine DGo.gt' (guard_true' rfl rfl (by exact rfl) (by exact rfl)) rfl (by simp only [go_sem, seval, hb_3370T, hx_3374, hx_3374A, hx_3374B]; first | exact ⟨rfl, rfl⟩ | exact rfl) ?_
                  obtain ⟨x_3377, hx_3378, h⟩ := Option.bind_eq_some_iff.1 h
                  have hx_3378l := eq_true (lt_of_get hx_3378)
                  have hx_3378L : ((0 : Int) < (x_3373.length : Int)) = True := eq_true (by have := lt_of_get hx_3378; omega)
                  refine DGo.gt' (guard_true' rfl rfl (by exact rfl) (by exact rfl)) rfl (by simp only [go_sem, seval, hb_3370T, hx_3378, hx_3378l, hx_3378L]; first | exact ⟨rfl, rfl⟩ | exact rfl) ?_
                  refine DGo.gt' (guard_true' rfl rfl (by exact rfl) (by exact rfl)) rfl (by simp only [go_sem, seval, hb_3370T]; first | exact ⟨rfl, rfl⟩ | exact rfl) ?_
                  refine DGo.gt' (guard_true' rfl rfl (by exact rfl) (by exact rfl)) rfl (by simp only [go_sem, seval, hb_3370T]; first | exact ⟨rfl, rfl⟩ | exact rfl) ?_
                  refine DGo.gt' (guard_true' rfl rfl (by exact rfl) (by exact rfl)) rfl (by simp only [go_sem, seval, hb_3370T]; first | exact ⟨rfl, rfl⟩ | exact rfl) ?_
                  refine DGo.gt' (guard_true' rfl rfl (by exact rfl) (by exact rfl)) rfl (by simp only [go_sem, seval, hb_3370T]; first | exact ⟨rfl, rfl⟩ | exact rfl) ?_
                  obtain ⟨x_3381, hx_3382, h⟩ := Option.bind_eq_some_iff.1 h
                  obtain ⟨hx_3382a, hx_3382, hx_3382b⟩ := idx_some hx_3382
                  have hx_3382A := eq_true hx_3382a
                  have hx_3382B := eq_true hx_3382b
                  refine DGo.gt' (guard_true' rfl rfl (by exact rfl) (by exact rfl)) rfl (by simp only [go_sem, seval, hb_3370T, hx_3382, hx_3382A, hx_3382B]; first | exact ⟨rfl, rfl⟩ | exact rfl) ?_
                  refine DGo.gt' (guard_true' rfl rfl (by exact rfl) (by exact rfl)) rfl (by simp only [go_sem, seval, hb_3370T, hx_3382, hx_3382A, hx_3382B]; first | exact ⟨rfl, rfl⟩ | exact rfl) ?_
                  obtain ⟨x_3385, hx_3386, h⟩ := Option.bind_eq_some_iff.1 h
                  have hx_3386l := eq_true (lt_of_get hx_3386)
                  have hx_3386L : ((0 : Int) < (x_3381.length : Int)) = True := eq_true (by have := lt_of_get hx_3386; omega)
                  refine DGo.gt' (guard_true' rfl rfl (by exact rfl) (by exact rfl)) rfl (by simp only [go_sem, seval, hb_3370T, hx_3386, hx_3386l, hx_3386L]; first | exact ⟨rfl, rfl⟩ | exact rfl) ?_
                  refine DGo.gt' (guard_true' rfl rfl (by exact rfl) (by exact rfl)) rfl (by simp only [go_sem, seval, hb_3370T]; first | exact ⟨rfl, rfl⟩ | exact rfl) ?_
                  refine DGo.gt' (guard_true' rfl rfl (by exact rfl) (by exact rfl)) rfl (by simp only [go_sem, seval, hb_3370T]; first | exact ⟨rfl, rfl⟩ | exact rfl) ?_
                  refine DGo.upto (by exact rfl) (by simp only [go_sem, seval, hb_3370T]; first | exact ⟨rfl, rfl⟩ | exact rfl) ?_
                  refine DGo.fin rfl ?_
                  refine thenA_n ?_
                  by_cases hb_3387 : x_3377 < x_3385
                  · rw [if_pos hb_3387] at h
                    have hb_3387T := eq_true hb_3387
                    refine awp_ct (by simp only [go_sem, seval, hb_3370T, hb_3387T]) ?_
                    refine awp_skip ?_
                    refine thenA_n ?_
                    refine awp_seq ?_
                    refine awp_block ?_
                    refine awp_drawn_walk mixed (by decide) ?_
                    obtain ⟨x_3388, hx_3389, h⟩ := Option.bind_eq_some_iff.1 h
                    obtain ⟨hx_3389a, hx_3389, hx_3389b⟩ := idx_some hx_3389
                    have hx_3389A := eq_true hx_3389a
                    have hx_3389B := eq_true (by simpa only [List.length_set] using hx_3389b)
                    refine DGo.upto (by exact rfl) (by simp only [go_sem, seval, hb_3370T, hb_3387T, hx_3382, hx_3382A, hx_3382B, hx_3374, hx_3374A, hx_3374B, hx_3389, hx_3389A, hx_3389B]; first | exact ⟨rfl, rfl⟩ | exact rfl) ?_
                    refine DGo.fin rfl ?_
                    refine blockA_n ?_
                    refine thenA_n ?_
                    refine awp_region ?_
                    refine AL_upto (by exact rfl) (by simp only [go_sem, seval, hb_3370T, hb_3387T]; exact rfl) ?_
                    refine AL_nil ?_
                    cases h
                    refine ⟨rfl, ?_⟩
                    simp only [go_sem, seval, hb_3370T, hb_3387T]
                    all_goals ((repeat' refine And.intro ?_ ?_) <;> first | rfl | (simp; done) | (simp; rfl) | (simp [*]; done) | (simp [*]; rfl))
                  · rw [if_neg hb_3387] at h
                    have hb_3387T := eq_false hb_3387
                    refine awp_cf (by simp only [go_sem, seval, hb_3370T, hb_3387T]) ?_
                    refine awp_exit ?_
                    refine thenA_exit ?_
                    cases h
                    refine ⟨rfl, ?_⟩
                    simp only [go_sem, seval, hb_3370T, hb_3387T]
                    all_goals ((repeat' refine And.intro ?_ ?_) <;> first | rfl | (simp; done) | (simp; rfl) | (simp [*]; done) | (simp [*]; rfl))
                · rw [if_neg hb_3370] at h
                  have hb_3370T := eq_false hb_3370
                  refine DGo.known' (d := 50) (v := .p (.bool false)) (by simp only [go_sem, seval, hb_3370T]) ?_
                  refine DGo.skips (by exact rfl) ?_
                  refine DGo.upto (by exact rfl) (by simp only [go_sem, seval, hb_3370T]; first | exact ⟨rfl, rfl⟩ | exact rfl) ?_
                  refine DGo.fin rfl ?_
                  refine thenA_n ?_
                  refine awp_cf (by simp only [go_sem, seval, hb_3370T]) ?_
                  refine awp_exit ?_
                  refine thenA_exit ?_
                  cases h
                  refine ⟨rfl, ?_⟩
                  simp only [go_sem, seval, hb_3370T]
                  all_goals ((repeat' refine And.intro ?_ ?_) <;> first | rfl | (simp; done) | (simp; rfl) | (simp [*]; done) | (simp [*]; rfl))
              · intro e s' hT
                obtain ⟨l_3369, rfl⟩ : ∃ z, z = o_3390 := ⟨_, rfl⟩
                try simp only at h
                try simp only at hT
                obtain ⟨rfl, hle⟩ := hT
                refine Wk.to hle ?_
                clear hle
                refine blockA_here ?_
                refine blockA_n ?_
                refine thenA_n ?_
                refine awp_region ?_
                refine AL_upto (by exact rfl) (by simp only [go_sem, seval, hb_3326T]; exact rfl) ?_
                refine AL_nil ?_
                cases h
                refine ⟨rfl, ?_⟩
                simp only [go_sem, seval, hb_3326T]
                all_goals ((repeat' refine And.intro ?_ ?_) <;> first | rfl | (simp; done) | (simp; rfl) | (simp [*]; done) | (simp [*]; rfl))
            · rw [if_neg hb_3326] at h
              have hb_3326T := eq_false hb_3326
              refine awp_cf (by simp only [go_sem, seval, hb_3326T]) ?_
              refine awp_exit ?_
              refine thenA_exit ?_
              cases h
              refine ⟨rfl, ?_⟩
              simp only [go_sem, seval, hb_3326T]
              all_goals ((repeat' refine And.intro ?_ ?_) <;> first | rfl | (simp; done) | (simp; rfl) | (simp [*]; done) | (simp [*]; rfl))
          · intro e s' hT
            obtain ⟨l_3325, rfl⟩ : ∃ z, z = o_3393 := ⟨_, rfl⟩
            try simp only at h
            try simp only at hT
            obtain ⟨rfl, hle⟩ := hT
            refine Wk.to hle ?_
            clear hle
            refine blockA_here ?_
            refine thenA_n ?_
            refine awp_seq ?_
            refine awp_region ?_
            refine AL_upto (by exact rfl) (by simp only [go_sem, seval, hb_3174F, hb_3175F, hb_3178, hb_3181]; exact rfl) ?_
            refine AL_le (st' := ⟨[(2, .p (.slc (List.map (PV.int .i64) rules_3169))), (3, .loc 3 1 0 0), (6, .loc 6 1 0 0), (9, .own 38 1 0 l_3325.length), (84, .p (encTable t_3167))], [(3, .arr 25 3 1 [.p (encTable t_3167)]), (6, .arr 31 5 1 [.agg [.p (.str []), .nils, .nils, .nils, .nils]]), (38, .arr 36 1 1 (List.map AV.p (List.map (encL (PV.int .i64)) l_3325)))]⟩) (by simp only [go_sem, seval, hb_3174F, hb_3175F, hb_3178, hb_3181]; all_goals ((repeat' refine And.intro ?_ ?_) <;> first | rfl | (simp; done) | (simp; rfl) | (simp [*]; done) | (simp [*]; rfl))) ?_
            refine AL_inline (avs := [.p (encTable t_3167), .nils]) 161 rfl (guard_none rfl) rfl Tryz.func44 rfl Tryz.call44 Tryz.ntmps44 (by simp) (by simp only [go_sem, seval, hb_3174F, hb_3175F, hb_3178, hb_3181]; all_goals rfl) ?_
            intro inj_3402 w_3403
            show AWp _ _ _ ⟨[(0, .p (encTable t_3167)), (1, .nils)], [(3, .arr 25 3 1 [.p (encTable t_3167)]), (6, .arr 31 5 1 [.agg [.p (.str []), .nils, .nils, .nils, .nils]]), (38, .arr 36 1 1 (List.map AV.p (List.map (encL (PV.int .i64)) l_3325)))]⟩
            refine awp_seq ?_
            refine awp_region ?_
            refine AL_upto (by exact rfl) (by simp only [go_sem, seval, hb_3174F, hb_3175F, hb_3178, hb_3181]; exact rfl) ?_
            refine AL_nil ?_
            refine thenA_n ?_
            refine awp_seq ?_
            refine awp_drawn_walk mixed (by decide) ?_
            obtain ⟨hc_3405, h⟩ := ite_some h
            refine DGo.upto (by exact rfl) (by simp only [go_sem, seval, hb_3174F, hb_3175F, hb_3178, hb_3181, hc_3405]; first | exact ⟨rfl, rfl⟩ | exact rfl) ?_
            refine DGo.fin rfl ?_
            refine thenA_n ?_
            refine awp_seq ?_
            refine awp_seq ?_
            refine awp_region ?_
            refine AL_upto (by exact rfl) (by simp only [go_sem, seval, hb_3174F, hb_3175F, hb_3178, hb_3181]; exact rfl) ?_
            refine AL_nil ?_
            refine thenA_n ?_
            refine awp_block ?_
            obtain ⟨o_3406, hL_3407, h⟩ := Option.bind_eq_some_iff.1 h
            refine awp_loop_L (fun (s : Unit) => ⟨[(1, .nils), (4, .loc 165 1 0 0), (5, .loc 166 1 0 0), (6, .p (.int .i64 0))], [(3, .arr 25 3 1 [.p (encTable t_3167)]), (6, .arr 31 5 1 [.agg [.p (.str []), .nils, .nils, .nils, .nils]]), (38, .arr 36 1 1 (List.map AV.p (List.map (encL (PV.int .i64)) l_3325))), (165, .arr 25 3 1 [.agg [.p (.str []), .nils, .nils]]), (166, .arr 25 3 1 [.agg [.p (.str t_3167.Name), .own 170 1 0 (t_3167.Attrs).length, .nils]]), (170, .arr 9 1 1 (List.map AV.p (List.map PV.str t_3167.Attrs)))]⟩) (fun (o_3477 : Unit) (e : Exit) (s' : St) => e = (.exit 0) ∧ Le ⟨Tryz.prog, 31, 161, X, [(3, .arr 25 3 1 [.p (encTable t_3167)]), (6, .arr 31 5 1 [.agg [.p (.str []), .nils, .nils, .nils, .nils]]), (38, .arr 36 1 1 (List.map AV.p (List.map (encL (PV.int .i64)) l_3325)))], inj_3402, w_3403⟩ s' ⟨[(4, .loc 165 1 0 0), (5, .loc 166 1 0 0)], [(3, .arr 25 3 1 [.p (encTable t_3167)]), (6, .arr 31 5 1 [.agg [.p (.str []), .nils, .nils, .nils, .nils]]), (38, .arr 36 1 1 (List.map AV.p (List.map (encL (PV.int .i64)) l_3325))), (165, .arr 25 3 1 [.agg [.p (.str []), .nils, .nils]]), (166, .arr 25 3 1 [.agg [.p (.str t_3167.Name), .own 170 1 0 (t_3167.Attrs).length, .nils]]), (170, .arr 9 1 1 (List.map AV.p (List.map PV.str t_3167.Attrs)))]⟩) (by intro o s hT; have hh := hT.1; cases hh) hL_3407 (by simp only [go_sem, seval, hb_3174F, hb_3175F, hb_3178, hb_3181]; all_goals ((repeat' refine And.intro ?_ ?_) <;> first | rfl | (simp; done) | (simp; rfl) | (simp [*]; done) | (simp [*]; rfl))) ?_ ?_
            · clear h
              intro s x h
              simp only [drossref55_Table_l7] at h
              show AWp _ _ _ ⟨[(1, .nils), (4, .loc 165 1 0 0), (5, .loc 166 1 0 0), (6, .p (.int .i64 0))], [(3, .arr 25 3 1 [.p (encTable t_3167)]), (6, .arr 31 5 1 [.agg [.p (.str []), .nils, .nils, .nils, .nils]]), (38, .arr 36 1 1 (List.map AV.p (List.map (encL (PV.int .i64)) l_3325))), (165, .arr 25 3 1 [.agg [.p (.str []), .nils, .nils]]), (166, .arr 25 3 1 [.agg [.p (.str t_3167.Name), .own 170 1 0 (t_3167.Attrs).length, .nils]]), (170, .arr 9 1 1 (List.map AV.p (List.map PV.str t_3167.Attrs)))]⟩
              refine awp_seq ?_
              refine awp_seq ?_
              refine awp_region ?_
              refine AL_upto (by exact rfl) (by simp only [go_sem, seval]; exact rfl) ?_
              refine AL_nil ?_
              refine thenA_n ?_
              refine awp_cf (by simp only [go_sem, seval]) ?_
              refine awp_exit ?_
              refine thenA_exit ?_
              cases h
              refine ⟨rfl, ?_⟩
              simp only [go_sem, seval]
              all_goals ((repeat' refine And.intro ?_ ?_) <;> first | rfl | (simp; done) | (simp; rfl) | (simp [*]; done) | (simp [*]; rfl))
            · intro e s' hT
              cases o_3406
              try simp only at h
              try simp only at hT
              obtain ⟨rfl, hle⟩ := hT
              refine Wk.to hle ?_
              clear hle
              refine blockA_here ?_
              refine thenA_n ?_
              refine awp_seq ?_
              refine awp_region ?_
              refine AL_upto (by exact rfl) (by simp only [go_sem, seval, hb_3174F, hb_3175F, hb_3178, hb_3181]; exact rfl) ?_
              refine AL_nil ?_
              refine thenA_n ?_
              refine awp_ret ?_
              refine inlQ_ret (by simp only [Tryz.results44]; simp only [go_sem, seval, hb_3174F, hb_3175F, hb_3178, hb_3181]; exact rfl) ?_
              refine AL_upto (by exact rfl) (by simp only [go_sem, seval, hb_3174F, hb_3175F, hb_3178, hb_3181]; exact rfl) ?_
              refine AL_nil ?_
              refine thenA_n ?_
              refine awp_seq ?_
              refine awp_seq ?_
              refine awp_region ?_
              refine AL_upto (by exact rfl) (by simp only [go_sem, seval, hb_3174F, hb_3175F, hb_3178, hb_3181]; exact rfl) ?_
              refine AL_nil ?_
              refine thenA_n ?_
              refine awp_block ?_
              obtain ⟨o_3474, hL_3475, h⟩ := Option.bind_eq_some_iff.1 h
              refine awp_loop_L (fun (s : List Row × List (List Int) × List (List Int) × Int) => ⟨[(2, .p (.slc (List.map (PV.int .i64) rules_3169))), (3, .loc 3 1 0 0), (6, .loc 6 1 0 0), (9, .own 38 1 0 l_3325.length), (12, .loc 12 1 0 0), (13, .p (.int .i64 s.2.2.2))], [(3, .arr 25 3 1 [.p (encTable t_3167)]), (6, .arr 31 5 1 [.agg [.p (.str []), .nils, .nils, .nils, .nils]]), (12, .arr 31 5 1 [.agg [.p (.str t_3167.Name), .own 170 1 0 (t_3167.Attrs).length, .own 108 1 0 s.1.length, .own 120 1 0 s.2.1.length, .own 127 1 0 s.2.2.1.length]]), (38, .arr 36 1 1 (List.map AV.p (List.map (encL (PV.int .i64)) l_3325))), (108, .arr 56 2 1 (List.map AV.p (List.map encRow s.1))), (120, .arr 36 1 1 (List.map AV.p (List.map (encL (PV.int .i64)) s.2.1))), (127, .arr 36 1 1 (List.map AV.p (List.map (encL (PV.int .i64)) s.2.2.1))), (170, .arr 9 1 1 (List.map AV.p (List.map PV.str t_3167.Attrs)))]⟩) (fun (o_3476 : List Row × List (List Int) × List (List Int)) (e : Exit) (s' : St) => e = (.exit 4) ∧ Le ⟨Tryz.prog, Tryz.f13.ntmps, 0, X, [], fun _ => none, w⟩ s' ⟨[(6, .loc 6 1 0 0), (12, .loc 12 1 0 0)], [(6, .arr 31 5 1 [.agg [.p (.str []), .nils, .nils, .nils, .nils]]), (12, .arr 31 5 1 [.agg [.p (.str t_3167.Name), .own 170 1 0 (t_3167.Attrs).length, .own 108 1 0 o_3476.1.length, .own 120 1 0 o_3476.2.1.length, .own 127 1 0 o_3476.2.2.length]]), (108, .arr 56 2 1 (List.map AV.p (List.map encRow o_3476.1))), (120, .arr 36 1 1 (List.map AV.p (List.map (encL (PV.int .i64)) o_3476.2.1))), (127, .arr 36 1 1 (List.map AV.p (List.map (encL (PV.int .i64)) o_3476.2.2))), (170, .arr 9 1 1 (List.map AV.p (List.map PV.str t_3167.Attrs)))]⟩) (by intro o s hT; have hh := hT.1; cases hh) hL_3475 (by simp only [go_sem, seval, hb_3174F, hb_3175F, hb_3178, hb_3181]; all_goals ((repeat' refine And.intro ?_ ?_) <;> first | rfl | (simp; done) | (simp; rfl) | (simp [*]; done) | (simp [*]; rfl))) ?_ ?_
              · clear h
                intro s x h
                obtain ⟨out_3427, out_3428, out_3429, i_3430⟩ := s
                simp only [drossref55_Table_l8] at h
                show AWp _ _ _ ⟨[(2, .p (.slc (List.map (PV.int .i64) rules_3169))), (3, .loc 3 1 0 0), (6, .loc 6 1 0 0), (9, .own 38 1 0 l_3325.length), (12, .loc 12 1 0 0), (13, .p (.int .i64 i_3430))], [(3, .arr 25 3 1 [.p (encTable t_3167)]), (6, .arr 31 5 1 [.agg [.p (.str []), .nils, .nils, .nils, .nils]]), (12, .arr 31 5 1 [.agg [.p (.str t_3167.Name), .own 170 1 0 (t_3167.Attrs).length, .own 108 1 0 out_3427.length, .own 120 1 0 out_3428.length, .own 127 1 0 out_3429.length]]), (38, .arr 36 1 1 (List.map AV.p (List.map (encL (PV.int .i64)) l_3325))), (108, .arr 56 2 1 (List.map AV.p (List.map encRow out_3427))), (120, .arr 36 1 1 (List.map AV.p (List.map (encL (PV.int .i64)) out_3428))), (127, .arr 36 1 1 (List.map AV.p (List.map (encL (PV.int .i64)) out_3429))), (170, .arr 9 1 1 (List.map AV.p (List.map PV.str t_3167.Attrs)))]⟩
                refine awp_seq ?_
                refine awp_seq ?_
                refine awp_region ?_
                refine AL_upto (by exact rfl) (by simp only [go_sem, seval]; exact rfl) ?_
                refine AL_nil ?_
                refine thenA_n ?_
                by_cases hb_3454 : i_3430 < ((l_3325.length : Nat) : Int)
                · rw [if_pos hb_3454] at h
                  have hb_3454T := eq_true hb_3454
                  refine awp_ct (by simp only [go_sem, seval, hb_3454T]) ?_
                  refine awp_skip ?_
                  refine thenA_n ?_
                  refine awp_seq ?_
                  refine awp_block ?_
                  refine awp_seq ?_
                  refine awp_drawn_walk mixed (by decide) ?_
                  obtain ⟨x_3461, hx_3462, h⟩ := Option.bind_eq_some_iff.1 h
                  obtain ⟨hx_3462a, hx_3462, hx_3462b⟩ := idx_some hx_3462
                  have hx_3462A := eq_true hx_3462a
                  have hx_3462B := eq_true hx_3462b
                  refine DGo.upto (by exact rfl) (by simp only [go_sem, seval, hb_3454T, hx_3462, hx_3462A, hx_3462B]; first | exact ⟨rfl, rfl⟩ | exact rfl) ?_
                  obtain ⟨r_3463, hr_3464, h⟩ := Option.bind_eq_some_iff.1 h
                  refine DGo.con' rfl (guard_none rfl) rfl (by simp only [go_sem, seval, hb_3454T]; exact rfl) (by simp only [go_sem, seval, hb_3454T]; all_goals ((repeat' refine And.intro ?_ ?_) <;> first | rfl | (simp; done) | (simp; rfl) | (simp [*]; done) | (simp [*]; rfl))) (by simp only [go_sem, seval, hb_3454T]; exact rfl) (drossref03_Keep_con t_3167 x_3461 _ hr_3464) (by first | exact .inl rfl | exact .inl (by simp only [go_sem])) rfl ?_
                  refine DGo.upto (by exact rfl) (by simp only [go_sem, seval, hb_3454T]; first | exact ⟨rfl, rfl⟩ | exact rfl) ?_
                  obtain ⟨r_3465, hr_3466, h⟩ := Option.bind_eq_some_iff.1 h
                  refine DGo.con' rfl (guard_none rfl) rfl (by simp only [go_sem, seval, hb_3454T]; exact rfl) (by simp only [go_sem, seval, hb_3454T]; all_goals ((repeat' refine And.intro ?_ ?_) <;> first | rfl | (simp; done) | (simp; rfl) | (simp [*]; done) | (simp [*]; rfl))) (by simp only [go_sem, seval, hb_3454T]; exact rfl) (drossref55_merge_con r_3463.Rows rules_3169 _ hr_3466) (by first | exact .inl rfl | exact .inl (by simp only [go_sem])) rfl ?_
                  refine DGo.upto (by exact rfl) (by simp only [go_sem, seval, hb_3454T]; first | exact ⟨rfl, rfl⟩ | exact rfl) ?_
                  refine DGo.fin rfl ?_
                  refine thenA_n ?_
                  refine awp_seq ?_
                  refine awp_region ?_
                  obtain ⟨hc_3468, h⟩ := ite_some h
                  refine AL_upto (by exact rfl) (by simp only [go_sem, seval, hb_3454T, hc_3468]; exact rfl) ?_
                  refine AL_nil ?_
                  refine thenA_n ?_
                  refine awp_seq ?_
                  refine awp_drawn_walk mixed (by decide) ?_
                  obtain ⟨hc_3471, h⟩ := ite_some h
                  obtain ⟨hc_3472, h⟩ := ite_some h
                  refine DGo.upto (by exact rfl) (by simp only [go_sem, seval, hb_3454T, hx_3462, hx_3462A, hx_3462B, hc_3471, hc_3472]; first | exact ⟨rfl, rfl⟩ | exact rfl) ?_
                  refine DGo.fin rfl ?_
                  refine thenA_n ?_
                  refine awp_region ?_
                  obtain ⟨hc_3473, h⟩ := ite_some h
                  refine AL_upto (by exact rfl) (by simp only [go_sem, seval, hb_3454T, hc_3473]; exact rfl) ?_
                  refine AL_nil ?_
                  refine blockA_n ?_
                  refine thenA_n ?_
                  refine awp_region ?_
                  refine AL_upto (by exact rfl) (by simp only [go_sem, seval, hb_3454T]; exact rfl) ?_
                  refine AL_nil ?_
                  cases h
                  refine ⟨rfl, ?_⟩
                  simp only [go_sem, seval, hb_3454T]
                  all_goals ((repeat' refine And.intro ?_ ?_) <;> first | rfl | (simp; done) | (simp; rfl) | (simp [*]; done) | (simp [*]; rfl))
                · rw [if_neg hb_3454] at h
                  have hb_3454T := eq_false hb_3454
                  refine awp_cf (by simp only [go_sem, seval, hb_3454T]) ?_
                  refine awp_exit ?_
                  refine thenA_exit ?_
                  cases h
                  refine ⟨rfl, ?_⟩
                  simp only [go_sem, seval, hb_3454T]
                  all_goals ((repeat' refine And.intro ?_ ?_) <;> first | rfl | (simp; done) | (simp; rfl) | (simp [*]; done) | (simp [*]; rfl))
              · intro e s' hT
                obtain ⟨out_3451, out_3452, out_3453⟩ := o_3474
                try simp only at h
                try simp only at hT
                obtain ⟨rfl, hle⟩ := hT
                refine Wk.to hle ?_
                clear hle
                refine blockA_here ?_
                refine thenA_n ?_
                refine awp_seq ?_
                refine awp_region ?_
                refine AL_upto (by exact rfl) (by simp only [go_sem, seval, hb_3174F, hb_3175F, hb_3178, hb_3181]; exact rfl) ?_
                refine AL_nil ?_
                refine thenA_n ?_
                refine awp_ret ?_
                cases h
                refine retQ_ret (by simp only [Tryz.results13]; simp only [go_sem, seval, hb_3174F, hb_3175F, hb_3178, hb_3181]; exact rfl) ?_
                simp only [go_sem, seval, hb_3174F, hb_3175F, hb_3178, hb_3181]
                all_goals ((repeat' refine And.intro ?_ ?_) <;> first | rfl | (simp; done) | (simp; rfl) | (simp [*]; done) | (simp [*]; rfl))
        · rw [if_neg hb_3181] at h
          have hb_3181F := Bool.eq_false_iff.2 hb_3181
          refine awp_ct (by simp only [go_sem, seval, hb_3174F, hb_3175F, hb_3178, hb_3181F]) ?_
          refine awp_seq ?_
          refine awp_region ?_
          refine AL_upto (by exact rfl) (by simp only [go_sem, seval, hb_3174F, hb_3175F, hb_3178, hb_3181F]; exact rfl) ?_
          refine AL_nil ?_
          refine thenA_n ?_
          refine awp_ret ?_
          refine thenA_ret ?_
          cases h
          refine retQ_ret (by simp only [Tryz.results13]; simp only [go_sem, seval, hb_3174F, hb_3175F, hb_3178, hb_3181F]; exact rfl) ?_
          simp only [go_sem, seval, hb_3174F, hb_3175F, hb_3178, hb_3181F]
          all_goals ((repeat' refine And.intro ?_ ?_) <;> first | rfl | (simp; done) | (simp; rfl) | (simp [*]; done) | (simp [*]; rfl))
      · rw [if_neg hb_3178] at h
        have hb_3178F := Bool.eq_false_iff.2 hb_3178
        refine AL_known (d := 31) (v := .p (.bool true)) (by simp only [go_sem, seval, hb_3174F, hb_3175F, hb_3178F]) ?_
        refine AL_skips (by exact rfl) ?_
        refine AL_upto (by exact rfl) (by simp only [go_sem, seval, hb_3174F, hb_3175F, hb_3178F]; exact rfl) ?_
        refine AL_nil ?_
        refine thenA_n ?_
        refine awp_ct (by simp only [go_sem, seval, hb_3174F, hb_3175F, hb_3178F]) ?_
        refine awp_seq ?_
        refine awp_region ?_
        refine AL_upto (by exact rfl) (by simp only [go_sem, seval, hb_3174F, hb_3175F, hb_3178F]; exact rfl) ?_
        refine AL_nil ?_
        refine thenA_n ?_
        refine awp_ret ?_
        refine thenA_ret ?_
        cases h
        refine retQ_ret (by simp only [Tryz.results13]; simp only [go_sem, seval, hb_3174F, hb_3175F, hb_3178F]; exact rfl) ?_
        simp only [go_sem, seval, hb_3174F, hb_3175F, hb_3178F]
        all_goals ((repeat' refine And.intro ?_ ?_) <;> first | rfl | (simp; done) | (simp; rfl) | (simp [*]; done) | (simp [*]; rfl))
end Go.Proofs.YtdmddoljldjjeaaGreat
set_option linter.unusedVariables false
set_option linter.unusedSimpArgs false
namespace Go.Proofs.YtdmddoljldjjeaaGreat
open Go Go.Ab
set_option maxHeartbeats 4000000 in
theorem drossref03_Strings_con (a_3480 : List (List UInt8)) (b_3481 : List (List UInt8)) (r_3507 : Bool) (h : drossref03_Strings a_3480 b_3481 = some r_3507) : Con Tryz.prog 58 [(.slc (List.map PV.str a_3480)), (.slc (List.map PV.str b_3481))] (.bool r_3507) := by
  refine ⟨Tryz.call58, ?_⟩
  refine pure_of_awp Tryz.func58 rfl Tryz.ntmps58 (by simp) fun X w => ?_
  show AWp _ _ _ ⟨[(0, .p (.slc (List.map PV.str a_3480))), (1, .p (.slc (List.map PV.str b_3481)))], []⟩
  simp only [drossref03_Strings] at h
  refine awp_seq ?_
  refine awp_region ?_
  refine AL_upto (by exact rfl) (by simp only [go_sem, seval]; exact rfl) ?_
  refine AL_nil ?_
  refine thenA_n ?_
  refine awp_seq ?_
  refine awp_seq ?_
  refine awp_region ?_
  refine AL_upto (by exact rfl) (by simp only [go_sem, seval]; exact rfl) ?_
  refine AL_nil ?_
  refine thenA_n ?_
  by_cases hb_3482 : ((a_3480.length : Int) != (b_3481.length : Int)) = true
  · rw [if_pos hb_3482] at h
    refine awp_ct (by simp only [go_sem, seval, hb_3482]) ?_
    refine awp_seq ?_
    refine awp_region ?_
    refine AL_upto (by exact rfl) (by simp only [go_sem, seval, hb_3482]; exact rfl) ?_
    refine AL_nil ?_
    refine thenA_n ?_
    refine awp_ret ?_
    refine thenA_ret ?_
    cases h
    refine retQ_ret (by simp only [Tryz.results58]; simp only [go_sem, seval, hb_3482]; exact rfl) ?_
    simp only [go_sem, seval, hb_3482]
    all_goals ((repeat' refine And.intro ?_ ?_) <;> first | rfl | (simp; done) | (simp; rfl) | (simp [*]; done) | (simp [*]; rfl))
  · rw [if_neg hb_3482] at h
    have hb_3482F := Bool.eq_false_iff.2 hb_3482
    refine awp_cf (by simp only [go_sem, seval, hb_3482F]) ?_
    refine awp_skip ?_
    refine thenA_n ?_
    refine awp_seq ?_
    refine awp_seq ?_
    refine awp_region ?_
    refine AL_upto (by exact rfl) (by simp only [go_sem, seval, hb_3482F]; exact rfl) ?_
    refine AL_nil ?_
    refine thenA_n ?_
    refine awp_block ?_
    obtain ⟨o_3502, hL_3503, h⟩ := Option.bind_eq_some_iff.1 h
    refine awp_loop_L (fun (s : Int) => ⟨[(0, .p (.slc (List.map PV.str a_3480))), (1, .p (.slc (List.map PV.str b_3481))), (5, .p (.int .i64 s))], []⟩) (fun (o : (Unit) ⊕ (Bool)) (e : Exit) (s' : St) => match o with | .inl o_3505 => e = (.exit 0) ∧ Le ⟨Tryz.prog, Tryz.f58.ntmps, 0, X, [], fun _ => none, w⟩ s' ⟨[], []⟩ | .inr o_3506 => e = .ret ∧ retQ Tryz.prog Tryz.f58 (.bool o_3506) .ret s') (by intro o s hT; rcases o with _ | _ <;> (have hh := hT.1; cases hh)) hL_3503 (by simp only [go_sem, seval, hb_3482F]; all_goals ((repeat' refine And.intro ?_ ?_) <;> first | rfl | (simp; done) | (simp; rfl) | (simp [*]; done) | (simp [*]; rfl))) ?_ ?_
    · clear h
      intro i_3489 x h
      simp only [drossref03_Strings_l1] at h
      show AWp _ _ _ ⟨[(0, .p (.slc (List.map PV.str a_3480))), (1, .p (.slc (List.map PV.str b_3481))), (5, .p (.int .i64 i_3489))], []⟩
      refine awp_seq ?_
      refine awp_seq ?_
      refine awp_region ?_
      refine AL_upto (by exact rfl) (by simp only [go_sem, seval]; exact rfl) ?_
      refine AL_nil ?_
      refine thenA_n ?_
      by_cases hb_3496 : i_3489 < (a_3480.length : Int)
      · rw [if_pos hb_3496] at h
        have hb_3496T := eq_true hb_3496
        refine awp_ct (by simp only [go_sem, seval, hb_3496T]) ?_
        refine awp_skip ?_
        refine thenA_n ?_
        refine awp_seq ?_
        refine awp_block ?_
        refine awp_seq ?_
        refine awp_drawn_walk mixed (by decide) ?_
        obtain ⟨x_3497, hx_3498, h⟩ := Option.bind_eq_some_iff.1 h
        obtain ⟨hx_3498a, hx_3498, hx_3498b⟩ := idx_some hx_3498
        have hx_3498A := eq_true hx_3498a
        have hx_3498B := eq_true hx_3498b
        obtain ⟨x_3499, hx_3500, h⟩ := Option.bind_eq_some_iff.1 h
        obtain ⟨hx_3500a, hx_3500, hx_3500b⟩ := idx_some hx_3500
        have hx_3500A := eq_true hx_3500a
        have hx_3500B := eq_true hx_3500b
        refine DGo.upto (by exact rfl) (by simp only [go_sem, seval, hb_3496T, hx_3498, hx_3498A, hx_3498B, hx_3500, hx_3500A, hx_3500B]; first | exact ⟨rfl, rfl⟩ | exact rfl) ?_
        refine DGo.fin rfl ?_
        refine thenA_n ?_
        by_cases hb_3501 : (x_3497 == x_3499) = true
        · rw [if_pos hb_3501] at h
          refine awp_cf (by simp only [go_sem, seval, hb_3496T, hb_3501]) ?_
          refine awp_skip ?_
          refine blockA_n ?_
          refine thenA_n ?_
          refine awp_region ?_
          refine AL_upto (by exact rfl) (by simp only [go_sem, seval, hb_3496T, hb_3501]; exact rfl) ?_
          refine AL_nil ?_
          cases h
          refine ⟨rfl, ?_⟩
          simp only [go_sem, seval, hb_3496T, hb_3501]
          all_goals ((repeat' refine And.intro ?_ ?_) <;> first | rfl | (simp; done) | (simp; rfl) | (simp [*]; done) | (simp [*]; rfl))
        · rw [if_neg hb_3501] at h
          have hb_3501F := Bool.eq_false_iff.2 hb_3501
          refine awp_ct (by simp only [go_sem, seval, hb_3496T, hb_3501F]) ?_
          refine awp_seq ?_
          refine awp_region ?_
          refine AL_upto (by exact rfl) (by simp only [go_sem, seval, hb_3496T, hb_3501F]; exact rfl) ?_
          refine AL_nil ?_
          refine thenA_n ?_
          refine awp_ret ?_
          refine blockA_ret ?_
          refine thenA_ret ?_
          cases h
          refine ⟨rfl, ?_⟩
          refine retQ_ret (by simp only [Tryz.results58]; simp only [go_sem, seval, hb_3496T, hb_3501F]; exact rfl) ?_
          simp only [go_sem, seval, hb_3496T, hb_3501F]
          all_goals ((repeat' refine And.intro ?_ ?_) <;> first | rfl | (simp; done) | (simp; rfl) | (simp [*]; done) | (simp [*]; rfl))
      · rw [if_neg hb_3496] at h
        have hb_3496T := eq_false hb_3496
        refine awp_cf (by simp only [go_sem, seval, hb_3496T]) ?_
        refine awp_exit ?_
        refine thenA_exit ?_
        cases h
        refine ⟨rfl, ?_⟩
        simp only [go_sem, seval, hb_3496T]
        all_goals ((repeat' refine And.intro ?_ ?_) <;> first | rfl | (simp; done) | (simp; rfl) | (simp [*]; done) | (simp [*]; rfl))
    · intro e s' hT
      rcases o_3502 with ⟨⟩ | r_3504
      · try simp only at h
        try simp only at hT
        obtain ⟨rfl, hle⟩ := hT
        refine Wk.to hle ?_
        clear hle
        refine blockA_here ?_
        refine thenA_n ?_
        refine awp_seq ?_
        refine awp_region ?_
        refine AL_upto (by exact rfl) (by simp only [go_sem, seval, hb_3482F]; exact rfl) ?_
        refine AL_nil ?_
        refine thenA_n ?_
        refine awp_ret ?_
        cases h
        refine retQ_ret (by simp only [Tryz.results58]; simp only [go_sem, seval, hb_3482F]; exact rfl) ?_
        simp only [go_sem, seval, hb_3482F]
        all_goals ((repeat' refine And.intro ?_ ?_) <;> first | rfl | (simp; done) | (simp; rfl) | (simp [*]; done) | (simp [*]; rfl))
      · try simp only at h
        try simp only at hT
        obtain ⟨rfl, hq⟩ := hT
        refine Wk.now ?_
        refine blockA_ret ?_
        refine thenA_ret ?_
        cases h
        exact hq
end Go.Proofs.YtdmddoljldjjeaaGreat
set_option linter.unusedVariables false
set_option linter.unusedSimpArgs false
namespace Go.Proofs.YtdmddoljldjjeaaGreat
open Go Go.Ab
set_option maxHeartbeats 4000000 in
theorem drossref01_Lists_con (a_3508 : List Value) (b_3509 : List Value) (r_3545 : Int) (h : drossref01_Lists a_3508 b_3509 = some r_3545) : Con Tryz.prog 136 [(.slc (List.map encValue a_3508)), (.slc (List.map encValue b_3509))] (.int .i64 r_3545) := by
  refine ⟨Tryz.call136, ?_⟩
  refine pure_of_awp Tryz.func136 rfl Tryz.ntmps136 (by simp) fun X w => ?_
  show AWp _ _ _ ⟨[(0, .p (.slc (List.map encValue a_3508))), (1, .p (.slc (List.map encValue b_3509)))], []⟩
  simp only [drossref01_Lists] at h
  refine awp_seq ?_
  refine awp_region ?_
  refine AL_upto (by exact rfl) (by simp only [go_sem, seval]; exact rfl) ?_
  refine AL_nil ?_
  refine thenA_n ?_
  refine awp_seq ?_
  refine awp_seq ?_
  refine awp_region ?_
  refine AL_upto (by exact rfl) (by simp only [go_sem, seval]; exact rfl) ?_
  refine AL_nil ?_
  refine thenA_n ?_
  refine awp_block ?_
  obtain ⟨o_3538, hL_3539, h⟩ := Option.bind_eq_some_iff.1 h
  refine awp_loop_L (fun (s : Int) => ⟨[(0, .p (.slc (List.map encValue a_3508))), (1, .p (.slc (List.map encValue b_3509))), (5, .p (.int .i64 s))], []⟩) (fun (o : (Unit) ⊕ (Int)) (e : Exit) (s' : St) => match o with | .inl o_3543 => e = (.exit 0) ∧ Le ⟨Tryz.prog, Tryz.f136.ntmps, 0, X, [], fun _ => none, w⟩ s' ⟨[(0, .p (.slc (List.map encValue a_3508))), (1, .p (.slc (List.map encValue b_3509)))], []⟩ | .inr o_3544 => e = .ret ∧ retQ Tryz.prog Tryz.f136 (.int .i64 o_3544) .ret s') (by intro o s hT; rcases o with _ | _ <;> (have hh := hT.1; cases hh)) hL_3539 (by simp only [go_sem, seval]; all_goals ((repeat' refine And.intro ?_ ?_) <;> first | rfl | (simp; done) | (simp; rfl) | (simp [*]; done) | (simp [*]; rfl))) ?_ ?_
  · clear h
    intro i_3519 x h
    simp only [drossref01_Lists_l1] at h
    show AWp _ _ _ ⟨[(0, .p (.slc (List.map encValue a_3508))), (1, .p (.slc (List.map encValue b_3509))), (5, .p (.int .i64 i_3519))], []⟩
    refine awp_seq ?_
    refine awp_seq ?_
    refine awp_region ?_
    refine AL_upto (by exact rfl) (by simp only [go_sem, seval]; exact rfl) ?_
    by_cases hb_3529 : i_3519 < (a_3508.length : Int)
    · rw [if_pos hb_3529] at h
      have hb_3529T := eq_true hb_3529
      refine AL_known (d := 11) (v := .p (.bool true)) (by simp only [go_sem, seval, hb_3529T]) ?_
      refine AL_gt' (guard_true' rfl rfl (by exact rfl) (by exact rfl)) rfl (by simp only [go_sem, seval, hb_3529T]; exact rfl) ?_
      refine AL_gt' (guard_true' rfl rfl (by exact rfl) (by exact rfl)) rfl (by simp only [go_sem, seval, hb_3529T]; exact rfl) ?_
      refine AL_gt' (guard_true' rfl rfl (by exact rfl) (by exact rfl)) rfl (by simp only [go_sem, seval, hb_3529T]; exact rfl) ?_
      refine AL_gt' (guard_true' rfl rfl (by exact rfl) (by exact rfl)) rfl (by simp only [go_sem, seval, hb_3529T]; exact rfl) ?_
      refine AL_upto (by exact rfl) (by simp only [go_sem, seval, hb_3529T]; exact rfl) ?_
      refine AL_nil ?_
      refine thenA_n ?_
      by_cases hb_3530 : i_3519 < (b_3509.length : Int)
      · rw [if_pos hb_3530] at h
        have hb_3530T := eq_true hb_3530
        refine awp_ct (by simp only [go_sem, seval, hb_3529T, hb_3530T]) ?_
        refine awp_skip ?_
        refine thenA_n ?_
        refine awp_seq ?_
        refine awp_block ?_
        refine awp_seq ?_
        refine awp_drawn_walk mixed (by decide) ?_
        obtain ⟨x_3531, hx_3532, h⟩ := Option.bind_eq_some_iff.1 h
        obtain ⟨hx_3532a, hx_3532, hx_3532b⟩ := idx_some hx_3532
        have hx_3532A := eq_true hx_3532a
        have hx_3532B := eq_true hx_3532b
        obtain ⟨x_3533, hx_3534, h⟩ := Option.bind_eq_some_iff.1 h
        obtain ⟨hx_3534a, hx_3534, hx_3534b⟩ := idx_some hx_3534
        have hx_3534A := eq_true hx_3534a
        have hx_3534B := eq_true hx_3534b
        refine DGo.upto (by exact rfl) (by simp only [go_sem, seval, hb_3529T, hb_3530T, hx_3532, hx_3532A, hx_3532B, hx_3534, hx_3534A, hx_3534B]; first | exact ⟨rfl, rfl⟩ | exact rfl) ?_
        obtain ⟨r_3535, hr_3536, h⟩ := Option.bind_eq_some_iff.1 h
        refine DGo.con' rfl (guard_none rfl) rfl (by simp only [go_sem, seval, hb_3529T, hb_3530T]; exact rfl) (by simp only [go_sem, seval, hb_3529T, hb_3530T]; all_goals ((repeat' refine And.intro ?_ ?_) <;> first | rfl | (simp; done) | (simp; rfl) | (simp [*]; done) | (simp [*]; rfl))) (by simp only [go_sem, seval, hb_3529T, hb_3530T]; exact rfl) (drossref01_Compare_con x_3531 x_3533 _ hr_3536) (.inr rfl) rfl ?_
        refine DGo.upto (by exact rfl) (by simp only [go_sem, seval, hb_3529T, hb_3530T]; first | exact ⟨rfl, rfl⟩ | exact rfl) ?_
        refine DGo.fin rfl ?_
        refine thenA_n ?_
        refine awp_seq ?_
        refine awp_region ?_
        refine AL_upto (by exact rfl) (by simp only [go_sem, seval, hb_3529T, hb_3530T]; exact rfl) ?_
        refine AL_nil ?_
        refine thenA_n ?_
        by_cases hb_3537 : (r_3535 != 0) = true
        · rw [if_pos hb_3537] at h
          refine awp_ct (by simp only [go_sem, seval, hb_3529T, hb_3530T, hb_3537]) ?_
          refine awp_seq ?_
          refine awp_region ?_
          refine AL_upto (by exact rfl) (by simp only [go_sem, seval, hb_3529T, hb_3530T, hb_3537]; exact rfl) ?_
          refine AL_nil ?_
          refine thenA_n ?_
          refine awp_ret ?_
          refine blockA_ret ?_
          refine thenA_ret ?_
          cases h
          refine ⟨rfl, ?_⟩
          refine retQ_ret (by simp only [Tryz.results136]; simp only [go_sem, seval, hb_3529T, hb_3530T, hb_3537]; exact rfl) ?_
          simp only [go_sem, seval, hb_3529T, hb_3530T, hb_3537]
          all_goals ((repeat' refine And.intro ?_ ?_) <;> first | rfl | (simp; done) | (simp; rfl) | (simp [*]; done) | (simp [*]; rfl))
        · rw [if_neg hb_3537] at h
          have hb_3537F := Bool.eq_false_iff.2 hb_3537
          refine awp_cf (by simp only [go_sem, seval, hb_3529T, hb_3530T, hb_3537F]) ?_
          refine awp_skip ?_
          refine blockA_n ?_
          refine thenA_n ?_
          refine awp_region ?_
          refine AL_upto (by exact rfl) (by simp only [go_sem, seval, hb_3529T, hb_3530T, hb_3537F]; exact rfl) ?_
          refine AL_nil ?_
          cases h
          refine ⟨rfl, ?_⟩
          simp only [go_sem, seval, hb_3529T, hb_3530T, hb_3537F]
          all_goals ((repeat' refine And.intro ?_ ?_) <;> first | rfl | (simp; done) | (simp; rfl) | (simp [*]; done) | (simp [*]; rfl))
      · rw [if_neg hb_3530] at h
        have hb_3530T := eq_false hb_3530
        refine awp_cf (by simp only [go_sem, seval, hb_3529T, hb_3530T]) ?_
        refine awp_exit ?_
        refine thenA_exit ?_
        cases h
        refine ⟨rfl, ?_⟩
        simp only [go_sem, seval, hb_3529T, hb_3530T]
        all_goals ((repeat' refine And.intro ?_ ?_) <;> first | rfl | (simp; done) | (simp; rfl) | (simp [*]; done) | (simp [*]; rfl))
    · rw [if_neg hb_3529] at h
      have hb_3529T := eq_false hb_3529
      refine AL_known (d := 11) (v := .p (.bool false)) (by simp only [go_sem, seval, hb_3529T]) ?_
      refine AL_skips (by exact rfl) ?_
      refine AL_upto (by exact rfl) (by simp only [go_sem, seval, hb_3529T]; exact rfl) ?_
      refine AL_nil ?_
      refine thenA_n ?_
      refine awp_cf (by simp only [go_sem, seval, hb_3529T]) ?_
      refine awp_exit ?_
      refine thenA_exit ?_
      cases h
      refine ⟨rfl, ?_⟩
      simp only [go_sem, seval, hb_3529T]
      all_goals ((repeat' refine And.intro ?_ ?_) <;> first | rfl | (simp; done) | (simp; rfl) | (simp [*]; done) | (simp [*]; rfl))
  · intro e s' hT
    rcases o_3538 with ⟨⟩ | r_3542
    · try simp only at h
      try simp only at hT
      obtain ⟨rfl, hle⟩ := hT
      refine Wk.to hle ?_
      clear hle
      refine blockA_here ?_
      refine thenA_n ?_
      refine awp_seq ?_
      refine awp_region ?_
      refine AL_upto (by exact rfl) (by simp only [go_sem, seval]; exact rfl) ?_
      obtain ⟨r_3540, hr_3541, h⟩ := Option.bind_eq_some_iff.1 h
      refine AL_con' rfl (guard_none rfl) rfl (by simp only [go_sem, seval]; exact rfl) (by simp only [go_sem, seval]; all_goals ((repeat' refine And.intro ?_ ?_) <;> first | rfl | (simp; done) | (simp; rfl) | (simp [*]; done) | (simp [*]; rfl))) (drossref01_sign_con (a_3508.length : Int) (b_3509.length : Int) _ hr_3541) (.inr rfl) rfl ?_
      refine AL_upto (by exact rfl) (by simp only [go_sem, seval]; exact rfl) ?_
      refine AL_nil ?_
      refine thenA_n ?_
      refine awp_ret ?_
      cases h
      refine retQ_ret (by simp only [Tryz.results136]; simp only [go_sem, seval]; exact rfl) ?_
      simp only [go_sem, seval]
      all_goals ((repeat' refine And.intro ?_ ?_) <;> first | rfl | (simp; done) | (simp; rfl) | (simp [*]; done) | (simp [*]; rfl))
    · try simp only at h
      try simp only at hT
      obtain ⟨rfl, hq⟩ := hT
      refine Wk.now ?_
      refine blockA_ret ?_
      refine thenA_ret ?_
      cases h
      exact hq
end Go.Proofs.YtdmddoljldjjeaaGreat
set_option linter.unusedVariables false
set_option linter.unusedSimpArgs false
namespace Go.Proofs.YtdmddoljldjjeaaGreat
open Go Go.Ab
set_option maxHeartbeats 4000000 in
theorem drossref01_Same_con (a_3546 : List Value) (b_3547 : List Value) (r_3550 : Bool) (h : drossref01_Same a_3546 b_3547 = some r_3550) : Con Tryz.prog 100 [(.slc (List.map encValue a_3546)), (.slc (List.map encValue b_3547))] (.bool r_3550) := by
  refine ⟨Tryz.call100, ?_⟩
  refine pure_of_awp Tryz.func100 rfl Tryz.ntmps100 (by simp) fun X w => ?_
  show AWp _ _ _ ⟨[(0, .p (.slc (List.map encValue a_3546))), (1, .p (.slc (List.map encValue b_3547)))], []⟩
  simp only [drossref01_Same] at h
  refine awp_seq ?_
  refine awp_region ?_
  refine AL_upto (by exact rfl) (by simp only [go_sem, seval]; exact rfl) ?_
  refine AL_nil ?_
  refine thenA_n ?_
  refine awp_seq ?_
  refine awp_region ?_
  refine AL_upto (by exact rfl) (by simp only [go_sem, seval]; exact rfl) ?_
  obtain ⟨r_3548, hr_3549, h⟩ := Option.bind_eq_some_iff.1 h
  refine AL_con' rfl (guard_none rfl) rfl (by simp only [go_sem, seval]; exact rfl) (by simp only [go_sem, seval]; all_goals ((repeat' refine And.intro ?_ ?_) <;> first | rfl | (simp; done) | (simp; rfl) | (simp [*]; done) | (simp [*]; rfl))) (drossref01_Lists_con a_3546 b_3547 _ hr_3549) (.inr rfl) rfl ?_
  refine AL_upto (by exact rfl) (by simp only [go_sem, seval]; exact rfl) ?_
  refine AL_nil ?_
  refine thenA_n ?_
  refine awp_ret ?_
  cases h
  refine retQ_ret (by simp only [Tryz.results100]; simp only [go_sem, seval]; exact rfl) ?_
  simp only [go_sem, seval]
  all_goals ((repeat' refine And.intro ?_ ?_) <;> first | rfl | (simp; done) | (simp; rfl) | (simp [*]; done) | (simp [*]; rfl))
end Go.Proofs.YtdmddoljldjjeaaGreat
set_option linter.unusedVariables false
set_option linter.unusedSimpArgs false
namespace Go.Proofs.YtdmddoljldjjeaaGreat
open Go Go.Ab
set_option maxHeartbeats 4000000 in
theorem drossref03_EqualRows_con (a_3551 : Row) (b_3552 : Row) (r_3556 : Bool) (h : drossref03_EqualRows a_3551 b_3552 = some r_3556) : Con Tryz.prog 60 [(encRow a_3551), (encRow b_3552)] (.bool r_3556) := by
  refine ⟨Tryz.call60, ?_⟩
  refine pure_of_awp Tryz.func60 rfl Tryz.ntmps60 (by simp) fun X w => ?_
  show AWp _ _ _ ⟨[(0, .p (encRow a_3551)), (1, .p (encRow b_3552))], []⟩
  simp only [drossref03_EqualRows] at h
  refine awp_seq ?_
  refine awp_region ?_
  refine AL_upto (by exact rfl) (by simp only [go_sem, seval]; exact rfl) ?_
  refine AL_nil ?_
  refine thenA_n ?_
  refine awp_seq ?_
  refine awp_region ?_
  refine AL_upto (by exact rfl) (by simp only [go_sem, seval]; exact rfl) ?_
  by_cases hb_3553 : (a_3551.ID == b_3552.ID) = true
  · rw [if_pos hb_3553] at h
    refine AL_known (d := 10) (v := .p (.bool true)) (by simp only [go_sem, seval, hb_3553]) ?_
    refine AL_gt' (guard_true' rfl rfl (by exact rfl) (by exact rfl)) rfl (by simp only [go_sem, seval, hb_3553]; exact rfl) ?_
    refine AL_gt' (guard_true' rfl rfl (by exact rfl) (by exact rfl)) rfl (by simp only [go_sem, seval, hb_3553]; exact rfl) ?_
    refine AL_gt' (guard_true' rfl rfl (by exact rfl) (by exact rfl)) rfl (by simp only [go_sem, seval, hb_3553]; exact rfl) ?_
    refine AL_gt' (guard_true' rfl rfl (by exact rfl) (by exact rfl)) rfl (by simp only [go_sem, seval, hb_3553]; exact rfl) ?_
    obtain ⟨r_3554, hr_3555, h⟩ := Option.bind_eq_some_iff.1 h
    refine AL_con' rfl (guard_true' rfl rfl (by exact rfl) (by exact rfl)) rfl (by simp only [go_sem, seval, hb_3553]; exact rfl) (by simp only [go_sem, seval, hb_3553]; all_goals ((repeat' refine And.intro ?_ ?_) <;> first | rfl | (simp; done) | (simp; rfl) | (simp [*]; done) | (simp [*]; rfl))) (drossref01_Same_con a_3551.Values b_3552.Values _ hr_3555) (.inr rfl) rfl ?_
    refine AL_upto (by exact rfl) (by simp only [go_sem, seval, hb_3553]; exact rfl) ?_
    refine AL_nil ?_
    refine thenA_n ?_
    refine awp_ret ?_
    cases h
    refine retQ_ret (by simp only [Tryz.results60]; simp only [go_sem, seval, hb_3553]; exact rfl) ?_
    simp only [go_sem, seval, hb_3553]
    all_goals ((repeat' refine And.intro ?_ ?_) <;> first | rfl | (simp; done) | (simp; rfl) | (simp [*]; done) | (simp [*]; rfl))
  · rw [if_neg hb_3553] at h
    have hb_3553F := Bool.eq_false_iff.2 hb_3553
    refine AL_known (d := 10) (v := .p (.bool false)) (by simp only [go_sem, seval, hb_3553F]) ?_
    refine AL_skips (by exact rfl) ?_
    refine AL_upto (by exact rfl) (by simp only [go_sem, seval, hb_3553F]; exact rfl) ?_
    refine AL_nil ?_
    refine thenA_n ?_
    refine awp_ret ?_
    cases h
    refine retQ_ret (by simp only [Tryz.results60]; simp only [go_sem, seval, hb_3553F]; exact rfl) ?_
    simp only [go_sem, seval, hb_3553F]
    all_goals ((repeat' refine And.intro ?_ ?_) <;> first | rfl | (simp; done) | (simp; rfl) | (simp [*]; done) | (simp [*]; rfl))
end Go.Proofs.YtdmddoljldjjeaaGreat
set_option linter.unusedVariables false
set_option linter.unusedSimpArgs false
namespace Go.Proofs.YtdmddoljldjjeaaGreat
open Go Go.Ab
set_option maxHeartbeats 4000000 in
theorem drossref03_Equal_con (a_3557 : Table) (b_3558 : Table) (r_3594 : Bool) (h : drossref03_Equal a_3557 b_3558 = some r_3594) : Con Tryz.prog 25 [(encTable a_3557), (encTable b_3558)] (.bool r_3594) := by
  refine ⟨Tryz.call25, ?_⟩
  refine pure_of_awp Tryz.func25 rfl Tryz.ntmps25 (by simp) fun X w => ?_
  show AWp _ _ _ ⟨[(0, .p (encTable a_3557)), (1, .p (encTable b_3558))], []⟩
  simp only [drossref03_Equal] at h
  refine awp_seq ?_
  refine awp_region ?_
  refine AL_upto (by exact rfl) (by simp only [go_sem, seval]; exact rfl) ?_
  refine AL_nil ?_
  refine thenA_n ?_
  refine awp_seq ?_
  refine awp_seq ?_
  refine awp_region ?_
  refine AL_upto (by exact rfl) (by simp only [go_sem, seval]; exact rfl) ?_
  by_cases hb_3559 : (a_3557.Name == b_3558.Name) = true
  · rw [if_pos hb_3559] at h
    refine AL_known (d := 11) (v := .p (.bool false)) (by simp only [go_sem, seval, hb_3559]) ?_
    refine AL_gt' (guard_true' rfl rfl (by exact rfl) (by exact rfl)) rfl (by simp only [go_sem, seval, hb_3559]; exact rfl) ?_
    refine AL_gt' (guard_true' rfl rfl (by exact rfl) (by exact rfl)) rfl (by simp only [go_sem, seval, hb_3559]; exact rfl) ?_
    refine AL_gt' (guard_true' rfl rfl (by exact rfl) (by exact rfl)) rfl (by simp only [go_sem, seval, hb_3559]; exact rfl) ?_
    refine AL_gt' (guard_true' rfl rfl (by exact rfl) (by exact rfl)) rfl (by simp only [go_sem, seval, hb_3559]; exact rfl) ?_
    obtain ⟨r_3560, hr_3561, h⟩ := Option.bind_eq_some_iff.1 h
    refine AL_con' rfl (guard_true' rfl rfl (by exact rfl) (by exact rfl)) rfl (by simp only [go_sem, seval, hb_3559]; exact rfl) (by simp only [go_sem, seval, hb_3559]; all_goals ((repeat' refine And.intro ?_ ?_) <;> first | rfl | (simp; done) | (simp; rfl) | (simp [*]; done) | (simp [*]; rfl))) (drossref03_Strings_con a_3557.Attrs b_3558.Attrs _ hr_3561) (.inr rfl) rfl ?_
    refine AL_gt' (guard_true' rfl rfl (by exact rfl) (by exact rfl)) rfl (by simp only [go_sem, seval, hb_3559]; exact rfl) ?_
    refine AL_upto (by exact rfl) (by simp only [go_sem, seval, hb_3559]; exact rfl) ?_
    by_cases hb_3562 : r_3560 = true
    · rw [if_pos hb_3562] at h
      refine AL_known (d := 19) (v := .p (.bool false)) (by simp only [go_sem, seval, hb_3559, hb_3562]) ?_
      refine AL_gt' (guard_true' rfl rfl (by exact rfl) (by exact rfl)) rfl (by simp only [go_sem, seval, hb_3559, hb_3562]; exact rfl) ?_
      refine AL_gt' (guard_true' rfl rfl (by exact rfl) (by exact rfl)) rfl (by simp only [go_sem, seval, hb_3559, hb_3562]; exact rfl) ?_
      refine AL_gt' (guard_true' rfl rfl (by exact rfl) (by exact rfl)) rfl (by simp only [go_sem, seval, hb_3559, hb_3562]; exact rfl) ?_
      refine AL_gt' (guard_true' rfl rfl (by exact rfl) (by exact rfl)) rfl (by simp only [go_sem, seval, hb_3559, hb_3562]; exact rfl) ?_
      refine AL_gt' (guard_true' rfl rfl (by exact rfl) (by exact rfl)) rfl (by simp only [go_sem, seval, hb_3559, hb_3562]; exact rfl) ?_
      refine AL_gt' (guard_true' rfl rfl (by exact rfl) (by exact rfl)) rfl (by simp only [go_sem, seval, hb_3559, hb_3562]; exact rfl) ?_
      refine AL_gt' (guard_true' rfl rfl (by exact rfl) (by exact rfl)) rfl (by simp only [go_sem, seval, hb_3559, hb_3562]; exact rfl) ?_
      refine AL_upto (by exact rfl) (by simp only [go_sem, seval, hb_3559, hb_3562]; exact rfl) ?_
      refine AL_nil ?_
      refine thenA_n ?_
      by_cases hb_3563 : ((a_3557.Rows.length : Int) != (b_3558.Rows.length : Int)) = true
      · rw [if_pos hb_3563] at h
        refine awp_ct (by simp only [go_sem, seval, hb_3559, hb_3562, hb_3563]) ?_
        refine awp_seq ?_
        refine awp_region ?_
        refine AL_upto (by exact rfl) (by simp only [go_sem, seval, hb_3559, hb_3562, hb_3563]; exact rfl) ?_
        refine AL_nil ?_
        refine thenA_n ?_
        refine awp_ret ?_
        refine thenA_ret ?_
        cases h
        refine retQ_ret (by simp only [Tryz.results25]; simp only [go_sem, seval, hb_3559, hb_3562, hb_3563]; exact rfl) ?_
        simp only [go_sem, seval, hb_3559, hb_3562, hb_3563]
        all_goals ((repeat' refine And.intro ?_ ?_) <;> first | rfl | (simp; done) | (simp; rfl) | (simp [*]; done) | (simp [*]; rfl))
      · rw [if_neg hb_3563] at h
        have hb_3563F := Bool.eq_false_iff.2 hb_3563
        refine awp_cf (by simp only [go_sem, seval, hb_3559, hb_3562, hb_3563F]) ?_
        refine awp_skip ?_
        refine thenA_n ?_
        refine awp_seq ?_
        refine awp_seq ?_
        refine awp_region ?_
        refine AL_upto (by exact rfl) (by simp only [go_sem, seval, hb_3559, hb_3562, hb_3563F]; exact rfl) ?_
        refine AL_nil ?_
        refine thenA_n ?_
        refine awp_block ?_
        obtain ⟨o_3589, hL_3590, h⟩ := Option.bind_eq_some_iff.1 h
        refine awp_loop_L (fun (s : Int) => ⟨[(2, .loc 2 1 0 0), (3, .loc 3 1 0 0), (5, .p (.int .i64 s))], [(2, .arr 25 3 1 [.p (encTable a_3557)]), (3, .arr 25 3 1 [.p (encTable b_3558)])]⟩) (fun (o : (Unit) ⊕ (Bool)) (e : Exit) (s' : St) => match o with | .inl o_3592 => e = (.exit 0) ∧ Le ⟨Tryz.prog, Tryz.f25.ntmps, 0, X, [], fun _ => none, w⟩ s' ⟨[], []⟩ | .inr o_3593 => e = .ret ∧ retQ Tryz.prog Tryz.f25 (.bool o_3593) .ret s') (by intro o s hT; rcases o with _ | _ <;> (have hh := hT.1; cases hh)) hL_3590 (by simp only [go_sem, seval, hb_3559, hb_3562, hb_3563F]; all_goals ((repeat' refine And.intro ?_ ?_) <;> first | rfl | (simp; done) | (simp; rfl) | (simp [*]; done) | (simp [*]; rfl))) ?_ ?_
        · clear h
          intro i_3572 x h
          simp only [drossref03_Equal_l1] at h
          show AWp _ _ _ ⟨[(2, .loc 2 1 0 0), (3, .loc 3 1 0 0), (5, .p (.int .i64 i_3572))], [(2, .arr 25 3 1 [.p (encTable a_3557)]), (3, .arr 25 3 1 [.p (encTable b_3558)])]⟩
          refine awp_seq ?_
          refine awp_seq ?_
          refine awp_region ?_
          refine AL_upto (by exact rfl) (by simp only [go_sem, seval]; exact rfl) ?_
          refine AL_nil ?_
          refine thenA_n ?_
          by_cases hb_3581 : i_3572 < (a_3557.Rows.length : Int)
          · rw [if_pos hb_3581] at h
            have hb_3581T := eq_true hb_3581
            refine awp_ct (by simp only [go_sem, seval, hb_3581T]) ?_
            refine awp_skip ?_
            refine thenA_n ?_
            refine awp_seq ?_
            refine awp_block ?_
            refine awp_seq ?_
            refine awp_drawn_walk mixed (by decide) ?_
            obtain ⟨x_3582, hx_3583, h⟩ := Option.bind_eq_some_iff.1 h
            obtain ⟨hx_3583a, hx_3583, hx_3583b⟩ := idx_some hx_3583
            have hx_3583A := eq_true hx_3583a
            have hx_3583B := eq_true hx_3583b
            obtain ⟨x_3584, hx_3585, h⟩ := Option.bind_eq_some_iff.1 h
            obtain ⟨hx_3585a, hx_3585, hx_3585b⟩ := idx_some hx_3585
            have hx_3585A := eq_true hx_3585a
            have hx_3585B := eq_true hx_3585b
            refine DGo.upto (by exact rfl) (by simp only [go_sem, seval, hb_3581T, hx_3583, hx_3583A, hx_3583B, hx_3585, hx_3585A, hx_3585B]; first | exact ⟨rfl, rfl⟩ | exact rfl) ?_
            obtain ⟨r_3586, hr_3587, h⟩ := Option.bind_eq_some_iff.1 h
            refine DGo.con' rfl (guard_none rfl) rfl (by simp only [go_sem, seval, hb_3581T]; exact rfl) (by simp only [go_sem, seval, hb_3581T]; all_goals ((repeat' refine And.intro ?_ ?_) <;> first | rfl | (simp; done) | (simp; rfl) | (simp [*]; done) | (simp [*]; rfl))) (by simp only [go_sem, seval, hb_3581T]; exact rfl) (drossref03_EqualRows_con x_3582 x_3584 _ hr_3587) (.inr rfl) rfl ?_
            refine DGo.upto (by exact rfl) (by simp only [go_sem, seval, hb_3581T]; first | exact ⟨rfl, rfl⟩ | exact rfl) ?_
            refine DGo.fin rfl ?_
            refine thenA_n ?_
            by_cases hb_3588 : r_3586 = true
            · rw [if_pos hb_3588] at h
              refine awp_cf (by simp only [go_sem, seval, hb_3581T, hb_3588]) ?_
              refine awp_skip ?_
              refine blockA_n ?_
              refine thenA_n ?_
              refine awp_region ?_
              refine AL_upto (by exact rfl) (by simp only [go_sem, seval, hb_3581T, hb_3588]; exact rfl) ?_
              refine AL_nil ?_
              cases h
              refine ⟨rfl, ?_⟩
              simp only [go_sem, seval, hb_3581T, hb_3588]
              all_goals ((repeat' refine And.intro ?_ ?_) <;> first | rfl | (simp; done) | (simp; rfl) | (simp [*]; done) | (simp [*]; rfl))
            · rw [if_neg hb_3588] at h
              have hb_3588F := Bool.eq_false_iff.2 hb_3588
              refine awp_ct (by simp only [go_sem, seval, hb_3581T, hb_3588F]) ?_
              refine awp_seq ?_
              refine awp_region ?_
              refine AL_upto (by exact rfl) (by simp only [go_sem, seval, hb_3581T, hb_3588F]; exact rfl) ?_
              refine AL_nil ?_
              refine thenA_n ?_
              refine awp_ret ?_
              refine blockA_ret ?_
              refine thenA_ret ?_
              cases h
              refine ⟨rfl, ?_⟩
              refine retQ_ret (by simp only [Tryz.results25]; simp only [go_sem, seval, hb_3581T, hb_3588F]; exact rfl) ?_
              simp only [go_sem, seval, hb_3581T, hb_3588F]
              all_goals ((repeat' refine And.intro ?_ ?_) <;> first | rfl | (simp; done) | (simp; rfl) | (simp [*]; done) | (simp [*]; rfl))
          · rw [if_neg hb_3581] at h
            have hb_3581T := eq_false hb_3581
            refine awp_cf (by simp only [go_sem, seval, hb_3581T]) ?_
            refine awp_exit ?_
            refine thenA_exit ?_
            cases h
            refine ⟨rfl, ?_⟩
            simp only [go_sem, seval, hb_3581T]
            all_goals ((repeat' refine And.intro ?_ ?_) <;> first | rfl | (simp; done) | (simp; rfl) | (simp [*]; done) | (simp [*]; rfl))
        · intro e s' hT
          rcases o_3589 with ⟨⟩ | r_3591
          · try simp only at h
            try simp only at hT
            obtain ⟨rfl, hle⟩ := hT
            refine Wk.to hle ?_
            clear hle
            refine blockA_here ?_
            refine thenA_n ?_
            refine awp_seq ?_
            refine awp_region ?_
            refine AL_upto (by exact rfl) (by simp only [go_sem, seval, hb_3559, hb_3562, hb_3563F]; exact rfl) ?_
            refine AL_nil ?_
            refine thenA_n ?_
            refine awp_ret ?_
            cases h
            refine retQ_ret (by simp only [Tryz.results25]; simp only [go_sem, seval, hb_3559, hb_3562, hb_3563F]; exact rfl) ?_
            simp only [go_sem, seval, hb_3559, hb_3562, hb_3563F]
            all_goals ((repeat' refine And.intro ?_ ?_) <;> first | rfl | (simp; done) | (simp; rfl) | (simp [*]; done) | (simp [*]; rfl))
          · try simp only at h
            try simp only at hT
            obtain ⟨rfl, hq⟩ := hT
            refine Wk.now ?_
            refine blockA_ret ?_
            refine thenA_ret ?_
            cases h
            exact hq
    · rw [if_neg hb_3562] at h
      have hb_3562F := Bool.eq_false_iff.2 hb_3562
      refine AL_known (d := 19) (v := .p (.bool true)) (by simp only [go_sem, seval, hb_3559, hb_3562F]) ?_
      refine AL_skips (by exact rfl) ?_
      refine AL_upto (by exact rfl) (by simp only [go_sem, seval, hb_3559, hb_3562F]; exact rfl) ?_
      refine AL_nil ?_
      refine thenA_n ?_
      refine awp_ct (by simp only [go_sem, seval, hb_3559, hb_3562F]) ?_
      refine awp_seq ?_
      refine awp_region ?_
      refine AL_upto (by exact rfl) (by simp only [go_sem, seval, hb_3559, hb_3562F]; exact rfl) ?_
      refine AL_nil ?_
      refine thenA_n ?_
      refine awp_ret ?_
      refine thenA_ret ?_
      cases h
      refine retQ_ret (by simp only [Tryz.results25]; simp only [go_sem, seval, hb_3559, hb_3562F]; exact rfl) ?_
      simp only [go_sem, seval, hb_3559, hb_3562F]
      all_goals ((repeat' refine And.intro ?_ ?_) <;> first | rfl | (simp; done) | (simp; rfl) | (simp [*]; done) | (simp [*]; rfl))
  · rw [if_neg hb_3559] at h
    have hb_3559F := Bool.eq_false_iff.2 hb_3559
    refine AL_known (d := 11) (v := .p (.bool true)) (by simp only [go_sem, seval, hb_3559F]) ?_
    refine AL_skips (by exact rfl) ?_
    refine AL_upto (by exact rfl) (by simp only [go_sem, seval, hb_3559F]; exact rfl) ?_
    refine AL_skips (by exact rfl) ?_
    refine AL_upto (by exact rfl) (by simp only [go_sem, seval, hb_3559F]; exact rfl) ?_
    refine AL_nil ?_
    refine thenA_n ?_
    refine awp_ct (by simp only [go_sem, seval, hb_3559F]) ?_
    refine awp_seq ?_
    refine awp_region ?_
    refine AL_upto (by exact rfl) (by simp only [go_sem, seval, hb_3559F]; exact rfl) ?_
    refine AL_nil ?_
    refine thenA_n ?_
    refine awp_ret ?_
    refine thenA_ret ?_
    cases h
    refine retQ_ret (by simp only [Tryz.results25]; simp only [go_sem, seval, hb_3559F]; exact rfl) ?_
    simp only [go_sem, seval, hb_3559F]
    all_goals ((repeat' refine And.intro ?_ ?_) <;> first | rfl | (simp; done) | (simp; rfl) | (simp [*]; done) | (simp [*]; rfl))
end Go.Proofs.YtdmddoljldjjeaaGreat
set_option linter.unusedVariables false
set_option linter.unusedSimpArgs false
namespace Go.Proofs.YtdmddoljldjjeaaGreat
open Go Go.Ab
set_option maxHeartbeats 4000000 in
theorem drossref55_Lists_con (a_3595 : List (List Int)) (b_3596 : List (List Int)) (r_3628 : Bool) (h : drossref55_Lists a_3595 b_3596 = some r_3628) : Con Tryz.prog 47 [(.slc (List.map (encL (PV.int .i64)) a_3595)), (.slc (List.map (encL (PV.int .i64)) b_3596))] (.bool r_3628) := by
  refine ⟨Tryz.call47, ?_⟩
  refine pure_of_awp Tryz.func47 rfl Tryz.ntmps47 (by simp) fun X w => ?_
  show AWp _ _ _ ⟨[(0, .p (.slc (List.map (encL (PV.int .i64)) a_3595))), (1, .p (.slc (List.map (encL (PV.int .i64)) b_3596)))], []⟩
  simp only [drossref55_Lists] at h
  refine awp_seq ?_
  refine awp_region ?_
  refine AL_upto (by exact rfl) (by simp only [go_sem, seval]; exact rfl) ?_
  refine AL_nil ?_
  refine thenA_n ?_
  refine awp_seq ?_
  refine awp_seq ?_
  refine awp_region ?_
  refine AL_upto (by exact rfl) (by simp only [go_sem, seval]; exact rfl) ?_
  refine AL_nil ?_
  refine thenA_n ?_
  by_cases hb_3597 : ((a_3595.length : Int) != (b_3596.length : Int)) = true
  · rw [if_pos hb_3597] at h
    refine awp_ct (by simp only [go_sem, seval, hb_3597]) ?_
    refine awp_seq ?_
    refine awp_region ?_
    refine AL_upto (by exact rfl) (by simp only [go_sem, seval, hb_3597]; exact rfl) ?_
    refine AL_nil ?_
    refine thenA_n ?_
    refine awp_ret ?_
    refine thenA_ret ?_
    cases h
    refine retQ_ret (by simp only [Tryz.results47]; simp only [go_sem, seval, hb_3597]; exact rfl) ?_
    simp only [go_sem, seval, hb_3597]
    all_goals ((repeat' refine And.intro ?_ ?_) <;> first | rfl | (simp; done) | (simp; rfl) | (simp [*]; done) | (simp [*]; rfl))
  · rw [if_neg hb_3597] at h
    have hb_3597F := Bool.eq_false_iff.2 hb_3597
    refine awp_cf (by simp only [go_sem, seval, hb_3597F]) ?_
    refine awp_skip ?_
    refine thenA_n ?_
    refine awp_seq ?_
    refine awp_seq ?_
    refine awp_region ?_
    refine AL_upto (by exact rfl) (by simp only [go_sem, seval, hb_3597F]; exact rfl) ?_
    refine AL_nil ?_
    refine thenA_n ?_
    refine awp_block ?_
    obtain ⟨o_3623, hL_3624, h⟩ := Option.bind_eq_some_iff.1 h
    refine awp_loop_L (fun (s : Int) => ⟨[(0, .p (.slc (List.map (encL (PV.int .i64)) a_3595))), (1, .p (.slc (List.map (encL (PV.int .i64)) b_3596))), (5, .p (.int .i64 s))], []⟩) (fun (o : (Unit) ⊕ (Bool)) (e : Exit) (s' : St) => match o with | .inl o_3626 => e = (.exit 0) ∧ Le ⟨Tryz.prog, Tryz.f47.ntmps, 0, X, [], fun _ => none, w⟩ s' ⟨[], []⟩ | .inr o_3627 => e = .ret ∧ retQ Tryz.prog Tryz.f47 (.bool o_3627) .ret s') (by intro o s hT; rcases o with _ | _ <;> (have hh := hT.1; cases hh)) hL_3624 (by simp only [go_sem, seval, hb_3597F]; all_goals ((repeat' refine And.intro ?_ ?_) <;> first | rfl | (simp; done) | (simp; rfl) | (simp [*]; done) | (simp [*]; rfl))) ?_ ?_
    · clear h
      intro i_3606 x h
      simp only [drossref55_Lists_l1] at h
      show AWp _ _ _ ⟨[(0, .p (.slc (List.map (encL (PV.int .i64)) a_3595))), (1, .p (.slc (List.map (encL (PV.int .i64)) b_3596))), (5, .p (.int .i64 i_3606))], []⟩
      refine awp_seq ?_
      refine awp_seq ?_
      refine awp_region ?_
      refine AL_upto (by exact rfl) (by simp only [go_sem, seval]; exact rfl) ?_
      refine AL_nil ?_
      refine thenA_n ?_
      by_cases hb_3615 : i_3606 < (a_3595.length : Int)
      · rw [if_pos hb_3615] at h
        have hb_3615T := eq_true hb_3615
        refine awp_ct (by simp only [go_sem, seval, hb_3615T]) ?_
        refine awp_skip ?_
        refine thenA_n ?_
        refine awp_seq ?_
        refine awp_block ?_
        refine awp_seq ?_
        refine awp_drawn_walk mixed (by decide) ?_
        obtain ⟨x_3616, hx_3617, h⟩ := Option.bind_eq_some_iff.1 h
        obtain ⟨hx_3617a, hx_3617, hx_3617b⟩ := idx_some hx_3617
        have hx_3617A := eq_true hx_3617a
        have hx_3617B := eq_true hx_3617b
        obtain ⟨x_3618, hx_3619, h⟩ := Option.bind_eq_some_iff.1 h
        obtain ⟨hx_3619a, hx_3619, hx_3619b⟩ := idx_some hx_3619
        have hx_3619A := eq_true hx_3619a
        have hx_3619B := eq_true hx_3619b
        refine DGo.upto (by exact rfl) (by simp only [go_sem, seval, hb_3615T, hx_3617, hx_3617A, hx_3617B, hx_3619, hx_3619A, hx_3619B]; first | exact ⟨rfl, rfl⟩ | exact rfl) ?_
        obtain ⟨r_3620, hr_3621, h⟩ := Option.bind_eq_some_iff.1 h
        refine DGo.con' rfl (guard_none rfl) rfl (by simp only [go_sem, seval, hb_3615T]; exact rfl) (by simp only [go_sem, seval, hb_3615T]; all_goals ((repeat' refine And.intro ?_ ?_) <;> first | rfl | (simp; done) | (simp; rfl) | (simp [*]; done) | (simp [*]; rfl))) (by simp only [go_sem, seval, hb_3615T]; exact rfl) (drossref03_IDs_con x_3616 x_3618 _ hr_3621) (.inr rfl) rfl ?_
        refine DGo.upto (by exact rfl) (by simp only [go_sem, seval, hb_3615T]; first | exact ⟨rfl, rfl⟩ | exact rfl) ?_
        refine DGo.fin rfl ?_
        refine thenA_n ?_
        by_cases hb_3622 : r_3620 = true
        · rw [if_pos hb_3622] at h
          refine awp_cf (by simp only [go_sem, seval, hb_3615T, hb_3622]) ?_
          refine awp_skip ?_
          refine blockA_n ?_
          refine thenA_n ?_
          refine awp_region ?_
          refine AL_upto (by exact rfl) (by simp only [go_sem, seval, hb_3615T, hb_3622]; exact rfl) ?_
          refine AL_nil ?_
          cases h
          refine ⟨rfl, ?_⟩
          simp only [go_sem, seval, hb_3615T, hb_3622]
          all_goals ((repeat' refine And.intro ?_ ?_) <;> first | rfl | (simp; done) | (simp; rfl) | (simp [*]; done) | (simp [*]; rfl))
        · rw [if_neg hb_3622] at h
          have hb_3622F := Bool.eq_false_iff.2 hb_3622
          refine awp_ct (by simp only [go_sem, seval, hb_3615T, hb_3622F]) ?_
          refine awp_seq ?_
          refine awp_region ?_
          refine AL_upto (by exact rfl) (by simp only [go_sem, seval, hb_3615T, hb_3622F]; exact rfl) ?_
          refine AL_nil ?_
          refine thenA_n ?_
          refine awp_ret ?_
          refine blockA_ret ?_
          refine thenA_ret ?_
          cases h
          refine ⟨rfl, ?_⟩
          refine retQ_ret (by simp only [Tryz.results47]; simp only [go_sem, seval, hb_3615T, hb_3622F]; exact rfl) ?_
          simp only [go_sem, seval, hb_3615T, hb_3622F]
          all_goals ((repeat' refine And.intro ?_ ?_) <;> first | rfl | (simp; done) | (simp; rfl) | (simp [*]; done) | (simp [*]; rfl))
      · rw [if_neg hb_3615] at h
        have hb_3615T := eq_false hb_3615
        refine awp_cf (by simp only [go_sem, seval, hb_3615T]) ?_
        refine awp_exit ?_
        refine thenA_exit ?_
        cases h
        refine ⟨rfl, ?_⟩
        simp only [go_sem, seval, hb_3615T]
        all_goals ((repeat' refine And.intro ?_ ?_) <;> first | rfl | (simp; done) | (simp; rfl) | (simp [*]; done) | (simp [*]; rfl))
    · intro e s' hT
      rcases o_3623 with ⟨⟩ | r_3625
      · try simp only at h
        try simp only at hT
        obtain ⟨rfl, hle⟩ := hT
        refine Wk.to hle ?_
        clear hle
        refine blockA_here ?_
        refine thenA_n ?_
        refine awp_seq ?_
        refine awp_region ?_
        refine AL_upto (by exact rfl) (by simp only [go_sem, seval, hb_3597F]; exact rfl) ?_
        refine AL_nil ?_
        refine thenA_n ?_
        refine awp_ret ?_
        cases h
        refine retQ_ret (by simp only [Tryz.results47]; simp only [go_sem, seval, hb_3597F]; exact rfl) ?_
        simp only [go_sem, seval, hb_3597F]
        all_goals ((repeat' refine And.intro ?_ ?_) <;> first | rfl | (simp; done) | (simp; rfl) | (simp [*]; done) | (simp [*]; rfl))
      · try simp only at h
        try simp only at hT
        obtain ⟨rfl, hq⟩ := hT
        refine Wk.now ?_
        refine blockA_ret ?_
        refine thenA_ret ?_
        cases h
        exact hq
end Go.Proofs.YtdmddoljldjjeaaGreat
set_option linter.unusedVariables false
set_option linter.unusedSimpArgs false
namespace Go.Proofs.YtdmddoljldjjeaaGreat
open Go Go.Ab
set_option maxHeartbeats 4000000 in
theorem drossref55_Same_con (a_3629 : Merged) (b_3630 : Merged) (r_3639 : Bool) (h : drossref55_Same a_3629 b_3630 = some r_3639) : Con Tryz.prog 14 [(encMerged a_3629), (encMerged b_3630)] (.bool r_3639) := by
  refine ⟨Tryz.call14, ?_⟩
  refine pure_of_awp Tryz.func14 rfl Tryz.ntmps14 (by simp) fun X w => ?_
  show AWp _ _ _ ⟨[(0, .p (encMerged a_3629)), (1, .p (encMerged b_3630))], []⟩
  simp only [drossref55_Same] at h
  refine awp_seq ?_
  refine awp_region ?_
  refine AL_upto (by exact rfl) (by simp only [go_sem, seval]; exact rfl) ?_
  refine AL_nil ?_
  refine thenA_n ?_
  refine awp_seq ?_
  refine awp_region ?_
  refine AL_upto (by exact rfl) (by simp only [go_sem, seval]; exact rfl) ?_
  obtain ⟨r_3631, hr_3632, h⟩ := Option.bind_eq_some_iff.1 h
  refine AL_con' rfl (guard_none rfl) rfl (by simp only [go_sem, seval]; exact rfl) (by simp only [go_sem, seval]; all_goals ((repeat' refine And.intro ?_ ?_) <;> first | rfl | (simp; done) | (simp; rfl) | (simp [*]; done) | (simp [*]; rfl))) (drossref03_Equal_con a_3629.Table b_3630.Table _ hr_3632) (.inr rfl) rfl ?_
  refine AL_upto (by exact rfl) (by simp only [go_sem, seval]; exact rfl) ?_
  by_cases hb_3633 : r_3631 = true
  · rw [if_pos hb_3633] at h
    refine AL_known (d := 10) (v := .p (.bool true)) (by simp only [go_sem, seval, hb_3633]) ?_
    refine AL_gt' (guard_true' rfl rfl (by exact rfl) (by exact rfl)) rfl (by simp only [go_sem, seval, hb_3633]; exact rfl) ?_
    refine AL_gt' (guard_true' rfl rfl (by exact rfl) (by exact rfl)) rfl (by simp only [go_sem, seval, hb_3633]; exact rfl) ?_
    refine AL_gt' (guard_true' rfl rfl (by exact rfl) (by exact rfl)) rfl (by simp only [go_sem, seval, hb_3633]; exact rfl) ?_
    refine AL_gt' (guard_true' rfl rfl (by exact rfl) (by exact rfl)) rfl (by simp only [go_sem, seval, hb_3633]; exact rfl) ?_
    obtain ⟨r_3634, hr_3635, h⟩ := Option.bind_eq_some_iff.1 h
    refine AL_con' rfl (guard_true' rfl rfl (by exact rfl) (by exact rfl)) rfl (by simp only [go_sem, seval, hb_3633]; exact rfl) (by simp only [go_sem, seval, hb_3633]; all_goals ((repeat' refine And.intro ?_ ?_) <;> first | rfl | (simp; done) | (simp; rfl) | (simp [*]; done) | (simp [*]; rfl))) (drossref55_Lists_con a_3629.Clusters b_3630.Clusters _ hr_3635) (.inr rfl) rfl ?_
    refine AL_upto (by exact rfl) (by simp only [go_sem, seval, hb_3633]; exact rfl) ?_
    by_cases hb_3636 : r_3634 = true
    · rw [if_pos hb_3636] at h
      refine AL_known (d := 17) (v := .p (.bool true)) (by simp only [go_sem, seval, hb_3633, hb_3636]) ?_
      refine AL_gt' (guard_true' rfl rfl (by exact rfl) (by exact rfl)) rfl (by simp only [go_sem, seval, hb_3633, hb_3636]; exact rfl) ?_
      refine AL_gt' (guard_true' rfl rfl (by exact rfl) (by exact rfl)) rfl (by simp only [go_sem, seval, hb_3633, hb_3636]; exact rfl) ?_
      refine AL_gt' (guard_true' rfl rfl (by exact rfl) (by exact rfl)) rfl (by simp only [go_sem, seval, hb_3633, hb_3636]; exact rfl) ?_
      refine AL_gt' (guard_true' rfl rfl (by exact rfl) (by exact rfl)) rfl (by simp only [go_sem, seval, hb_3633, hb_3636]; exact rfl) ?_
      obtain ⟨r_3637, hr_3638, h⟩ := Option.bind_eq_some_iff.1 h
      refine AL_con' rfl (guard_true' rfl rfl (by exact rfl) (by exact rfl)) rfl (by simp only [go_sem, seval, hb_3633, hb_3636]; exact rfl) (by simp only [go_sem, seval, hb_3633, hb_3636]; all_goals ((repeat' refine And.intro ?_ ?_) <;> first | rfl | (simp; done) | (simp; rfl) | (simp [*]; done) | (simp [*]; rfl))) (drossref55_Lists_con a_3629.Origins b_3630.Origins _ hr_3638) (.inr rfl) rfl ?_
      refine AL_upto (by exact rfl) (by simp only [go_sem, seval, hb_3633, hb_3636]; exact rfl) ?_
      refine AL_nil ?_
      refine thenA_n ?_
      refine awp_ret ?_
      cases h
      refine retQ_ret (by simp only [Tryz.results14]; simp only [go_sem, seval, hb_3633, hb_3636]; exact rfl) ?_
      simp only [go_sem, seval, hb_3633, hb_3636]
      all_goals ((repeat' refine And.intro ?_ ?_) <;> first | rfl | (simp; done) | (simp; rfl) | (simp [*]; done) | (simp [*]; rfl))
    · rw [if_neg hb_3636] at h
      have hb_3636F := Bool.eq_false_iff.2 hb_3636
      refine AL_known (d := 17) (v := .p (.bool false)) (by simp only [go_sem, seval, hb_3633, hb_3636F]) ?_
      refine AL_skips (by exact rfl) ?_
      refine AL_upto (by exact rfl) (by simp only [go_sem, seval, hb_3633, hb_3636F]; exact rfl) ?_
      refine AL_nil ?_
      refine thenA_n ?_
      refine awp_ret ?_
      cases h
      refine retQ_ret (by simp only [Tryz.results14]; simp only [go_sem, seval, hb_3633, hb_3636F]; exact rfl) ?_
      simp only [go_sem, seval, hb_3633, hb_3636F]
      all_goals ((repeat' refine And.intro ?_ ?_) <;> first | rfl | (simp; done) | (simp; rfl) | (simp [*]; done) | (simp [*]; rfl))
  · rw [if_neg hb_3633] at h
    have hb_3633F := Bool.eq_false_iff.2 hb_3633
    refine AL_known (d := 10) (v := .p (.bool false)) (by simp only [go_sem, seval, hb_3633F]) ?_
    refine AL_skips (by exact rfl) ?_
    refine AL_upto (by exact rfl) (by simp only [go_sem, seval, hb_3633F]; exact rfl) ?_
    refine AL_skips (by exact rfl) ?_
    refine AL_upto (by exact rfl) (by simp only [go_sem, seval, hb_3633F]; exact rfl) ?_
    refine AL_nil ?_
    refine thenA_n ?_
    refine awp_ret ?_
    cases h
    refine retQ_ret (by simp only [Tryz.results14]; simp only [go_sem, seval, hb_3633F]; exact rfl) ?_
    simp only [go_sem, seval, hb_3633F]
    all_goals ((repeat' refine And.intro ?_ ?_) <;> first | rfl | (simp; done) | (simp; rfl) | (simp [*]; done) | (simp [*]; rfl))
end Go.Proofs.YtdmddoljldjjeaaGreat
set_option linter.unusedVariables false
set_option linter.unusedSimpArgs false
namespace Go.Proofs.YtdmddoljldjjeaaGreat
open Go Go.Ab
set_option maxHeartbeats 4000000 in
theorem drossref55_Check_con (t_3927 : Table) (rules_3928 : List Int) (m_3929 : Merged) (r_3937 : Bool) (h : drossref55_Check t_3927 rules_3928 m_3929 = some r_3937) : Con Tryz.prog 17 [(encTable t_3927), (.slc (List.map (PV.int .i64) rules_3928)), (encMerged m_3929)] (.bool r_3937) := by
  refine ⟨Tryz.call17, ?_⟩
  refine pure_of_awp Tryz.func17 rfl Tryz.ntmps17 (by simp) fun X w => ?_
  show AWp _ _ _ ⟨[(0, .p (encTable t_3927)), (1, .p (.slc (List.map (PV.int .i64) rules_3928))), (2, .p (encMerged m_3929))], []⟩
  simp only [drossref55_Check] at h
  refine awp_seq ?_
  refine awp_region ?_
  refine AL_upto (by exact rfl) (by simp only [go_sem, seval]; exact rfl) ?_
  refine AL_nil ?_
  refine thenA_n ?_
  refine awp_seq ?_
  refine awp_region ?_
  refine AL_upto (by exact rfl) (by simp only [go_sem, seval]; exact rfl) ?_
  obtain ⟨r_3932, hr_3933, h⟩ := Option.bind_eq_some_iff.1 h
  refine AL_con' rfl (guard_none rfl) rfl (by simp only [go_sem, seval]; exact rfl) (by simp only [go_sem, seval]; all_goals ((repeat' refine And.intro ?_ ?_) <;> first | rfl | (simp; done) | (simp; rfl) | (simp [*]; done) | (simp [*]; rfl))) (drossref55_Table_con t_3927 m_3929.Clusters rules_3928 _ hr_3933) (by first | exact .inl rfl | exact .inl (by simp only [go_sem])) rfl ?_
  refine AL_upto (by exact rfl) (by simp only [go_sem, seval]; exact rfl) ?_
  refine AL_nil ?_
  refine thenA_n ?_
  refine awp_seq ?_
  refine awp_region ?_
  refine AL_upto (by exact rfl) (by simp only [go_sem, seval]; exact rfl) ?_
  by_cases hb_3934 : (r_3932.2 == 0) = true
  · rw [if_pos hb_3934] at h
    refine AL_known (d := 19) (v := .p (.bool true)) (by simp only [go_sem, seval, hb_3934]) ?_
    refine AL_gt' (guard_true' rfl rfl (by exact rfl) (by exact rfl)) rfl (by simp only [go_sem, seval, hb_3934]; exact rfl) ?_
    refine AL_gt' (guard_true' rfl rfl (by exact rfl) (by exact rfl)) rfl (by simp only [go_sem, seval, hb_3934]; exact rfl) ?_
    obtain ⟨r_3935, hr_3936, h⟩ := Option.bind_eq_some_iff.1 h
    refine AL_con' rfl (guard_true' rfl rfl (by exact rfl) (by exact rfl)) rfl (by simp only [go_sem, seval, hb_3934]; exact rfl) (by simp only [go_sem, seval, hb_3934]; all_goals ((repeat' refine And.intro ?_ ?_) <;> first | rfl | (simp; done) | (simp; rfl) | (simp [*]; done) | (simp [*]; rfl))) (drossref55_Same_con r_3932.1 m_3929 _ hr_3936) (.inr rfl) rfl ?_
    refine AL_upto (by exact rfl) (by simp only [go_sem, seval, hb_3934]; exact rfl) ?_
    refine AL_nil ?_
    refine thenA_n ?_
    refine awp_ret ?_
    cases h
    refine retQ_ret (by simp only [Tryz.results17]; simp only [go_sem, seval, hb_3934]; exact rfl) ?_
    simp only [go_sem, seval, hb_3934]
    all_goals ((repeat' refine And.intro ?_ ?_) <;> first | rfl | (simp; done) | (simp; rfl) | (simp [*]; done) | (simp [*]; rfl))
  · rw [if_neg hb_3934] at h
    have hb_3934F := Bool.eq_false_iff.2 hb_3934
    refine AL_known (d := 19) (v := .p (.bool false)) (by simp only [go_sem, seval, hb_3934F]) ?_
    refine AL_skips (by exact rfl) ?_
    refine AL_upto (by exact rfl) (by simp only [go_sem, seval, hb_3934F]; exact rfl) ?_
    refine AL_nil ?_
    refine thenA_n ?_
    refine awp_ret ?_
    cases h
    refine retQ_ret (by simp only [Tryz.results17]; simp only [go_sem, seval, hb_3934F]; exact rfl) ?_
    simp only [go_sem, seval, hb_3934F]
    all_goals ((repeat' refine And.intro ?_ ?_) <;> first | rfl | (simp; done) | (simp; rfl) | (simp [*]; done) | (simp [*]; rfl))
end Go.Proofs.YtdmddoljldjjeaaGreat
set_option linter.unusedVariables false
set_option linter.unusedSimpArgs false
namespace Go.Proofs.YtdmddoljldjjeaaGreat
open Go Go.Ab
set_option maxHeartbeats 4000000 in
theorem drosslaw55_SurvivorCheck_con (t_3938 : Table) (rules_3939 : List Int) (m_3940 : Merged) (r_3970 : Bool) (h : drosslaw55_SurvivorCheck t_3938 rules_3939 m_3940 = some r_3970) : Con Tryz.prog 4 [(encTable t_3938), (.slc (List.map (PV.int .i64) rules_3939)), (encMerged m_3940)] (.bool r_3970) := by
  refine ⟨Tryz.call4, ?_⟩
  refine pure_of_awp Tryz.func4 rfl Tryz.ntmps4 (by simp) fun X w => ?_
  show AWp _ _ _ ⟨[(0, .p (encTable t_3938)), (1, .p (.slc (List.map (PV.int .i64) rules_3939))), (2, .p (encMerged m_3940))], []⟩
  simp only [drosslaw55_SurvivorCheck] at h
  refine awp_seq ?_
  refine awp_region ?_
  refine AL_upto (by exact rfl) (by simp only [go_sem, seval]; exact rfl) ?_
  refine AL_nil ?_
  refine thenA_n ?_
  refine awp_seq ?_
  obtain ⟨o_3951, hA_3952, h⟩ := Option.bind_eq_some_iff.1 h
  refine awp_join (T := (fun (o_3969 : Bool) (e : Exit) (s' : St) => e = .normal ∧ Le ⟨Tryz.prog, Tryz.f4.ntmps, 0, X, [], fun _ => none, w⟩ s' ⟨[(1, .p (.slc (List.map (PV.int .i64) rules_3939))), (3, .loc 3 1 0 0), (5, .loc 5 1 0 0), (23, .p (.bool o_3969))], [(3, .arr 25 3 1 [.p (encTable t_3938)]), (5, .arr 31 5 1 [.p (encMerged m_3940)])]⟩) o_3951) ?_ ?_
  · replace h := hA_3952
    clear hA_3952
    refine awp_region ?_
    obtain ⟨r_3953, hr_3954, h⟩ := Option.bind_eq_some_iff.1 h
    refine AL_con' rfl (guard_none rfl) rfl (by simp only [go_sem, seval]; exact rfl) (by simp only [go_sem, seval]; all_goals ((repeat' refine And.intro ?_ ?_) <;> first | rfl | (simp; done) | (simp; rfl) | (simp [*]; done) | (simp [*]; rfl))) (drosslaw55_awake_con  _ hr_3954) (.inr rfl) rfl ?_
    refine AL_upto (by exact rfl) (by simp only [go_sem, seval]; exact rfl) ?_
    by_cases hb_3955 : r_3953 = true
    · rw [if_pos hb_3955] at h
      refine AL_known (d := 9) (v := .p (.bool false)) (by simp only [go_sem, seval, hb_3955]) ?_
      refine AL_gt' (guard_true' rfl rfl (by exact rfl) (by exact rfl)) rfl (by simp only [go_sem, seval, hb_3955]; exact rfl) ?_
      obtain ⟨r_3956, hr_3957, h⟩ := Option.bind_eq_some_iff.1 h
      refine AL_con' rfl (guard_true' rfl rfl (by exact rfl) (by exact rfl)) rfl (by simp only [go_sem, seval, hb_3955]; exact rfl) (by simp only [go_sem, seval, hb_3955]; all_goals ((repeat' refine And.intro ?_ ?_) <;> first | rfl | (simp; done) | (simp; rfl) | (simp [*]; done) | (simp [*]; rfl))) (drosslaw55_few_con t_3938 _ hr_3957) (.inr rfl) rfl ?_
      refine AL_gt' (guard_true' rfl rfl (by exact rfl) (by exact rfl)) rfl (by simp only [go_sem, seval, hb_3955]; exact rfl) ?_
      refine AL_upto (by exact rfl) (by simp only [go_sem, seval, hb_3955]; exact rfl) ?_
      by_cases hb_3958 : r_3956 = true
      · rw [if_pos hb_3958] at h
        refine AL_known (d := 14) (v := .p (.bool false)) (by simp only [go_sem, seval, hb_3955, hb_3958]) ?_
        refine AL_gt' (guard_true' rfl rfl (by exact rfl) (by exact rfl)) rfl (by simp only [go_sem, seval, hb_3955, hb_3958]; exact rfl) ?_
        obtain ⟨r_3959, hr_3960, h⟩ := Option.bind_eq_some_iff.1 h
        refine AL_con' rfl (guard_true' rfl rfl (by exact rfl) (by exact rfl)) rfl (by simp only [go_sem, seval, hb_3955, hb_3958]; exact rfl) (by simp only [go_sem, seval, hb_3955, hb_3958]; all_goals ((repeat' refine And.intro ?_ ?_) <;> first | rfl | (simp; done) | (simp; rfl) | (simp [*]; done) | (simp [*]; rfl))) (drosslaw55_brief_con m_3940 _ hr_3960) (.inr rfl) rfl ?_
        refine AL_gt' (guard_true' rfl rfl (by exact rfl) (by exact rfl)) rfl (by simp only [go_sem, seval, hb_3955, hb_3958]; exact rfl) ?_
        refine AL_upto (by exact rfl) (by simp only [go_sem, seval, hb_3955, hb_3958]; exact rfl) ?_
        by_cases hb_3961 : r_3959 = true
        · rw [if_pos hb_3961] at h
          refine AL_known (d := 19) (v := .p (.bool false)) (by simp only [go_sem, seval, hb_3955, hb_3958, hb_3961]) ?_
          refine AL_gt' (guard_true' rfl rfl (by exact rfl) (by exact rfl)) rfl (by simp only [go_sem, seval, hb_3955, hb_3958, hb_3961]; exact rfl) ?_
          refine AL_gt' (guard_true' rfl rfl (by exact rfl) (by exact rfl)) rfl (by simp only [go_sem, seval, hb_3955, hb_3958, hb_3961]; exact rfl) ?_
          refine AL_gt' (guard_true' rfl rfl (by exact rfl) (by exact rfl)) rfl (by simp only [go_sem, seval, hb_3955, hb_3958, hb_3961]; exact rfl) ?_
          refine AL_upto (by exact rfl) (by simp only [go_sem, seval, hb_3955, hb_3958, hb_3961]; exact rfl) ?_
          refine AL_nil ?_
          cases h
          refine ⟨rfl, ?_⟩
          simp only [go_sem, seval, hb_3955, hb_3958, hb_3961]
          all_goals ((repeat' refine And.intro ?_ ?_) <;> first | rfl | (simp; done) | (simp; rfl) | (simp [*]; done) | (simp [*]; rfl))
        · rw [if_neg hb_3961] at h
          have hb_3961F := Bool.eq_false_iff.2 hb_3961
          refine AL_known (d := 19) (v := .p (.bool true)) (by simp only [go_sem, seval, hb_3955, hb_3958, hb_3961F]) ?_
          refine AL_skips (by exact rfl) ?_
          refine AL_upto (by exact rfl) (by simp only [go_sem, seval, hb_3955, hb_3958, hb_3961F]; exact rfl) ?_
          refine AL_nil ?_
          cases h
          refine ⟨rfl, ?_⟩
          simp only [go_sem, seval, hb_3955, hb_3958, hb_3961F]
          all_goals ((repeat' refine And.intro ?_ ?_) <;> first | rfl | (simp; done) | (simp; rfl) | (simp [*]; done) | (simp [*]; rfl))
      · rw [if_neg hb_3958] at h
        have hb_3958F := Bool.eq_false_iff.2 hb_3958
        refine AL_known (d := 14) (v := .p (.bool true)) (by simp only [go_sem, seval, hb_3955, hb_3958F]) ?_
        refine AL_skips (by exact rfl) ?_
        refine AL_upto (by exact rfl) (by simp only [go_sem, seval, hb_3955, hb_3958F]; exact rfl) ?_
        refine AL_skips (by exact rfl) ?_
        refine AL_upto (by exact rfl) (by simp only [go_sem, seval, hb_3955, hb_3958F]; exact rfl) ?_
        refine AL_nil ?_
        cases h
        refine ⟨rfl, ?_⟩
        simp only [go_sem, seval, hb_3955, hb_3958F]
        all_goals ((repeat' refine And.intro ?_ ?_) <;> first | rfl | (simp; done) | (simp; rfl) | (simp [*]; done) | (simp [*]; rfl))
    · rw [if_neg hb_3955] at h
      have hb_3955F := Bool.eq_false_iff.2 hb_3955
      refine AL_known (d := 9) (v := .p (.bool true)) (by simp only [go_sem, seval, hb_3955F]) ?_
      refine AL_skips (by exact rfl) ?_
      refine AL_upto (by exact rfl) (by simp only [go_sem, seval, hb_3955F]; exact rfl) ?_
      refine AL_skips (by exact rfl) ?_
      refine AL_upto (by exact rfl) (by simp only [go_sem, seval, hb_3955F]; exact rfl) ?_
      refine AL_skips (by exact rfl) ?_
      refine AL_upto (by exact rfl) (by simp only [go_sem, seval, hb_3955F]; exact rfl) ?_
      refine AL_nil ?_
      cases h
      refine ⟨rfl, ?_⟩
      simp only [go_sem, seval, hb_3955F]
      all_goals ((repeat' refine And.intro ?_ ?_) <;> first | rfl | (simp; done) | (simp; rfl) | (simp [*]; done) | (simp [*]; rfl))
  · intro e s' hT
    obtain ⟨t23_3950, rfl⟩ : ∃ z, z = o_3951 := ⟨_, rfl⟩
    try simp only at h
    try simp only at hT
    obtain ⟨rfl, hle⟩ := hT
    refine Wk.to hle ?_
    clear hle
    refine thenA_n ?_
    by_cases hb_3962 : t23_3950 = true
    · rw [if_pos hb_3962] at h
      refine awp_ct (by simp only [go_sem, seval, hb_3962]) ?_
      refine awp_seq ?_
      refine awp_region ?_
      obtain ⟨r_3963, hr_3964, h⟩ := Option.bind_eq_some_iff.1 h
      refine AL_con' rfl (guard_none rfl) rfl (by simp only [go_sem, seval, hb_3962]; exact rfl) (by simp only [go_sem, seval, hb_3962]; all_goals ((repeat' refine And.intro ?_ ?_) <;> first | rfl | (simp; done) | (simp; rfl) | (simp [*]; done) | (simp [*]; rfl))) (drosslaw55_awake_con  _ hr_3964) (.inr rfl) rfl ?_
      refine AL_upto (by exact rfl) (by simp only [go_sem, seval, hb_3962]; exact rfl) ?_
      refine AL_nil ?_
      refine thenA_n ?_
      refine awp_ret ?_
      refine thenA_ret ?_
      cases h
      refine retQ_ret (by simp only [Tryz.results4]; simp only [go_sem, seval, hb_3962]; exact rfl) ?_
      simp only [go_sem, seval, hb_3962]
      all_goals ((repeat' refine And.intro ?_ ?_) <;> first | rfl | (simp; done) | (simp; rfl) | (simp [*]; done) | (simp [*]; rfl))
    · rw [if_neg hb_3962] at h
      have hb_3962F := Bool.eq_false_iff.2 hb_3962
      refine awp_cf (by simp only [go_sem, seval, hb_3962F]) ?_
      refine awp_skip ?_
      refine thenA_n ?_
      refine awp_seq ?_
      refine awp_drawn_walk mixed (by decide) ?_
      refine DGo.upto (by exact rfl) (by simp only [go_sem, seval, hb_3962F]; first | exact ⟨rfl, rfl⟩ | exact rfl) ?_
      obtain ⟨r_3965, hr_3966, h⟩ := Option.bind_eq_some_iff.1 h
      refine DGo.con' rfl (guard_none rfl) rfl (by simp only [go_sem, seval, hb_3962F]; exact rfl) (by simp only [go_sem, seval, hb_3962F]; all_goals ((repeat' refine And.intro ?_ ?_) <;> first | rfl | (simp; done) | (simp; rfl) | (simp [*]; done) | (simp [*]; rfl))) (by simp only [go_sem, seval, hb_3962F]; exact rfl) (survivor_Check_con t_3938 rules_3939 m_3940 _ hr_3966) (.inr rfl) rfl ?_
      refine DGo.upto (by exact rfl) (by simp only [go_sem, seval, hb_3962F]; first | exact ⟨rfl, rfl⟩ | exact rfl) ?_
      obtain ⟨r_3967, hr_3968, h⟩ := Option.bind_eq_some_iff.1 h
      refine DGo.con' rfl (guard_none rfl) rfl (by simp only [go_sem, seval, hb_3962F]; exact rfl) (by simp only [go_sem, seval, hb_3962F]; all_goals ((repeat' refine And.intro ?_ ?_) <;> first | rfl | (simp; done) | (simp; rfl) | (simp [*]; done) | (simp [*]; rfl))) (by simp only [go_sem, seval, hb_3962F]; exact rfl) (drossref55_Check_con t_3938 rules_3939 m_3940 _ hr_3968) (.inr rfl) rfl ?_
      refine DGo.upto (by exact rfl) (by simp only [go_sem, seval, hb_3962F]; first | exact ⟨rfl, rfl⟩ | exact rfl) ?_
      refine DGo.fin rfl ?_
      refine thenA_n ?_
      refine awp_ret ?_
      cases h
      refine retQ_ret (by simp only [Tryz.results4]; simp only [go_sem, seval, hb_3962F]; exact rfl) ?_
      simp only [go_sem, seval, hb_3962F]
      all_goals ((repeat' refine And.intro ?_ ?_) <;> first | rfl | (simp; done) | (simp; rfl) | (simp [*]; done) | (simp [*]; rfl))
end Go.Proofs.YtdmddoljldjjeaaGreat
