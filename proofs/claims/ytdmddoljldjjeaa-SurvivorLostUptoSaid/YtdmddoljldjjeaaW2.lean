/- Each function of the program computes what its Lean function says, where that has a value. -/
import Derived.Test.YtdmddoljldjjeaaW1
set_option linter.unusedVariables false
set_option linter.unusedSimpArgs false
namespace Go.Proofs.Ytdmddoljldjjeaa
open Go Go.Ab
set_option maxHeartbeats 4000000 in
theorem survivor_ascending_con (l_1373 : List Int) (r_1398 : Bool) (h : survivor_ascending l_1373 = some r_1398) : Con Try.prog 80 [(.slc (List.map (PV.int .i64) l_1373))] (.bool r_1398) := by
  refine ⟨Try.call80, ?_⟩
  refine pure_of_awp Try.func80 rfl Try.ntmps80 (by simp) fun X w => ?_
  show AWp _ _ _ ⟨[(0, .p (.slc (List.map (PV.int .i64) l_1373)))], []⟩
  simp only [survivor_ascending] at h
  refine awp_seq ?_
  refine awp_region ?_
  refine AL_upto (by exact rfl) (by simp only [go_sem, seval]; exact rfl) ?_
  refine AL_nil ?_
  refine thenA_n ?_
  refine awp_seq ?_
  refine awp_seq ?_
  refine awp_region ?_
  refine AL_upto (by exact rfl) (by simp only [go_sem, seval]; exact rfl) ?_
  refine AL_nil ?_
  refine thenA_n ?_
  refine awp_block ?_
  obtain ⟨o_1393, hL_1394, h⟩ := Option.bind_eq_some_iff.1 h
  refine awp_loop_L (fun (s : Int) => ⟨[(0, .p (.slc (List.map (PV.int .i64) l_1373))), (3, .p (.int .i64 s))], []⟩) (fun (o : (Unit) ⊕ (Bool)) (e : Exit) (s' : St) => match o with | .inl o_1396 => e = (.exit 0) ∧ Le ⟨Try.prog, Try.f80.ntmps, 0, X, [], fun _ => none, w⟩ s' ⟨[(0, .p (.slc (List.map (PV.int .i64) l_1373)))], []⟩ | .inr o_1397 => e = .ret ∧ retQ Try.prog Try.f80 (.bool o_1397) .ret s') (by intro o s hT; rcases o with _ | _ <;> (have hh := hT.1; cases hh)) hL_1394 (by simp only [go_sem, seval]; all_goals ((repeat' refine And.intro ?_ ?_) <;> first | rfl | (simp; done) | (simp; rfl) | (simp [*]; done) | (simp [*]; rfl))) ?_ ?_
  · clear h
    intro i_1380 x h
    simp only [survivor_ascending_l1] at h
    show AWp _ _ _ ⟨[(0, .p (.slc (List.map (PV.int .i64) l_1373))), (3, .p (.int .i64 i_1380))], []⟩
    refine awp_seq ?_
    refine awp_seq ?_
    refine awp_region ?_
    refine AL_upto (by exact rfl) (by simp only [go_sem, seval]; exact rfl) ?_
    refine AL_nil ?_
    refine thenA_n ?_
    by_cases hb_1387 : i_1380 < (l_1373.length : Int)
    · rw [if_pos hb_1387] at h
      have hb_1387T := eq_true hb_1387
      refine awp_ct (by simp only [go_sem, seval, hb_1387T]) ?_
      refine awp_skip ?_
      refine thenA_n ?_
      refine awp_seq ?_
      refine awp_block ?_
      refine awp_seq ?_
      refine awp_drawn_walk mixed (by decide) ?_
      obtain ⟨x_1388, hx_1389, h⟩ := Option.bind_eq_some_iff.1 h
      obtain ⟨hx_1389a, hx_1389, hx_1389b⟩ := idx_some hx_1389
      have hx_1389A := eq_true hx_1389a
      have hx_1389B := eq_true hx_1389b
      obtain ⟨x_1390, hx_1391, h⟩ := Option.bind_eq_some_iff.1 h
      obtain ⟨hx_1391a, hx_1391, hx_1391b⟩ := idx_some hx_1391
      have hx_1391A := eq_true hx_1391a
      have hx_1391B := eq_true hx_1391b
      refine DGo.upto (by exact rfl) (by simp only [go_sem, seval, hb_1387T, hx_1389, hx_1389A, hx_1389B, hx_1391, hx_1391A, hx_1391B]; exact ⟨rfl, rfl⟩) ?_
      refine DGo.fin rfl ?_
      refine thenA_n ?_
      by_cases hb_1392 : x_1388 ≤ x_1390
      · rw [if_pos hb_1392] at h
        have hb_1392T := eq_true hb_1392
        refine awp_ct (by simp only [go_sem, seval, hb_1387T, hb_1392T]) ?_
        refine awp_seq ?_
        refine awp_region ?_
        refine AL_upto (by exact rfl) (by simp only [go_sem, seval, hb_1387T, hb_1392T]; exact rfl) ?_
        refine AL_nil ?_
        refine thenA_n ?_
        refine awp_ret ?_
        refine blockA_ret ?_
        refine thenA_ret ?_
        cases h
        refine ⟨rfl, ?_⟩
        refine retQ_ret (by simp only [Try.results80]; simp only [go_sem, seval, hb_1387T, hb_1392T]; exact rfl) ?_
        simp only [go_sem, seval, hb_1387T, hb_1392T]
        all_goals ((repeat' refine And.intro ?_ ?_) <;> first | rfl | (simp; done) | (simp; rfl) | (simp [*]; done) | (simp [*]; rfl))
      · rw [if_neg hb_1392] at h
        have hb_1392T := eq_false hb_1392
        refine awp_cf (by simp only [go_sem, seval, hb_1387T, hb_1392T]) ?_
        refine awp_skip ?_
        refine blockA_n ?_
        refine thenA_n ?_
        refine awp_region ?_
        refine AL_upto (by exact rfl) (by simp only [go_sem, seval, hb_1387T, hb_1392T]; exact rfl) ?_
        refine AL_nil ?_
        cases h
        refine ⟨rfl, ?_⟩
        simp only [go_sem, seval, hb_1387T, hb_1392T]
        all_goals ((repeat' refine And.intro ?_ ?_) <;> first | rfl | (simp; done) | (simp; rfl) | (simp [*]; done) | (simp [*]; rfl))
    · rw [if_neg hb_1387] at h
      have hb_1387T := eq_false hb_1387
      refine awp_cf (by simp only [go_sem, seval, hb_1387T]) ?_
      refine awp_exit ?_
      refine thenA_exit ?_
      cases h
      refine ⟨rfl, ?_⟩
      simp only [go_sem, seval, hb_1387T]
      all_goals ((repeat' refine And.intro ?_ ?_) <;> first | rfl | (simp; done) | (simp; rfl) | (simp [*]; done) | (simp [*]; rfl))
  · intro e s' hT
    rcases o_1393 with ⟨⟩ | r_1395
    · try simp only at h
      try simp only at hT
      obtain ⟨rfl, hle⟩ := hT
      refine Wk.to hle ?_
      clear hle
      refine blockA_here ?_
      refine thenA_n ?_
      refine awp_seq ?_
      refine awp_region ?_
      refine AL_upto (by exact rfl) (by simp only [go_sem, seval]; exact rfl) ?_
      refine AL_nil ?_
      refine thenA_n ?_
      refine awp_ret ?_
      cases h
      refine retQ_ret (by simp only [Try.results80]; simp only [go_sem, seval]; exact rfl) ?_
      simp only [go_sem, seval]
      all_goals ((repeat' refine And.intro ?_ ?_) <;> first | rfl | (simp; done) | (simp; rfl) | (simp [*]; done) | (simp [*]; rfl))
    · try simp only at h
      try simp only at hT
      obtain ⟨rfl, hq⟩ := hT
      refine Wk.now ?_
      refine blockA_ret ?_
      refine thenA_ret ?_
      cases h
      exact hq
end Go.Proofs.Ytdmddoljldjjeaa
set_option linter.unusedVariables false
set_option linter.unusedSimpArgs false
namespace Go.Proofs.Ytdmddoljldjjeaa
open Go Go.Ab
set_option maxHeartbeats 4000000 in
theorem survivor_disjoint_con (clusters_1399 : List (List Int)) (r_1522 : (List (Int × Bool)) × Bool) (h : survivor_disjoint clusters_1399 = some r_1522) : Con Try.prog 58 [(.slc (List.map (encL (PV.int .i64)) clusters_1399))] (.tup [(.mapv (encK (PV.int .i64) r_1522.1) (encW PV.bool r_1522.1)), (.bool r_1522.2)]) := by
  refine ⟨Try.call58, ?_⟩
  refine pure_of_awp Try.func58 rfl Try.ntmps58 (by simp) fun X w => ?_
  show AWp _ _ _ ⟨[(0, .p (.slc (List.map (encL (PV.int .i64)) clusters_1399)))], []⟩
  simp only [survivor_disjoint] at h
  refine awp_seq ?_
  refine awp_region ?_
  refine AL_upto (by exact rfl) (by simp only [go_sem, seval]; exact rfl) ?_
  refine AL_nil ?_
  refine thenA_n ?_
  refine awp_seq ?_
  refine awp_region ?_
  refine AL_upto (by exact rfl) (by simp only [go_sem, seval]; exact rfl) ?_
  refine AL_nil ?_
  refine thenA_n ?_
  refine awp_seq ?_
  refine awp_seq ?_
  refine awp_region ?_
  refine AL_upto (by exact rfl) (by simp only [go_sem, seval]; exact rfl) ?_
  refine AL_nil ?_
  refine thenA_n ?_
  refine awp_block ?_
  obtain ⟨o_1517, hL_1518, h⟩ := Option.bind_eq_some_iff.1 h
  refine awp_loop_L (fun (s : (List (Int × Bool)) × Int) => ⟨[(4, .mapo 9 1), (10, .p (.slc (List.map (encL (PV.int .i64)) clusters_1399))), (11, .p (.int .i64 (clusters_1399.length : Int))), (12, .p (.int .i64 s.2))], [(9, .map 1 (List.map AV.p (encK (PV.int .i64) s.1)) (List.map AV.p (encW PV.bool s.1)))]⟩) (fun (o : ((List (Int × Bool))) ⊕ ((List (Int × Bool)) × Bool)) (e : Exit) (s' : St) => match o with | .inl o_1520 => e = (.exit 0) ∧ Le ⟨Try.prog, Try.f58.ntmps, 0, X, [], fun _ => none, w⟩ s' ⟨[(4, .mapo 9 1)], [(9, .map 1 (List.map AV.p (encK (PV.int .i64) o_1520)) (List.map AV.p (encW PV.bool o_1520)))]⟩ | .inr o_1521 => e = .ret ∧ retQ Try.prog Try.f58 (.tup [(.mapv (encK (PV.int .i64) o_1521.1) (encW PV.bool o_1521.1)), (.bool o_1521.2)]) .ret s') (by intro o s hT; rcases o with _ | _ <;> (have hh := hT.1; cases hh)) hL_1518 (by simp only [go_sem, seval]; all_goals ((repeat' refine And.intro ?_ ?_) <;> first | rfl | (simp; done) | (simp; rfl) | (simp [*]; done) | (simp [*]; rfl))) ?_ ?_
  · clear h
    intro s x h
    obtain ⟨seen_1438, t12_1439⟩ := s
    simp only [survivor_disjoint_l4] at h
    show AWp _ _ _ ⟨[(4, .mapo 9 1), (10, .p (.slc (List.map (encL (PV.int .i64)) clusters_1399))), (11, .p (.int .i64 (clusters_1399.length : Int))), (12, .p (.int .i64 t12_1439))], [(9, .map 1 (List.map AV.p (encK (PV.int .i64) seen_1438)) (List.map AV.p (encW PV.bool seen_1438)))]⟩
    refine awp_seq ?_
    refine awp_region ?_
    refine AL_upto (by exact rfl) (by simp only [go_sem, seval]; exact rfl) ?_
    refine AL_nil ?_
    refine thenA_n ?_
    refine awp_seq ?_
    by_cases hb_1480 : t12_1439 < (clusters_1399.length : Int)
    · rw [if_pos hb_1480] at h
      have hb_1480T := eq_true hb_1480
      refine awp_ct (by simp only [go_sem, seval, hb_1480T]) ?_
      refine awp_skip ?_
      refine thenA_n ?_
      refine awp_seq ?_
      refine awp_block ?_
      refine awp_seq ?_
      refine awp_region ?_
      obtain ⟨x_1483, hx_1484, h⟩ := Option.bind_eq_some_iff.1 h
      obtain ⟨hx_1484a, hx_1484, hx_1484b⟩ := idx_some hx_1484
      have hx_1484A := eq_true hx_1484a
      have hx_1484B := eq_true hx_1484b
      refine AL_upto (by exact rfl) (by simp only [go_sem, seval, hb_1480T, hx_1484, hx_1484A, hx_1484B]; exact rfl) ?_
      refine AL_nil ?_
      refine thenA_n ?_
      refine awp_seq ?_
      refine awp_seq ?_
      refine awp_region ?_
      refine AL_upto (by exact rfl) (by simp only [go_sem, seval, hb_1480T]; exact rfl) ?_
      obtain ⟨r_1485, hr_1486, h⟩ := Option.bind_eq_some_iff.1 h
      refine AL_con' rfl (guard_none rfl) rfl (by simp only [go_sem, seval, hb_1480T]; exact rfl) (by simp only [go_sem, seval, hb_1480T]; all_goals ((repeat' refine And.intro ?_ ?_) <;> first | rfl | (simp; done) | (simp; rfl) | (simp [*]; done) | (simp [*]; rfl))) (survivor_ascending_con x_1483 _ hr_1486) (.inr rfl) rfl ?_
      refine AL_upto (by exact rfl) (by simp only [go_sem, seval, hb_1480T]; exact rfl) ?_
      refine AL_nil ?_
      refine thenA_n ?_
      by_cases hb_1487 : r_1485 = true
      · rw [if_pos hb_1487] at h
        refine awp_cf (by simp only [go_sem, seval, hb_1480T, hb_1487]) ?_
        refine awp_skip ?_
        refine thenA_n ?_
        refine awp_seq ?_
        refine awp_region ?_
        refine AL_upto (by exact rfl) (by simp only [go_sem, seval, hb_1480T, hb_1487]; exact rfl) ?_
        refine AL_nil ?_
        refine thenA_n ?_
        refine awp_block ?_
        obtain ⟨o_1512, hL_1513, h⟩ := Option.bind_eq_some_iff.1 h
        refine awp_loop_L (fun (s : (List (Int × Bool)) × Int) => ⟨[(4, .mapo 9 1), (10, .p (.slc (List.map (encL (PV.int .i64)) clusters_1399))), (11, .p (.int .i64 (clusters_1399.length : Int))), (12, .p (.int .i64 t12_1439)), (19, .p (.slc (List.map (PV.int .i64) x_1483))), (20, .p (.int .i64 (x_1483.length : Int))), (21, .p (.int .i64 s.2))], [(9, .map 1 (List.map AV.p (encK (PV.int .i64) s.1)) (List.map AV.p (encW PV.bool s.1)))]⟩) (fun (o : ((List (Int × Bool))) ⊕ ((List (Int × Bool)) × Bool)) (e : Exit) (s' : St) => match o with | .inl o_1515 => e = (.exit 2) ∧ Le ⟨Try.prog, Try.f58.ntmps, 0, X, [], fun _ => none, w⟩ s' ⟨[(4, .mapo 9 1), (10, .p (.slc (List.map (encL (PV.int .i64)) clusters_1399))), (11, .p (.int .i64 (clusters_1399.length : Int))), (12, .p (.int .i64 t12_1439))], [(9, .map 1 (List.map AV.p (encK (PV.int .i64) o_1515)) (List.map AV.p (encW PV.bool o_1515)))]⟩ | .inr o_1516 => e = .ret ∧ retQ Try.prog Try.f58 (.tup [(.mapv (encK (PV.int .i64) o_1516.1) (encW PV.bool o_1516.1)), (.bool o_1516.2)]) .ret s') (by intro o s hT; rcases o with _ | _ <;> (have hh := hT.1; cases hh)) hL_1513 (by simp only [go_sem, seval, hb_1480T, hb_1487]; all_goals ((repeat' refine And.intro ?_ ?_) <;> first | rfl | (simp; done) | (simp; rfl) | (simp [*]; done) | (simp [*]; rfl))) ?_ ?_
        · clear h
          intro s x h
          obtain ⟨seen_1495, t21_1496⟩ := s
          simp only [survivor_disjoint_l3] at h
          show AWp _ _ _ ⟨[(4, .mapo 9 1), (10, .p (.slc (List.map (encL (PV.int .i64)) clusters_1399))), (11, .p (.int .i64 (clusters_1399.length : Int))), (12, .p (.int .i64 t12_1439)), (19, .p (.slc (List.map (PV.int .i64) x_1483))), (20, .p (.int .i64 (x_1483.length : Int))), (21, .p (.int .i64 t21_1496))], [(9, .map 1 (List.map AV.p (encK (PV.int .i64) seen_1495)) (List.map AV.p (encW PV.bool seen_1495)))]⟩
          refine awp_seq ?_
          refine awp_region ?_
          refine AL_upto (by exact rfl) (by simp only [go_sem, seval]; exact rfl) ?_
          refine AL_nil ?_
          refine thenA_n ?_
          refine awp_seq ?_
          by_cases hb_1506 : t21_1496 < (x_1483.length : Int)
          · rw [if_pos hb_1506] at h
            have hb_1506T := eq_true hb_1506
            refine awp_ct (by simp only [go_sem, seval, hb_1506T]) ?_
            refine awp_skip ?_
            refine thenA_n ?_
            refine awp_seq ?_
            refine awp_block ?_
            refine awp_seq ?_
            refine awp_region ?_
            obtain ⟨x_1509, hx_1510, h⟩ := Option.bind_eq_some_iff.1 h
            obtain ⟨hx_1510a, hx_1510, hx_1510b⟩ := idx_some hx_1510
            have hx_1510A := eq_true hx_1510a
            have hx_1510B := eq_true hx_1510b
            refine AL_upto (by exact rfl) (by simp only [go_sem, seval, hb_1506T, hx_1510, hx_1510A, hx_1510B]; exact rfl) ?_
            refine AL_nil ?_
            refine thenA_n ?_
            refine awp_seq ?_
            refine awp_seq ?_
            refine awp_region ?_
            refine AL_upto (by exact rfl) (by simp only [go_sem, seval, hb_1506T]; exact rfl) ?_
            refine AL_nil ?_
            refine thenA_n ?_
            by_cases hb_1511 : ((mget seen_1495 x_1509).getD false) = true
            · rw [if_pos hb_1511] at h
              refine awp_ct (by simp only [go_sem, seval, hb_1506T, hb_1511]) ?_
              refine awp_seq ?_
              refine awp_region ?_
              refine AL_upto (by exact rfl) (by simp only [go_sem, seval, hb_1506T, hb_1511]; exact rfl) ?_
              refine AL_nil ?_
              refine thenA_n ?_
              refine awp_ret ?_
              refine thenA_ret ?_
              refine blockA_ret ?_
              refine thenA_ret ?_
              cases h
              refine ⟨rfl, ?_⟩
              refine retQ_ret (by simp only [Try.results58]; simp only [go_sem, seval, hb_1506T, hb_1511]; exact rfl) ?_
              simp only [go_sem, seval, hb_1506T, hb_1511]
              all_goals ((repeat' refine And.intro ?_ ?_) <;> first | rfl | (simp; done) | (simp; rfl) | (simp [*]; done) | (simp [*]; rfl))
            · rw [if_neg hb_1511] at h
              have hb_1511F := Bool.eq_false_iff.2 hb_1511
              refine awp_cf (by simp only [go_sem, seval, hb_1506T, hb_1511F]) ?_
              refine awp_skip ?_
              refine thenA_n ?_
              refine awp_region ?_
              refine AL_upto (by exact rfl) (by simp only [go_sem, seval, hb_1506T, hb_1511F]; exact rfl) ?_
              refine AL_nil ?_
              refine blockA_n ?_
              refine thenA_n ?_
              refine awp_region ?_
              refine AL_upto (by exact rfl) (by simp only [go_sem, seval, hb_1506T, hb_1511F]; exact rfl) ?_
              refine AL_nil ?_
              cases h
              refine ⟨rfl, ?_⟩
              simp only [go_sem, seval, hb_1506T, hb_1511F]
              all_goals ((repeat' refine And.intro ?_ ?_) <;> first | rfl | (simp; done) | (simp; rfl) | (simp [*]; done) | (simp [*]; rfl))
          · rw [if_neg hb_1506] at h
            have hb_1506T := eq_false hb_1506
            refine awp_cf (by simp only [go_sem, seval, hb_1506T]) ?_
            refine awp_exit ?_
            refine thenA_exit ?_
            cases h
            refine ⟨rfl, ?_⟩
            simp only [go_sem, seval, hb_1506T]
            all_goals ((repeat' refine And.intro ?_ ?_) <;> first | rfl | (simp; done) | (simp; rfl) | (simp [*]; done) | (simp [*]; rfl))
        · intro e s' hT
          rcases o_1512 with seen_1504 | r_1514
          · try simp only at h
            try simp only at hT
            obtain ⟨rfl, hle⟩ := hT
            refine Wk.to hle ?_
            clear hle
            refine blockA_here ?_
            refine blockA_n ?_
            refine thenA_n ?_
            refine awp_region ?_
            refine AL_upto (by exact rfl) (by simp only [go_sem, seval, hb_1480T, hb_1487]; exact rfl) ?_
            refine AL_nil ?_
            cases h
            refine ⟨rfl, ?_⟩
            simp only [go_sem, seval, hb_1480T, hb_1487]
            all_goals ((repeat' refine And.intro ?_ ?_) <;> first | rfl | (simp; done) | (simp; rfl) | (simp [*]; done) | (simp [*]; rfl))
          · try simp only at h
            try simp only at hT
            obtain ⟨rfl, hq⟩ := hT
            refine Wk.now ?_
            refine blockA_ret ?_
            refine blockA_ret ?_
            refine thenA_ret ?_
            cases h
            refine ⟨rfl, ?_⟩
            exact hq
      · rw [if_neg hb_1487] at h
        have hb_1487F := Bool.eq_false_iff.2 hb_1487
        refine awp_ct (by simp only [go_sem, seval, hb_1480T, hb_1487F]) ?_
        refine awp_seq ?_
        refine awp_region ?_
        refine AL_upto (by exact rfl) (by simp only [go_sem, seval, hb_1480T, hb_1487F]; exact rfl) ?_
        refine AL_nil ?_
        refine thenA_n ?_
        refine awp_ret ?_
        refine thenA_ret ?_
        refine blockA_ret ?_
        refine thenA_ret ?_
        cases h
        refine ⟨rfl, ?_⟩
        refine retQ_ret (by simp only [Try.results58]; simp only [go_sem, seval, hb_1480T, hb_1487F]; exact rfl) ?_
        simp only [go_sem, seval, hb_1480T, hb_1487F]
        all_goals ((repeat' refine And.intro ?_ ?_) <;> first | rfl | (simp; done) | (simp; rfl) | (simp [*]; done) | (simp [*]; rfl))
    · rw [if_neg hb_1480] at h
      have hb_1480T := eq_false hb_1480
      refine awp_cf (by simp only [go_sem, seval, hb_1480T]) ?_
      refine awp_exit ?_
      refine thenA_exit ?_
      cases h
      refine ⟨rfl, ?_⟩
      simp only [go_sem, seval, hb_1480T]
      all_goals ((repeat' refine And.intro ?_ ?_) <;> first | rfl | (simp; done) | (simp; rfl) | (simp [*]; done) | (simp [*]; rfl))
  · intro e s' hT
    rcases o_1517 with seen_1478 | r_1519
    · try simp only at h
      try simp only at hT
      obtain ⟨rfl, hle⟩ := hT
      refine Wk.to hle ?_
      clear hle
      refine blockA_here ?_
      refine thenA_n ?_
      refine awp_seq ?_
      refine awp_region ?_
      refine AL_upto (by exact rfl) (by simp only [go_sem, seval]; exact rfl) ?_
      refine AL_nil ?_
      refine thenA_n ?_
      refine awp_ret ?_
      cases h
      refine retQ_ret (by simp only [Try.results58]; simp only [go_sem, seval]; exact rfl) ?_
      simp only [go_sem, seval]
      all_goals ((repeat' refine And.intro ?_ ?_) <;> first | rfl | (simp; done) | (simp; rfl) | (simp [*]; done) | (simp [*]; rfl))
    · try simp only at h
      try simp only at hT
      obtain ⟨rfl, hq⟩ := hT
      refine Wk.now ?_
      refine blockA_ret ?_
      refine thenA_ret ?_
      cases h
      exact hq
end Go.Proofs.Ytdmddoljldjjeaa
set_option linter.unusedVariables false
set_option linter.unusedSimpArgs false
namespace Go.Proofs.Ytdmddoljldjjeaa
open Go Go.Ab
set_option maxHeartbeats 4000000 in
theorem slices_IndexFunc_int64_con (s_1523 : List Int) (f_1524 : Int → Option (Bool)) (f_1524_k : FuncId) (f_1524_cs : List PV) (f_1524_h : ∀ (y_1525 : Int) (r_1526 : Bool), f_1524 y_1525 = some r_1526 → Con Try.prog f_1524_k ((.int .i64 y_1525) :: f_1524_cs) (.bool r_1526)) (r_1554 : Int) (h : slices_IndexFunc_int64 s_1523 f_1524 = some r_1554) : Con Try.prog 81 [(.slc (List.map (PV.int .i64) s_1523)), .func (.func f_1524_k) f_1524_cs] (.int .i64 r_1554) := by
  refine ⟨Try.call81, ?_⟩
  refine pure_of_awp Try.func81 rfl Try.ntmps81 (by simp) fun X w => ?_
  show AWp _ _ _ ⟨[(0, .p (.slc (List.map (PV.int .i64) s_1523))), (1, .p (.func (.func f_1524_k) f_1524_cs))], []⟩
  simp only [slices_IndexFunc_int64] at h
  refine awp_seq ?_
  refine awp_region ?_
  refine AL_upto (by exact rfl) (by simp only [go_sem, seval]; exact rfl) ?_
  refine AL_nil ?_
  refine thenA_n ?_
  refine awp_seq ?_
  refine awp_seq ?_
  refine awp_region ?_
  refine AL_upto (by exact rfl) (by simp only [go_sem, seval]; exact rfl) ?_
  refine AL_nil ?_
  refine thenA_n ?_
  refine awp_block ?_
  obtain ⟨o_1549, hL_1550, h⟩ := Option.bind_eq_some_iff.1 h
  refine awp_loop_L (fun (s : Int) => ⟨[(0, .p (.slc (List.map (PV.int .i64) s_1523))), (1, .p (.func (.func f_1524_k) f_1524_cs)), (7, .p (.int .i64 (s_1523.length : Int))), (8, .p (.int .i64 s))], []⟩) (fun (o : (Unit) ⊕ (Int)) (e : Exit) (s' : St) => match o with | .inl o_1552 => e = (.exit 0) ∧ Le ⟨Try.prog, Try.f81.ntmps, 0, X, [], fun _ => none, w⟩ s' ⟨[], []⟩ | .inr o_1553 => e = .ret ∧ retQ Try.prog Try.f81 (.int .i64 o_1553) .ret s') (by intro o s hT; rcases o with _ | _ <;> (have hh := hT.1; cases hh)) hL_1550 (by simp only [go_sem, seval]; all_goals ((repeat' refine And.intro ?_ ?_) <;> first | rfl | (simp; done) | (simp; rfl) | (simp [*]; done) | (simp [*]; rfl))) ?_ ?_
  · clear h
    intro t8_1534 x h
    simp only [slices_IndexFunc_int64_l1] at h
    show AWp _ _ _ ⟨[(0, .p (.slc (List.map (PV.int .i64) s_1523))), (1, .p (.func (.func f_1524_k) f_1524_cs)), (7, .p (.int .i64 (s_1523.length : Int))), (8, .p (.int .i64 t8_1534))], []⟩
    refine awp_seq ?_
    refine awp_region ?_
    refine AL_upto (by exact rfl) (by simp only [go_sem, seval]; exact rfl) ?_
    refine AL_nil ?_
    refine thenA_n ?_
    refine awp_seq ?_
    by_cases hb_1543 : t8_1534 < (s_1523.length : Int)
    · rw [if_pos hb_1543] at h
      have hb_1543T := eq_true hb_1543
      refine awp_ct (by simp only [go_sem, seval, hb_1543T]) ?_
      refine awp_skip ?_
      refine thenA_n ?_
      refine awp_seq ?_
      refine awp_block ?_
      refine awp_seq ?_
      refine awp_region ?_
      refine AL_upto (by exact rfl) (by simp only [go_sem, seval, hb_1543T]; exact rfl) ?_
      refine AL_nil ?_
      refine thenA_n ?_
      refine awp_seq ?_
      refine awp_region ?_
      obtain ⟨x_1544, hx_1545, h⟩ := Option.bind_eq_some_iff.1 h
      obtain ⟨hx_1545a, hx_1545, hx_1545b⟩ := idx_some hx_1545
      have hx_1545A := eq_true hx_1545a
      have hx_1545B := eq_true hx_1545b
      refine AL_upto (by exact rfl) (by simp only [go_sem, seval, hb_1543T, hx_1545, hx_1545A, hx_1545B]; exact rfl) ?_
      obtain ⟨r_1546, hr_1547, h⟩ := Option.bind_eq_some_iff.1 h
      refine AL_con' rfl (guard_none rfl) rfl (by simp only [go_sem, seval, hb_1543T]; exact rfl) (by simp only [go_sem, seval, hb_1543T]; all_goals ((repeat' refine And.intro ?_ ?_) <;> first | rfl | (simp; done) | (simp; rfl) | (simp [*]; done) | (simp [*]; rfl))) (f_1524_h x_1544 _ hr_1547) (.inr rfl) rfl ?_
      refine AL_nil ?_
      refine thenA_n ?_
      by_cases hb_1548 : r_1546 = true
      · rw [if_pos hb_1548] at h
        refine awp_ct (by simp only [go_sem, seval, hb_1543T, hb_1548]) ?_
        refine awp_seq ?_
        refine awp_region ?_
        refine AL_upto (by exact rfl) (by simp only [go_sem, seval, hb_1543T, hb_1548]; exact rfl) ?_
        refine AL_nil ?_
        refine thenA_n ?_
        refine awp_ret ?_
        refine blockA_ret ?_
        refine thenA_ret ?_
        cases h
        refine ⟨rfl, ?_⟩
        refine retQ_ret (by simp only [Try.results81]; simp only [go_sem, seval, hb_1543T, hb_1548]; exact rfl) ?_
        simp only [go_sem, seval, hb_1543T, hb_1548]
        all_goals ((repeat' refine And.intro ?_ ?_) <;> first | rfl | (simp; done) | (simp; rfl) | (simp [*]; done) | (simp [*]; rfl))
      · rw [if_neg hb_1548] at h
        have hb_1548F := Bool.eq_false_iff.2 hb_1548
        refine awp_cf (by simp only [go_sem, seval, hb_1543T, hb_1548F]) ?_
        refine awp_skip ?_
        refine blockA_n ?_
        refine thenA_n ?_
        refine awp_region ?_
        refine AL_upto (by exact rfl) (by simp only [go_sem, seval, hb_1543T, hb_1548F]; exact rfl) ?_
        refine AL_nil ?_
        cases h
        refine ⟨rfl, ?_⟩
        simp only [go_sem, seval, hb_1543T, hb_1548F]
        all_goals ((repeat' refine And.intro ?_ ?_) <;> first | rfl | (simp; done) | (simp; rfl) | (simp [*]; done) | (simp [*]; rfl))
    · rw [if_neg hb_1543] at h
      have hb_1543T := eq_false hb_1543
      refine awp_cf (by simp only [go_sem, seval, hb_1543T]) ?_
      refine awp_exit ?_
      refine thenA_exit ?_
      cases h
      refine ⟨rfl, ?_⟩
      simp only [go_sem, seval, hb_1543T]
      all_goals ((repeat' refine And.intro ?_ ?_) <;> first | rfl | (simp; done) | (simp; rfl) | (simp [*]; done) | (simp [*]; rfl))
  · intro e s' hT
    rcases o_1549 with ⟨⟩ | r_1551
    · try simp only at h
      try simp only at hT
      obtain ⟨rfl, hle⟩ := hT
      refine Wk.to hle ?_
      clear hle
      refine blockA_here ?_
      refine thenA_n ?_
      refine awp_seq ?_
      refine awp_region ?_
      refine AL_upto (by exact rfl) (by simp only [go_sem, seval]; exact rfl) ?_
      refine AL_nil ?_
      refine thenA_n ?_
      refine awp_ret ?_
      cases h
      refine retQ_ret (by simp only [Try.results81]; simp only [go_sem, seval]; exact rfl) ?_
      simp only [go_sem, seval]
      all_goals ((repeat' refine And.intro ?_ ?_) <;> first | rfl | (simp; done) | (simp; rfl) | (simp [*]; done) | (simp [*]; rfl))
    · try simp only at h
      try simp only at hT
      obtain ⟨rfl, hq⟩ := hT
      refine Wk.now ?_
      refine blockA_ret ?_
      refine thenA_ret ?_
      cases h
      exact hq
end Go.Proofs.Ytdmddoljldjjeaa
set_option linter.unusedVariables false
set_option linter.unusedSimpArgs false
namespace Go.Proofs.Ytdmddoljldjjeaa
open Go Go.Ab
set_option maxHeartbeats 4000000 in
theorem slices_ContainsFunc_int64_con (s_1555 : List Int) (f_1556 : Int → Option (Bool)) (f_1556_k : FuncId) (f_1556_cs : List PV) (f_1556_h : ∀ (y_1557 : Int) (r_1558 : Bool), f_1556 y_1557 = some r_1558 → Con Try.prog f_1556_k ((.int .i64 y_1557) :: f_1556_cs) (.bool r_1558)) (r_1561 : Bool) (h : slices_ContainsFunc_int64 s_1555 f_1556 = some r_1561) : Con Try.prog 59 [(.slc (List.map (PV.int .i64) s_1555)), .func (.func f_1556_k) f_1556_cs] (.bool r_1561) := by
  refine ⟨Try.call59, ?_⟩
  refine pure_of_awp Try.func59 rfl Try.ntmps59 (by simp) fun X w => ?_
  show AWp _ _ _ ⟨[(0, .p (.slc (List.map (PV.int .i64) s_1555))), (1, .p (.func (.func f_1556_k) f_1556_cs))], []⟩
  simp only [slices_ContainsFunc_int64] at h
  refine awp_seq ?_
  refine awp_region ?_
  refine AL_upto (by exact rfl) (by simp only [go_sem, seval]; exact rfl) ?_
  refine AL_nil ?_
  refine thenA_n ?_
  refine awp_seq ?_
  refine awp_region ?_
  refine AL_upto (by exact rfl) (by simp only [go_sem, seval]; exact rfl) ?_
  obtain ⟨r_1559, hr_1560, h⟩ := Option.bind_eq_some_iff.1 h
  refine AL_con' rfl (guard_none rfl) rfl (by simp only [go_sem, seval]; exact rfl) (by simp only [go_sem, seval]; all_goals ((repeat' refine And.intro ?_ ?_) <;> first | rfl | (simp; done) | (simp; rfl) | (simp [*]; done) | (simp [*]; rfl))) (slices_IndexFunc_int64_con s_1555 f_1556 f_1556_k f_1556_cs f_1556_h _ hr_1560) (.inr rfl) rfl ?_
  refine AL_upto (by exact rfl) (by simp only [go_sem, seval]; exact rfl) ?_
  refine AL_nil ?_
  refine thenA_n ?_
  refine awp_ret ?_
  cases h
  refine retQ_ret (by simp only [Try.results59]; simp only [go_sem, seval]; exact rfl) ?_
  simp only [go_sem, seval]
  all_goals ((repeat' refine And.intro ?_ ?_) <;> first | rfl | (simp; done) | (simp; rfl) | (simp [*]; done) | (simp [*]; rfl))
end Go.Proofs.Ytdmddoljldjjeaa
set_option linter.unusedVariables false
set_option linter.unusedSimpArgs false
namespace Go.Proofs.Ytdmddoljldjjeaa
open Go Go.Ab
set_option maxHeartbeats 4000000 in
theorem slices_Index_int64_con (s_1562 : List Int) (v_1563 : Int) (r_1585 : Int) (h : slices_Index_int64 s_1562 v_1563 = some r_1585) : Con Try.prog 82 [(.slc (List.map (PV.int .i64) s_1562)), (.int .i64 v_1563)] (.int .i64 r_1585) := by
  refine ⟨Try.call82, ?_⟩
  refine pure_of_awp Try.func82 rfl Try.ntmps82 (by simp) fun X w => ?_
  show AWp _ _ _ ⟨[(0, .p (.slc (List.map (PV.int .i64) s_1562))), (1, .p (.int .i64 v_1563))], []⟩
  simp only [slices_Index_int64] at h
  refine awp_seq ?_
  refine awp_region ?_
  refine AL_upto (by exact rfl) (by simp only [go_sem, seval]; exact rfl) ?_
  refine AL_nil ?_
  refine thenA_n ?_
  refine awp_seq ?_
  refine awp_seq ?_
  refine awp_region ?_
  refine AL_upto (by exact rfl) (by simp only [go_sem, seval]; exact rfl) ?_
  refine AL_nil ?_
  refine thenA_n ?_
  refine awp_block ?_
  obtain ⟨o_1580, hL_1581, h⟩ := Option.bind_eq_some_iff.1 h
  refine awp_loop_L (fun (s : Int) => ⟨[(0, .p (.slc (List.map (PV.int .i64) s_1562))), (1, .p (.int .i64 v_1563)), (7, .p (.int .i64 (s_1562.length : Int))), (8, .p (.int .i64 s))], []⟩) (fun (o : (Unit) ⊕ (Int)) (e : Exit) (s' : St) => match o with | .inl o_1583 => e = (.exit 0) ∧ Le ⟨Try.prog, Try.f82.ntmps, 0, X, [], fun _ => none, w⟩ s' ⟨[], []⟩ | .inr o_1584 => e = .ret ∧ retQ Try.prog Try.f82 (.int .i64 o_1584) .ret s') (by intro o s hT; rcases o with _ | _ <;> (have hh := hT.1; cases hh)) hL_1581 (by simp only [go_sem, seval]; all_goals ((repeat' refine And.intro ?_ ?_) <;> first | rfl | (simp; done) | (simp; rfl) | (simp [*]; done) | (simp [*]; rfl))) ?_ ?_
  · clear h
    intro t8_1569 x h
    simp only [slices_Index_int64_l1] at h
    show AWp _ _ _ ⟨[(0, .p (.slc (List.map (PV.int .i64) s_1562))), (1, .p (.int .i64 v_1563)), (7, .p (.int .i64 (s_1562.length : Int))), (8, .p (.int .i64 t8_1569))], []⟩
    refine awp_seq ?_
    refine awp_region ?_
    refine AL_upto (by exact rfl) (by simp only [go_sem, seval]; exact rfl) ?_
    refine AL_nil ?_
    refine thenA_n ?_
    refine awp_seq ?_
    by_cases hb_1576 : t8_1569 < (s_1562.length : Int)
    · rw [if_pos hb_1576] at h
      have hb_1576T := eq_true hb_1576
      refine awp_ct (by simp only [go_sem, seval, hb_1576T]) ?_
      refine awp_skip ?_
      refine thenA_n ?_
      refine awp_seq ?_
      refine awp_block ?_
      refine awp_seq ?_
      refine awp_region ?_
      refine AL_upto (by exact rfl) (by simp only [go_sem, seval, hb_1576T]; exact rfl) ?_
      refine AL_nil ?_
      refine thenA_n ?_
      refine awp_seq ?_
      refine awp_region ?_
      obtain ⟨x_1577, hx_1578, h⟩ := Option.bind_eq_some_iff.1 h
      obtain ⟨hx_1578a, hx_1578, hx_1578b⟩ := idx_some hx_1578
      have hx_1578A := eq_true hx_1578a
      have hx_1578B := eq_true hx_1578b
      refine AL_upto (by exact rfl) (by simp only [go_sem, seval, hb_1576T, hx_1578, hx_1578A, hx_1578B]; exact rfl) ?_
      refine AL_nil ?_
      refine thenA_n ?_
      by_cases hb_1579 : (v_1563 == x_1577) = true
      · rw [if_pos hb_1579] at h
        refine awp_ct (by simp only [go_sem, seval, hb_1576T, hb_1579]) ?_
        refine awp_seq ?_
        refine awp_region ?_
        refine AL_upto (by exact rfl) (by simp only [go_sem, seval, hb_1576T, hb_1579]; exact rfl) ?_
        refine AL_nil ?_
        refine thenA_n ?_
        refine awp_ret ?_
        refine blockA_ret ?_
        refine thenA_ret ?_
        cases h
        refine ⟨rfl, ?_⟩
        refine retQ_ret (by simp only [Try.results82]; simp only [go_sem, seval, hb_1576T, hb_1579]; exact rfl) ?_
        simp only [go_sem, seval, hb_1576T, hb_1579]
        all_goals ((repeat' refine And.intro ?_ ?_) <;> first | rfl | (simp; done) | (simp; rfl) | (simp [*]; done) | (simp [*]; rfl))
      · rw [if_neg hb_1579] at h
        have hb_1579F := Bool.eq_false_iff.2 hb_1579
        refine awp_cf (by simp only [go_sem, seval, hb_1576T, hb_1579F]) ?_
        refine awp_skip ?_
        refine blockA_n ?_
        refine thenA_n ?_
        refine awp_region ?_
        refine AL_upto (by exact rfl) (by simp only [go_sem, seval, hb_1576T, hb_1579F]; exact rfl) ?_
        refine AL_nil ?_
        cases h
        refine ⟨rfl, ?_⟩
        simp only [go_sem, seval, hb_1576T, hb_1579F]
        all_goals ((repeat' refine And.intro ?_ ?_) <;> first | rfl | (simp; done) | (simp; rfl) | (simp [*]; done) | (simp [*]; rfl))
    · rw [if_neg hb_1576] at h
      have hb_1576T := eq_false hb_1576
      refine awp_cf (by simp only [go_sem, seval, hb_1576T]) ?_
      refine awp_exit ?_
      refine thenA_exit ?_
      cases h
      refine ⟨rfl, ?_⟩
      simp only [go_sem, seval, hb_1576T]
      all_goals ((repeat' refine And.intro ?_ ?_) <;> first | rfl | (simp; done) | (simp; rfl) | (simp [*]; done) | (simp [*]; rfl))
  · intro e s' hT
    rcases o_1580 with ⟨⟩ | r_1582
    · try simp only at h
      try simp only at hT
      obtain ⟨rfl, hle⟩ := hT
      refine Wk.to hle ?_
      clear hle
      refine blockA_here ?_
      refine thenA_n ?_
      refine awp_seq ?_
      refine awp_region ?_
      refine AL_upto (by exact rfl) (by simp only [go_sem, seval]; exact rfl) ?_
      refine AL_nil ?_
      refine thenA_n ?_
      refine awp_ret ?_
      cases h
      refine retQ_ret (by simp only [Try.results82]; simp only [go_sem, seval]; exact rfl) ?_
      simp only [go_sem, seval]
      all_goals ((repeat' refine And.intro ?_ ?_) <;> first | rfl | (simp; done) | (simp; rfl) | (simp [*]; done) | (simp [*]; rfl))
    · try simp only at h
      try simp only at hT
      obtain ⟨rfl, hq⟩ := hT
      refine Wk.now ?_
      refine blockA_ret ?_
      refine thenA_ret ?_
      cases h
      exact hq
end Go.Proofs.Ytdmddoljldjjeaa
set_option linter.unusedVariables false
set_option linter.unusedSimpArgs false
namespace Go.Proofs.Ytdmddoljldjjeaa
open Go Go.Ab
set_option maxHeartbeats 4000000 in
theorem slices_Contains_int64_con (s_1586 : List Int) (v_1587 : Int) (r_1590 : Bool) (h : slices_Contains_int64 s_1586 v_1587 = some r_1590) : Con Try.prog 61 [(.slc (List.map (PV.int .i64) s_1586)), (.int .i64 v_1587)] (.bool r_1590) := by
  refine ⟨Try.call61, ?_⟩
  refine pure_of_awp Try.func61 rfl Try.ntmps61 (by simp) fun X w => ?_
  show AWp _ _ _ ⟨[(0, .p (.slc (List.map (PV.int .i64) s_1586))), (1, .p (.int .i64 v_1587))], []⟩
  simp only [slices_Contains_int64] at h
  refine awp_seq ?_
  refine awp_region ?_
  refine AL_upto (by exact rfl) (by simp only [go_sem, seval]; exact rfl) ?_
  refine AL_nil ?_
  refine thenA_n ?_
  refine awp_seq ?_
  refine awp_region ?_
  refine AL_upto (by exact rfl) (by simp only [go_sem, seval]; exact rfl) ?_
  obtain ⟨r_1588, hr_1589, h⟩ := Option.bind_eq_some_iff.1 h
  refine AL_con' rfl (guard_none rfl) rfl (by simp only [go_sem, seval]; exact rfl) (by simp only [go_sem, seval]; all_goals ((repeat' refine And.intro ?_ ?_) <;> first | rfl | (simp; done) | (simp; rfl) | (simp [*]; done) | (simp [*]; rfl))) (slices_Index_int64_con s_1586 v_1587 _ hr_1589) (.inr rfl) rfl ?_
  refine AL_upto (by exact rfl) (by simp only [go_sem, seval]; exact rfl) ?_
  refine AL_nil ?_
  refine thenA_n ?_
  refine awp_ret ?_
  cases h
  refine retQ_ret (by simp only [Try.results61]; simp only [go_sem, seval]; exact rfl) ?_
  simp only [go_sem, seval]
  all_goals ((repeat' refine And.intro ?_ ?_) <;> first | rfl | (simp; done) | (simp; rfl) | (simp [*]; done) | (simp [*]; rfl))
end Go.Proofs.Ytdmddoljldjjeaa
set_option linter.unusedVariables false
set_option linter.unusedSimpArgs false
namespace Go.Proofs.Ytdmddoljldjjeaa
open Go Go.Ab
set_option maxHeartbeats 4000000 in
theorem survivor_wellFormed_1_con (id_1591 : Int) (c_1592 : Merged) (c_1593 : Int) (r_1598 : Bool) (h : survivor_wellFormed_1 id_1591 c_1592 c_1593 = some r_1598) : Con Try.prog 60 [(.int .i64 id_1591), .imm [.str c_1592.Table.Name, .slc (List.map PV.str c_1592.Table.Attrs), .slc (List.map encRow c_1592.Table.Rows), .slc (List.map (encL (PV.int .i64)) c_1592.Clusters), .slc (List.map (encL (PV.int .i64)) c_1592.Origins)], .imm [.int .i64 c_1593]] (.bool r_1598) := by
  refine ⟨Try.call60, ?_⟩
  refine pure_of_awp Try.func60 rfl Try.ntmps60 (by simp) fun X w => ?_
  show AWp _ _ _ ⟨[(0, .p (.int .i64 id_1591)), (1, .p (.imm [.str c_1592.Table.Name, .slc (List.map PV.str c_1592.Table.Attrs), .slc (List.map encRow c_1592.Table.Rows), .slc (List.map (encL (PV.int .i64)) c_1592.Clusters), .slc (List.map (encL (PV.int .i64)) c_1592.Origins)])), (2, .p (.imm [.int .i64 c_1593]))], []⟩
  simp only [survivor_wellFormed_1] at h
  refine awp_seq ?_
  refine awp_region ?_
  refine AL_upto (by exact rfl) (by simp only [go_sem, seval]; exact rfl) ?_
  refine AL_nil ?_
  refine thenA_n ?_
  refine awp_seq ?_
  refine awp_region ?_
  obtain ⟨x_1594, hx_1595, h⟩ := Option.bind_eq_some_iff.1 h
  obtain ⟨hx_1595a, hx_1595, hx_1595b⟩ := idx_some hx_1595
  have hx_1595A := eq_true hx_1595a
  have hx_1595B := eq_true hx_1595b
  refine AL_upto (by exact rfl) (by simp only [go_sem, seval, hx_1595, hx_1595A, hx_1595B]; exact rfl) ?_
  obtain ⟨r_1596, hr_1597, h⟩ := Option.bind_eq_some_iff.1 h
  refine AL_con' rfl (guard_none rfl) rfl (by simp only [go_sem, seval]; exact rfl) (by simp only [go_sem, seval]; all_goals ((repeat' refine And.intro ?_ ?_) <;> first | rfl | (simp; done) | (simp; rfl) | (simp [*]; done) | (simp [*]; rfl))) (slices_Contains_int64_con x_1594 id_1591 _ hr_1597) (.inr rfl) rfl ?_
  refine AL_upto (by exact rfl) (by simp only [go_sem, seval]; exact rfl) ?_
  refine AL_nil ?_
  refine thenA_n ?_
  refine awp_ret ?_
  cases h
  refine retQ_ret (by simp only [Try.results60]; simp only [go_sem, seval]; exact rfl) ?_
  simp only [go_sem, seval]
  all_goals ((repeat' refine And.intro ?_ ?_) <;> first | rfl | (simp; done) | (simp; rfl) | (simp [*]; done) | (simp [*]; rfl))
end Go.Proofs.Ytdmddoljldjjeaa
set_option linter.unusedVariables false
set_option linter.unusedSimpArgs false
namespace Go.Proofs.Ytdmddoljldjjeaa
open Go Go.Ab
set_option maxHeartbeats 4000000 in
theorem survivor_wellFormed_con (m_1599 : Merged) (r_1674 : Bool) (h : survivor_wellFormed m_1599 = some r_1674) : Con Try.prog 36 [(encMerged m_1599)] (.bool r_1674) := by
  refine ⟨Try.call36, ?_⟩
  refine pure_of_awp Try.func36 rfl Try.ntmps36 (by simp) fun X w => ?_
  show AWp _ _ _ ⟨[(0, .p (encMerged m_1599))], []⟩
  simp only [survivor_wellFormed] at h
  refine awp_seq ?_
  refine awp_region ?_
  refine AL_upto (by exact rfl) (by simp only [go_sem, seval]; exact rfl) ?_
  refine AL_nil ?_
  refine thenA_n ?_
  refine awp_seq ?_
  refine awp_seq ?_
  refine awp_region ?_
  refine AL_upto (by exact rfl) (by simp only [go_sem, seval]; exact rfl) ?_
  obtain ⟨r_1600, hr_1601, h⟩ := Option.bind_eq_some_iff.1 h
  refine AL_con' rfl (guard_none rfl) rfl (by simp only [go_sem, seval]; exact rfl) (by simp only [go_sem, seval]; all_goals ((repeat' refine And.intro ?_ ?_) <;> first | rfl | (simp; done) | (simp; rfl) | (simp [*]; done) | (simp [*]; rfl))) (table_Valid_con m_1599.Table _ hr_1601) (.inr rfl) rfl ?_
  refine AL_upto (by exact rfl) (by simp only [go_sem, seval]; exact rfl) ?_
  by_cases hb_1602 : (r_1600 != 0) = true
  · rw [if_pos hb_1602] at h
    refine AL_known (d := 11) (v := .p (.bool true)) (by simp only [go_sem, seval, hb_1602]) ?_
    refine AL_skips (by exact rfl) ?_
    refine AL_upto (by exact rfl) (by simp only [go_sem, seval, hb_1602]; exact rfl) ?_
    refine AL_skips (by exact rfl) ?_
    refine AL_upto (by exact rfl) (by simp only [go_sem, seval, hb_1602]; exact rfl) ?_
    refine AL_nil ?_
    refine thenA_n ?_
    refine awp_ct (by simp only [go_sem, seval, hb_1602]) ?_
    refine awp_seq ?_
    refine awp_region ?_
    refine AL_upto (by exact rfl) (by simp only [go_sem, seval, hb_1602]; exact rfl) ?_
    refine AL_nil ?_
    refine thenA_n ?_
    refine awp_ret ?_
    refine thenA_ret ?_
    cases h
    refine retQ_ret (by simp only [Try.results36]; simp only [go_sem, seval, hb_1602]; exact rfl) ?_
    simp only [go_sem, seval, hb_1602]
    all_goals ((repeat' refine And.intro ?_ ?_) <;> first | rfl | (simp; done) | (simp; rfl) | (simp [*]; done) | (simp [*]; rfl))
  · rw [if_neg hb_1602] at h
    have hb_1602F := Bool.eq_false_iff.2 hb_1602
    refine AL_known (d := 11) (v := .p (.bool false)) (by simp only [go_sem, seval, hb_1602F]) ?_
    refine AL_gt' (guard_true' rfl rfl (by exact rfl) (by exact rfl)) rfl (by simp only [go_sem, seval, hb_1602F]; exact rfl) ?_
    refine AL_gt' (guard_true' rfl rfl (by exact rfl) (by exact rfl)) rfl (by simp only [go_sem, seval, hb_1602F]; exact rfl) ?_
    refine AL_gt' (guard_true' rfl rfl (by exact rfl) (by exact rfl)) rfl (by simp only [go_sem, seval, hb_1602F]; exact rfl) ?_
    refine AL_gt' (guard_true' rfl rfl (by exact rfl) (by exact rfl)) rfl (by simp only [go_sem, seval, hb_1602F]; exact rfl) ?_
    refine AL_gt' (guard_true' rfl rfl (by exact rfl) (by exact rfl)) rfl (by simp only [go_sem, seval, hb_1602F]; exact rfl) ?_
    refine AL_gt' (guard_true' rfl rfl (by exact rfl) (by exact rfl)) rfl (by simp only [go_sem, seval, hb_1602F]; exact rfl) ?_
    refine AL_gt' (guard_true' rfl rfl (by exact rfl) (by exact rfl)) rfl (by simp only [go_sem, seval, hb_1602F]; exact rfl) ?_
    refine AL_gt' (guard_true' rfl rfl (by exact rfl) (by exact rfl)) rfl (by simp only [go_sem, seval, hb_1602F]; exact rfl) ?_
    refine AL_upto (by exact rfl) (by simp only [go_sem, seval, hb_1602F]; exact rfl) ?_
    by_cases hb_1603 : ((m_1599.Clusters.length : Int) != (m_1599.Table.Rows.length : Int)) = true
    · rw [if_pos hb_1603] at h
      refine AL_known (d := 21) (v := .p (.bool true)) (by simp only [go_sem, seval, hb_1602F, hb_1603]) ?_
      refine AL_skips (by exact rfl) ?_
      refine AL_upto (by exact rfl) (by simp only [go_sem, seval, hb_1602F, hb_1603]; exact rfl) ?_
      refine AL_nil ?_
      refine thenA_n ?_
      refine awp_ct (by simp only [go_sem, seval, hb_1602F, hb_1603]) ?_
      refine awp_seq ?_
      refine awp_region ?_
      refine AL_upto (by exact rfl) (by simp only [go_sem, seval, hb_1602F, hb_1603]; exact rfl) ?_
      refine AL_nil ?_
      refine thenA_n ?_
      refine awp_ret ?_
      refine thenA_ret ?_
      cases h
      refine retQ_ret (by simp only [Try.results36]; simp only [go_sem, seval, hb_1602F, hb_1603]; exact rfl) ?_
      simp only [go_sem, seval, hb_1602F, hb_1603]
      all_goals ((repeat' refine And.intro ?_ ?_) <;> first | rfl | (simp; done) | (simp; rfl) | (simp [*]; done) | (simp [*]; rfl))
    · rw [if_neg hb_1603] at h
      have hb_1603F := Bool.eq_false_iff.2 hb_1603
      refine AL_known (d := 21) (v := .p (.bool false)) (by simp only [go_sem, seval, hb_1602F, hb_1603F]) ?_
      refine AL_gt' (guard_true' rfl rfl (by exact rfl) (by exact rfl)) rfl (by simp only [go_sem, seval, hb_1602F, hb_1603F]; exact rfl) ?_
      refine AL_gt' (guard_true' rfl rfl (by exact rfl) (by exact rfl)) rfl (by simp only [go_sem, seval, hb_1602F, hb_1603F]; exact rfl) ?_
      refine AL_gt' (guard_true' rfl rfl (by exact rfl) (by exact rfl)) rfl (by simp only [go_sem, seval, hb_1602F, hb_1603F]; exact rfl) ?_
      refine AL_gt' (guard_true' rfl rfl (by exact rfl) (by exact rfl)) rfl (by simp only [go_sem, seval, hb_1602F, hb_1603F]; exact rfl) ?_
      refine AL_gt' (guard_true' rfl rfl (by exact rfl) (by exact rfl)) rfl (by simp only [go_sem, seval, hb_1602F, hb_1603F]; exact rfl) ?_
      refine AL_gt' (guard_true' rfl rfl (by exact rfl) (by exact rfl)) rfl (by simp only [go_sem, seval, hb_1602F, hb_1603F]; exact rfl) ?_
      refine AL_gt' (guard_true' rfl rfl (by exact rfl) (by exact rfl)) rfl (by simp only [go_sem, seval, hb_1602F, hb_1603F]; exact rfl) ?_
      refine AL_gt' (guard_true' rfl rfl (by exact rfl) (by exact rfl)) rfl (by simp only [go_sem, seval, hb_1602F, hb_1603F]; exact rfl) ?_
      refine AL_upto (by exact rfl) (by simp only [go_sem, seval, hb_1602F, hb_1603F]; exact rfl) ?_
      refine AL_nil ?_
      refine thenA_n ?_
      by_cases hb_1604 : ((m_1599.Origins.length : Int) != (m_1599.Table.Rows.length : Int)) = true
      · rw [if_pos hb_1604] at h
        refine awp_ct (by simp only [go_sem, seval, hb_1602F, hb_1603F, hb_1604]) ?_
        refine awp_seq ?_
        refine awp_region ?_
        refine AL_upto (by exact rfl) (by simp only [go_sem, seval, hb_1602F, hb_1603F, hb_1604]; exact rfl) ?_
        refine AL_nil ?_
        refine thenA_n ?_
        refine awp_ret ?_
        refine thenA_ret ?_
        cases h
        refine retQ_ret (by simp only [Try.results36]; simp only [go_sem, seval, hb_1602F, hb_1603F, hb_1604]; exact rfl) ?_
        simp only [go_sem, seval, hb_1602F, hb_1603F, hb_1604]
        all_goals ((repeat' refine And.intro ?_ ?_) <;> first | rfl | (simp; done) | (simp; rfl) | (simp [*]; done) | (simp [*]; rfl))
      · rw [if_neg hb_1604] at h
        have hb_1604F := Bool.eq_false_iff.2 hb_1604
        refine awp_cf (by simp only [go_sem, seval, hb_1602F, hb_1603F, hb_1604F]) ?_
        refine awp_skip ?_
        refine thenA_n ?_
        refine awp_seq ?_
        refine awp_seq ?_
        refine awp_region ?_
        refine AL_upto (by exact rfl) (by simp only [go_sem, seval, hb_1602F, hb_1603F, hb_1604F]; exact rfl) ?_
        obtain ⟨r_1605, hr_1606, h⟩ := Option.bind_eq_some_iff.1 h
        refine AL_con' rfl (guard_none rfl) rfl (by simp only [go_sem, seval, hb_1602F, hb_1603F, hb_1604F]; exact rfl) (by simp only [go_sem, seval, hb_1602F, hb_1603F, hb_1604F]; all_goals ((repeat' refine And.intro ?_ ?_) <;> first | rfl | (simp; done) | (simp; rfl) | (simp [*]; done) | (simp [*]; rfl))) (survivor_disjoint_con m_1599.Clusters _ hr_1606) (by first | exact .inl rfl | exact .inl (by simp only [go_sem])) rfl ?_
        refine AL_upto (by exact rfl) (by simp only [go_sem, seval, hb_1602F, hb_1603F, hb_1604F]; exact rfl) ?_
        refine AL_nil ?_
        refine thenA_n ?_
        refine awp_seq ?_
        refine awp_region ?_
        refine AL_upto (by exact rfl) (by simp only [go_sem, seval, hb_1602F, hb_1603F, hb_1604F]; exact rfl) ?_
        refine AL_nil ?_
        refine thenA_n ?_
        by_cases hb_1607 : r_1605.2 = true
        · rw [if_pos hb_1607] at h
          refine awp_cf (by simp only [go_sem, seval, hb_1602F, hb_1603F, hb_1604F, hb_1607]) ?_
          refine awp_skip ?_
          refine thenA_n ?_
          refine awp_seq ?_
          refine awp_seq ?_
          refine awp_region ?_
          refine AL_upto (by exact rfl) (by simp only [go_sem, seval, hb_1602F, hb_1603F, hb_1604F, hb_1607]; exact rfl) ?_
          refine AL_nil ?_
          refine thenA_n ?_
          refine awp_block ?_
          obtain ⟨o_1669, hL_1670, h⟩ := Option.bind_eq_some_iff.1 h
          refine awp_loop_L (fun (s : Int) => ⟨[(1, .loc 1 1 0 0), (41, .p (.slc (List.map encRow m_1599.Table.Rows))), (42, .p (.int .i64 (m_1599.Table.Rows.length : Int))), (43, .p (.int .i64 s))], [(1, .arr 55 5 1 [.p (encMerged m_1599)])]⟩) (fun (o : (Unit) ⊕ (Bool)) (e : Exit) (s' : St) => match o with | .inl o_1672 => e = (.exit 0) ∧ Le ⟨Try.prog, Try.f36.ntmps, 0, X, [], fun _ => none, w⟩ s' ⟨[], []⟩ | .inr o_1673 => e = .ret ∧ retQ Try.prog Try.f36 (.bool o_1673) .ret s') (by intro o s hT; rcases o with _ | _ <;> (have hh := hT.1; cases hh)) hL_1670 (by simp only [go_sem, seval, hb_1602F, hb_1603F, hb_1604F, hb_1607]; all_goals ((repeat' refine And.intro ?_ ?_) <;> first | rfl | (simp; done) | (simp; rfl) | (simp [*]; done) | (simp [*]; rfl))) ?_ ?_
          · clear h
            intro t43_1628 x h
            simp only [survivor_wellFormed_l1] at h
            show AWp _ _ _ ⟨[(1, .loc 1 1 0 0), (41, .p (.slc (List.map encRow m_1599.Table.Rows))), (42, .p (.int .i64 (m_1599.Table.Rows.length : Int))), (43, .p (.int .i64 t43_1628))], [(1, .arr 55 5 1 [.p (encMerged m_1599)])]⟩
            refine awp_seq ?_
            refine awp_region ?_
            refine AL_upto (by exact rfl) (by simp only [go_sem, seval]; exact rfl) ?_
            refine AL_nil ?_
            refine thenA_n ?_
            refine awp_seq ?_
            by_cases hb_1650 : t43_1628 < (m_1599.Table.Rows.length : Int)
            · rw [if_pos hb_1650] at h
              have hb_1650T := eq_true hb_1650
              refine awp_ct (by simp only [go_sem, seval, hb_1650T]) ?_
              refine awp_skip ?_
              refine thenA_n ?_
              refine awp_seq ?_
              refine awp_block ?_
              refine awp_seq ?_
              refine awp_region ?_
              obtain ⟨x_1653, hx_1654, h⟩ := Option.bind_eq_some_iff.1 h
              obtain ⟨hx_1654a, hx_1654, hx_1654b⟩ := idx_some hx_1654
              have hx_1654A := eq_true hx_1654a
              have hx_1654B := eq_true hx_1654b
              refine AL_upto (by exact rfl) (by simp only [go_sem, seval, hb_1650T, hx_1654, hx_1654A, hx_1654B]; exact rfl) ?_
              refine AL_nil ?_
              refine thenA_n ?_
              refine awp_seq ?_
              refine awp_drawn_walk mixed (by decide) ?_
              obtain ⟨x_1655, hx_1656, h⟩ := Option.bind_eq_some_iff.1 h
              obtain ⟨hx_1656a, hx_1656, hx_1656b⟩ := idx_some hx_1656
              have hx_1656A := eq_true hx_1656a
              have hx_1656B := eq_true hx_1656b
              obtain ⟨x_1657, hx_1658, h⟩ := Option.bind_eq_some_iff.1 h
              have hx_1658l := eq_true (lt_of_get hx_1658)
              have hx_1658L : ((0 : Int) < (x_1655.length : Int)) = True := eq_true (by have := lt_of_get hx_1658; omega)
              refine DGo.upto (by exact rfl) (by simp only [go_sem, seval, hb_1650T, hx_1656, hx_1656A, hx_1656B, hx_1658, hx_1658l, hx_1658L]; exact ⟨rfl, rfl⟩) ?_
              by_cases hb_1659 : (x_1653.ID != x_1657) = true
              · rw [if_pos hb_1659] at h
                refine DGo.known' (d := 58) (v := .p (.bool true)) (by simp only [go_sem, seval, hb_1650T, hb_1659]) ?_
                refine DGo.skips (by exact rfl) ?_
                refine DGo.upto (by exact rfl) (by simp only [go_sem, seval, hb_1650T, hb_1659]; exact ⟨rfl, rfl⟩) ?_
                refine DGo.skips (by exact rfl) ?_
                refine DGo.upto (by exact rfl) (by simp only [go_sem, seval, hb_1650T, hb_1659]; exact ⟨rfl, rfl⟩) ?_
                refine DGo.fin rfl ?_
                refine thenA_n ?_
                refine awp_ct (by simp only [go_sem, seval, hb_1650T, hb_1659]) ?_
                refine awp_seq ?_
                refine awp_region ?_
                refine AL_upto (by exact rfl) (by simp only [go_sem, seval, hb_1650T, hb_1659]; exact rfl) ?_
                refine AL_nil ?_
                refine thenA_n ?_
                refine awp_ret ?_
                refine blockA_ret ?_
                refine thenA_ret ?_
                cases h
                refine ⟨rfl, ?_⟩
                refine retQ_ret (by simp only [Try.results36]; simp only [go_sem, seval, hb_1650T, hb_1659]; exact rfl) ?_
                simp only [go_sem, seval, hb_1650T, hb_1659]
                all_goals ((repeat' refine And.intro ?_ ?_) <;> first | rfl | (simp; done) | (simp; rfl) | (simp [*]; done) | (simp [*]; rfl))
              · rw [if_neg hb_1659] at h
                have hb_1659F := Bool.eq_false_iff.2 hb_1659
                refine DGo.known' (d := 58) (v := .p (.bool false)) (by simp only [go_sem, seval, hb_1650T, hb_1659F]) ?_
                refine DGo.gt' (guard_true' rfl rfl (by exact rfl) (by exact rfl)) rfl (by simp only [go_sem, seval, hb_1650T, hb_1659F]; exact ⟨rfl, rfl⟩) ?_
                refine DGo.gt' (guard_true' rfl rfl (by exact rfl) (by exact rfl)) rfl (by simp only [go_sem, seval, hb_1650T, hb_1659F]; exact ⟨rfl, rfl⟩) ?_
                refine DGo.gt' (guard_true' rfl rfl (by exact rfl) (by exact rfl)) rfl (by simp only [go_sem, seval, hb_1650T, hb_1659F]; exact ⟨rfl, rfl⟩) ?_
                obtain ⟨x_1662, hx_1663, h⟩ := Option.bind_eq_some_iff.1 h
                obtain ⟨hx_1663a, hx_1663, hx_1663b⟩ := idx_some hx_1663
                have hx_1663A := eq_true hx_1663a
                have hx_1663B := eq_true hx_1663b
                refine DGo.gt' (guard_true' rfl rfl (by exact rfl) (by exact rfl)) rfl (by simp only [go_sem, seval, hb_1650T, hb_1659F, hx_1663, hx_1663A, hx_1663B]; exact ⟨rfl, rfl⟩) ?_
                refine DGo.gt' (guard_true' rfl rfl (by exact rfl) (by exact rfl)) rfl (by simp only [go_sem, seval, hb_1650T, hb_1659F]; exact ⟨rfl, rfl⟩) ?_
                refine DGo.gt' (guard_true' rfl rfl (by exact rfl) (by exact rfl)) rfl (by simp only [go_sem, seval, hb_1650T, hb_1659F]; exact ⟨rfl, rfl⟩) ?_
                refine DGo.gt' (guard_true' rfl rfl (by exact rfl) (by exact rfl)) rfl (by simp only [go_sem, seval, hb_1650T, hb_1659F]; exact ⟨rfl, rfl⟩) ?_
                refine DGo.gt' (guard_true' rfl rfl (by exact rfl) (by exact rfl)) rfl (by simp only [go_sem, seval, hb_1650T, hb_1659F]; exact ⟨rfl, rfl⟩) ?_
                refine DGo.gt' (guard_true' rfl rfl (by exact rfl) (by exact rfl)) rfl (by simp only [go_sem, seval, hb_1650T, hb_1659F]; exact ⟨rfl, rfl⟩) ?_
                refine DGo.gt' (guard_true' rfl rfl (by exact rfl) (by exact rfl)) rfl (by simp only [go_sem, seval, hb_1650T, hb_1659F]; exact ⟨rfl, rfl⟩) ?_
                refine DGo.gt' (guard_true' rfl rfl (by exact rfl) (by exact rfl)) rfl (by simp only [go_sem, seval, hb_1650T, hb_1659F]; exact ⟨rfl, rfl⟩) ?_
                refine DGo.upto (by exact rfl) (by simp only [go_sem, seval, hb_1650T, hb_1659F]; exact ⟨rfl, rfl⟩) ?_
                by_cases hb_1664 : ((x_1662.length : Int) != (m_1599.Table.Attrs.length : Int)) = true
                · rw [if_pos hb_1664] at h
                  refine DGo.known' (d := 71) (v := .p (.bool true)) (by simp only [go_sem, seval, hb_1650T, hb_1659F, hb_1664]) ?_
                  refine DGo.skips (by exact rfl) ?_
                  refine DGo.upto (by exact rfl) (by simp only [go_sem, seval, hb_1650T, hb_1659F, hb_1664]; exact ⟨rfl, rfl⟩) ?_
                  refine DGo.fin rfl ?_
                  refine thenA_n ?_
                  refine awp_ct (by simp only [go_sem, seval, hb_1650T, hb_1659F, hb_1664]) ?_
                  refine awp_seq ?_
                  refine awp_region ?_
                  refine AL_upto (by exact rfl) (by simp only [go_sem, seval, hb_1650T, hb_1659F, hb_1664]; exact rfl) ?_
                  refine AL_nil ?_
                  refine thenA_n ?_
                  refine awp_ret ?_
                  refine blockA_ret ?_
                  refine thenA_ret ?_
                  cases h
                  refine ⟨rfl, ?_⟩
                  refine retQ_ret (by simp only [Try.results36]; simp only [go_sem, seval, hb_1650T, hb_1659F, hb_1664]; exact rfl) ?_
                  simp only [go_sem, seval, hb_1650T, hb_1659F, hb_1664]
                  all_goals ((repeat' refine And.intro ?_ ?_) <;> first | rfl | (simp; done) | (simp; rfl) | (simp [*]; done) | (simp [*]; rfl))
                · rw [if_neg hb_1664] at h
                  have hb_1664F := Bool.eq_false_iff.2 hb_1664
                  refine DGo.known' (d := 71) (v := .p (.bool false)) (by simp only [go_sem, seval, hb_1650T, hb_1659F, hb_1664F]) ?_
                  refine DGo.gt' (guard_true' rfl rfl (by exact rfl) (by exact rfl)) rfl (by simp only [go_sem, seval, hb_1650T, hb_1659F, hb_1664F]; exact ⟨rfl, rfl⟩) ?_
                  refine DGo.gt' (guard_true' rfl rfl (by exact rfl) (by exact rfl)) rfl (by simp only [go_sem, seval, hb_1650T, hb_1659F, hb_1664F]; exact ⟨rfl, rfl⟩) ?_
                  refine DGo.gt' (guard_true' rfl rfl (by exact rfl) (by exact rfl)) rfl (by simp only [go_sem, seval, hb_1650T, hb_1659F, hb_1664F]; exact ⟨rfl, rfl⟩) ?_
                  refine DGo.gt' (guard_true' rfl rfl (by exact rfl) (by exact rfl)) rfl (by simp only [go_sem, seval, hb_1650T, hb_1659F, hb_1664F, hx_1663, hx_1663A, hx_1663B]; exact ⟨rfl, rfl⟩) ?_
                  refine DGo.gt' (guard_true' rfl rfl (by exact rfl) (by exact rfl)) rfl (by simp only [go_sem, seval, hb_1650T, hb_1659F, hb_1664F]; exact ⟨rfl, rfl⟩) ?_
                  refine DGo.gt' (guard_true' rfl rfl (by exact rfl) (by exact rfl)) rfl (by simp only [go_sem, seval, hb_1650T, hb_1659F, hb_1664F]; exact ⟨rfl, rfl⟩) ?_
                  obtain ⟨r_1666, hr_1667, h⟩ := Option.bind_eq_some_iff.1 h
                  refine DGo.con' rfl (guard_true' rfl rfl (by exact rfl) (by exact rfl)) rfl (by simp only [go_sem, seval, hb_1650T, hb_1659F, hb_1664F]; exact rfl) (by simp only [go_sem, seval, hb_1650T, hb_1659F, hb_1664F]; all_goals ((repeat' refine And.intro ?_ ?_) <;> first | rfl | (simp; done) | (simp; rfl) | (simp [*]; done) | (simp [*]; rfl))) (by simp only [go_sem, seval, hb_1650T, hb_1659F, hb_1664F]; exact rfl) (slices_ContainsFunc_int64_con x_1662 (fun (y_1665 : Int) => survivor_wellFormed_1 y_1665 m_1599 t43_1628) 60 [.imm [.str m_1599.Table.Name, .slc (List.map PV.str m_1599.Table.Attrs), .slc (List.map encRow m_1599.Table.Rows), .slc (List.map (encL (PV.int .i64)) m_1599.Clusters), .slc (List.map (encL (PV.int .i64)) m_1599.Origins)], .imm [.int .i64 t43_1628]] (fun y_1665 r h => survivor_wellFormed_1_con y_1665 m_1599 t43_1628 r h) _ hr_1667) (.inr rfl) rfl ?_
                  refine DGo.upto (by exact rfl) (by simp only [go_sem, seval, hb_1650T, hb_1659F, hb_1664F]; exact ⟨rfl, rfl⟩) ?_
                  refine DGo.fin rfl ?_
                  refine thenA_n ?_
                  by_cases hb_1668 : r_1666 = true
                  · rw [if_pos hb_1668] at h
                    refine awp_ct (by simp only [go_sem, seval, hb_1650T, hb_1659F, hb_1664F, hb_1668]) ?_
                    refine awp_seq ?_
                    refine awp_region ?_
                    refine AL_upto (by exact rfl) (by simp only [go_sem, seval, hb_1650T, hb_1659F, hb_1664F, hb_1668]; exact rfl) ?_
                    refine AL_nil ?_
                    refine thenA_n ?_
                    refine awp_ret ?_
                    refine blockA_ret ?_
                    refine thenA_ret ?_
                    cases h
                    refine ⟨rfl, ?_⟩
                    refine retQ_ret (by simp only [Try.results36]; simp only [go_sem, seval, hb_1650T, hb_1659F, hb_1664F, hb_1668]; exact rfl) ?_
                    simp only [go_sem, seval, hb_1650T, hb_1659F, hb_1664F, hb_1668]
                    all_goals ((repeat' refine And.intro ?_ ?_) <;> first | rfl | (simp; done) | (simp; rfl) | (simp [*]; done) | (simp [*]; rfl))
                  · rw [if_neg hb_1668] at h
                    have hb_1668F := Bool.eq_false_iff.2 hb_1668
                    refine awp_cf (by simp only [go_sem, seval, hb_1650T, hb_1659F, hb_1664F, hb_1668F]) ?_
                    refine awp_skip ?_
                    refine blockA_n ?_
                    refine thenA_n ?_
                    refine awp_region ?_
                    refine AL_upto (by exact rfl) (by simp only [go_sem, seval, hb_1650T, hb_1659F, hb_1664F, hb_1668F]; exact rfl) ?_
                    refine AL_nil ?_
                    cases h
                    refine ⟨rfl, ?_⟩
                    simp only [go_sem, seval, hb_1650T, hb_1659F, hb_1664F, hb_1668F]
                    all_goals ((repeat' refine And.intro ?_ ?_) <;> first | rfl | (simp; done) | (simp; rfl) | (simp [*]; done) | (simp [*]; rfl))
            · rw [if_neg hb_1650] at h
              have hb_1650T := eq_false hb_1650
              refine awp_cf (by simp only [go_sem, seval, hb_1650T]) ?_
              refine awp_exit ?_
              refine thenA_exit ?_
              cases h
              refine ⟨rfl, ?_⟩
              simp only [go_sem, seval, hb_1650T]
              all_goals ((repeat' refine And.intro ?_ ?_) <;> first | rfl | (simp; done) | (simp; rfl) | (simp [*]; done) | (simp [*]; rfl))
          · intro e s' hT
            rcases o_1669 with ⟨⟩ | r_1671
            · try simp only at h
              try simp only at hT
              obtain ⟨rfl, hle⟩ := hT
              refine Wk.to hle ?_
              clear hle
              refine blockA_here ?_
              refine thenA_n ?_
              refine awp_seq ?_
              refine awp_region ?_
              refine AL_upto (by exact rfl) (by simp only [go_sem, seval, hb_1602F, hb_1603F, hb_1604F, hb_1607]; exact rfl) ?_
              refine AL_nil ?_
              refine thenA_n ?_
              refine awp_ret ?_
              cases h
              refine retQ_ret (by simp only [Try.results36]; simp only [go_sem, seval, hb_1602F, hb_1603F, hb_1604F, hb_1607]; exact rfl) ?_
              simp only [go_sem, seval, hb_1602F, hb_1603F, hb_1604F, hb_1607]
              all_goals ((repeat' refine And.intro ?_ ?_) <;> first | rfl | (simp; done) | (simp; rfl) | (simp [*]; done) | (simp [*]; rfl))
            · try simp only at h
              try simp only at hT
              obtain ⟨rfl, hq⟩ := hT
              refine Wk.now ?_
              refine blockA_ret ?_
              refine thenA_ret ?_
              cases h
              exact hq
        · rw [if_neg hb_1607] at h
          have hb_1607F := Bool.eq_false_iff.2 hb_1607
          refine awp_ct (by simp only [go_sem, seval, hb_1602F, hb_1603F, hb_1604F, hb_1607F]) ?_
          refine awp_seq ?_
          refine awp_region ?_
          refine AL_upto (by exact rfl) (by simp only [go_sem, seval, hb_1602F, hb_1603F, hb_1604F, hb_1607F]; exact rfl) ?_
          refine AL_nil ?_
          refine thenA_n ?_
          refine awp_ret ?_
          refine thenA_ret ?_
          cases h
          refine retQ_ret (by simp only [Try.results36]; simp only [go_sem, seval, hb_1602F, hb_1603F, hb_1604F, hb_1607F]; exact rfl) ?_
          simp only [go_sem, seval, hb_1602F, hb_1603F, hb_1604F, hb_1607F]
          all_goals ((repeat' refine And.intro ?_ ?_) <;> first | rfl | (simp; done) | (simp; rfl) | (simp [*]; done) | (simp [*]; rfl))
end Go.Proofs.Ytdmddoljldjjeaa
set_option linter.unusedVariables false
set_option linter.unusedSimpArgs false
namespace Go.Proofs.Ytdmddoljldjjeaa
open Go Go.Ab
set_option maxHeartbeats 4000000 in
theorem table_Find_1_con (r_1675 : Row) (c_1676 : Int) (r_1677 : Bool) (h : table_Find_1 r_1675 c_1676 = some r_1677) : Con Try.prog 62 [(encRow r_1675), .imm [.int .i64 c_1676]] (.bool r_1677) := by
  refine ⟨Try.call62, ?_⟩
  refine pure_of_awp Try.func62 rfl Try.ntmps62 (by simp) fun X w => ?_
  show AWp _ _ _ ⟨[(0, .p (encRow r_1675)), (1, .p (.imm [.int .i64 c_1676]))], []⟩
  simp only [table_Find_1] at h
  refine awp_seq ?_
  refine awp_region ?_
  refine AL_upto (by exact rfl) (by simp only [go_sem, seval]; exact rfl) ?_
  refine AL_nil ?_
  refine thenA_n ?_
  refine awp_seq ?_
  refine awp_region ?_
  refine AL_upto (by exact rfl) (by simp only [go_sem, seval]; exact rfl) ?_
  refine AL_nil ?_
  refine thenA_n ?_
  refine awp_ret ?_
  cases h
  refine retQ_ret (by simp only [Try.results62]; simp only [go_sem, seval]; exact rfl) ?_
  simp only [go_sem, seval]
  all_goals ((repeat' refine And.intro ?_ ?_) <;> first | rfl | (simp; done) | (simp; rfl) | (simp [*]; done) | (simp [*]; rfl))
end Go.Proofs.Ytdmddoljldjjeaa
set_option linter.unusedVariables false
set_option linter.unusedSimpArgs false
namespace Go.Proofs.Ytdmddoljldjjeaa
open Go Go.Ab
set_option maxHeartbeats 4000000 in
theorem table_Find_con (t_1678 : Table) (id_1679 : Int) (r_1686 : Int × Bool) (h : table_Find t_1678 id_1679 = some r_1686) : Con Try.prog 37 [(encTable t_1678), (.int .i64 id_1679)] (.tup [(.int .i64 r_1686.1), (.bool r_1686.2)]) := by
  refine ⟨Try.call37, ?_⟩
  refine pure_of_awp Try.func37 rfl Try.ntmps37 (by simp) fun X w => ?_
  show AWp _ _ _ ⟨[(0, .p (encTable t_1678)), (1, .p (.int .i64 id_1679))], []⟩
  simp only [table_Find] at h
  refine awp_seq ?_
  refine awp_region ?_
  refine AL_upto (by exact rfl) (by simp only [go_sem, seval]; exact rfl) ?_
  refine AL_nil ?_
  refine thenA_n ?_
  refine awp_seq ?_
  refine awp_region ?_
  refine AL_upto (by exact rfl) (by simp only [go_sem, seval]; exact rfl) ?_
  obtain ⟨r_1684, hr_1685, h⟩ := Option.bind_eq_some_iff.1 h
  refine AL_con' rfl (guard_none rfl) rfl (by simp only [go_sem, seval]; exact rfl) (by simp only [go_sem, seval]; all_goals ((repeat' refine And.intro ?_ ?_) <;> first | rfl | (simp; done) | (simp; rfl) | (simp [*]; done) | (simp [*]; rfl))) (slices_IndexFunc_Row_con t_1678.Rows (fun (y_1683 : Row) => table_Find_1 y_1683 id_1679) 62 [.imm [.int .i64 id_1679]] (fun y_1683 r h => table_Find_1_con y_1683 id_1679 r h) _ hr_1685) (.inr rfl) rfl ?_
  refine AL_upto (by exact rfl) (by simp only [go_sem, seval]; exact rfl) ?_
  refine AL_nil ?_
  refine thenA_n ?_
  refine awp_seq ?_
  refine awp_region ?_
  refine AL_upto (by exact rfl) (by simp only [go_sem, seval]; exact rfl) ?_
  refine AL_nil ?_
  refine thenA_n ?_
  refine awp_ret ?_
  cases h
  refine retQ_ret (by simp only [Try.results37]; simp only [go_sem, seval]; exact rfl) ?_
  simp only [go_sem, seval]
  all_goals ((repeat' refine And.intro ?_ ?_) <;> first | rfl | (simp; done) | (simp; rfl) | (simp [*]; done) | (simp [*]; rfl))
end Go.Proofs.Ytdmddoljldjjeaa
set_option linter.unusedVariables false
set_option linter.unusedSimpArgs false
namespace Go.Proofs.Ytdmddoljldjjeaa
open Go Go.Ab
set_option maxHeartbeats 4000000 in
theorem slices_Equal_string_con (s1_2267 : List (List UInt8)) (s2_2268 : List (List UInt8)) (r_2297 : Bool) (h : slices_Equal_string s1_2267 s2_2268 = some r_2297) : Con Try.prog 67 [(.slc (List.map PV.str s1_2267)), (.slc (List.map PV.str s2_2268))] (.bool r_2297) := by
  refine ⟨Try.call67, ?_⟩
  refine pure_of_awp Try.func67 rfl Try.ntmps67 (by simp) fun X w => ?_
  show AWp _ _ _ ⟨[(0, .p (.slc (List.map PV.str s1_2267))), (1, .p (.slc (List.map PV.str s2_2268)))], []⟩
  simp only [slices_Equal_string] at h
  refine awp_seq ?_
  refine awp_region ?_
  refine AL_upto (by exact rfl) (by simp only [go_sem, seval]; exact rfl) ?_
  refine AL_nil ?_
  refine thenA_n ?_
  refine awp_seq ?_
  refine awp_seq ?_
  refine awp_region ?_
  refine AL_upto (by exact rfl) (by simp only [go_sem, seval]; exact rfl) ?_
  refine AL_nil ?_
  refine thenA_n ?_
  by_cases hb_2269 : ((s1_2267.length : Int) != (s2_2268.length : Int)) = true
  · rw [if_pos hb_2269] at h
    refine awp_ct (by simp only [go_sem, seval, hb_2269]) ?_
    refine awp_seq ?_
    refine awp_region ?_
    refine AL_upto (by exact rfl) (by simp only [go_sem, seval, hb_2269]; exact rfl) ?_
    refine AL_nil ?_
    refine thenA_n ?_
    refine awp_ret ?_
    refine thenA_ret ?_
    cases h
    refine retQ_ret (by simp only [Try.results67]; simp only [go_sem, seval, hb_2269]; exact rfl) ?_
    simp only [go_sem, seval, hb_2269]
    all_goals ((repeat' refine And.intro ?_ ?_) <;> first | rfl | (simp; done) | (simp; rfl) | (simp [*]; done) | (simp [*]; rfl))
  · rw [if_neg hb_2269] at h
    have hb_2269F := Bool.eq_false_iff.2 hb_2269
    refine awp_cf (by simp only [go_sem, seval, hb_2269F]) ?_
    refine awp_skip ?_
    refine thenA_n ?_
    refine awp_seq ?_
    refine awp_seq ?_
    refine awp_region ?_
    refine AL_upto (by exact rfl) (by simp only [go_sem, seval, hb_2269F]; exact rfl) ?_
    refine AL_nil ?_
    refine thenA_n ?_
    refine awp_block ?_
    obtain ⟨o_2292, hL_2293, h⟩ := Option.bind_eq_some_iff.1 h
    refine awp_loop_L (fun (s : Int) => ⟨[(0, .p (.slc (List.map PV.str s1_2267))), (1, .p (.slc (List.map PV.str s2_2268))), (12, .p (.int .i64 (s1_2267.length : Int))), (13, .p (.int .i64 s))], []⟩) (fun (o : (Unit) ⊕ (Bool)) (e : Exit) (s' : St) => match o with | .inl o_2295 => e = (.exit 0) ∧ Le ⟨Try.prog, Try.f67.ntmps, 0, X, [], fun _ => none, w⟩ s' ⟨[], []⟩ | .inr o_2296 => e = .ret ∧ retQ Try.prog Try.f67 (.bool o_2296) .ret s') (by intro o s hT; rcases o with _ | _ <;> (have hh := hT.1; cases hh)) hL_2293 (by simp only [go_sem, seval, hb_2269F]; all_goals ((repeat' refine And.intro ?_ ?_) <;> first | rfl | (simp; done) | (simp; rfl) | (simp [*]; done) | (simp [*]; rfl))) ?_ ?_
    · clear h
      intro t13_2277 x h
      simp only [slices_Equal_string_l1] at h
      show AWp _ _ _ ⟨[(0, .p (.slc (List.map PV.str s1_2267))), (1, .p (.slc (List.map PV.str s2_2268))), (12, .p (.int .i64 (s1_2267.length : Int))), (13, .p (.int .i64 t13_2277))], []⟩
      refine awp_seq ?_
      refine awp_region ?_
      refine AL_upto (by exact rfl) (by simp only [go_sem, seval]; exact rfl) ?_
      refine AL_nil ?_
      refine thenA_n ?_
      refine awp_seq ?_
      by_cases hb_2286 : t13_2277 < (s1_2267.length : Int)
      · rw [if_pos hb_2286] at h
        have hb_2286T := eq_true hb_2286
        refine awp_ct (by simp only [go_sem, seval, hb_2286T]) ?_
        refine awp_skip ?_
        refine thenA_n ?_
        refine awp_seq ?_
        refine awp_block ?_
        refine awp_seq ?_
        refine awp_region ?_
        refine AL_upto (by exact rfl) (by simp only [go_sem, seval, hb_2286T]; exact rfl) ?_
        refine AL_nil ?_
        refine thenA_n ?_
        refine awp_seq ?_
        refine awp_drawn_walk mixed (by decide) ?_
        obtain ⟨x_2287, hx_2288, h⟩ := Option.bind_eq_some_iff.1 h
        obtain ⟨hx_2288a, hx_2288, hx_2288b⟩ := idx_some hx_2288
        have hx_2288A := eq_true hx_2288a
        have hx_2288B := eq_true hx_2288b
        obtain ⟨x_2289, hx_2290, h⟩ := Option.bind_eq_some_iff.1 h
        obtain ⟨hx_2290a, hx_2290, hx_2290b⟩ := idx_some hx_2290
        have hx_2290A := eq_true hx_2290a
        have hx_2290B := eq_true hx_2290b
        refine DGo.upto (by exact rfl) (by simp only [go_sem, seval, hb_2286T, hx_2288, hx_2288A, hx_2288B, hx_2290, hx_2290A, hx_2290B]; exact ⟨rfl, rfl⟩) ?_
        refine DGo.fin rfl ?_
        refine thenA_n ?_
        by_cases hb_2291 : (x_2287 == x_2289) = true
        · rw [if_pos hb_2291] at h
          refine awp_cf (by simp only [go_sem, seval, hb_2286T, hb_2291]) ?_
          refine awp_skip ?_
          refine blockA_n ?_
          refine thenA_n ?_
          refine awp_region ?_
          refine AL_upto (by exact rfl) (by simp only [go_sem, seval, hb_2286T, hb_2291]; exact rfl) ?_
          refine AL_nil ?_
          cases h
          refine ⟨rfl, ?_⟩
          simp only [go_sem, seval, hb_2286T, hb_2291]
          all_goals ((repeat' refine And.intro ?_ ?_) <;> first | rfl | (simp; done) | (simp; rfl) | (simp [*]; done) | (simp [*]; rfl))
        · rw [if_neg hb_2291] at h
          have hb_2291F := Bool.eq_false_iff.2 hb_2291
          refine awp_ct (by simp only [go_sem, seval, hb_2286T, hb_2291F]) ?_
          refine awp_seq ?_
          refine awp_region ?_
          refine AL_upto (by exact rfl) (by simp only [go_sem, seval, hb_2286T, hb_2291F]; exact rfl) ?_
          refine AL_nil ?_
          refine thenA_n ?_
          refine awp_ret ?_
          refine blockA_ret ?_
          refine thenA_ret ?_
          cases h
          refine ⟨rfl, ?_⟩
          refine retQ_ret (by simp only [Try.results67]; simp only [go_sem, seval, hb_2286T, hb_2291F]; exact rfl) ?_
          simp only [go_sem, seval, hb_2286T, hb_2291F]
          all_goals ((repeat' refine And.intro ?_ ?_) <;> first | rfl | (simp; done) | (simp; rfl) | (simp [*]; done) | (simp [*]; rfl))
      · rw [if_neg hb_2286] at h
        have hb_2286T := eq_false hb_2286
        refine awp_cf (by simp only [go_sem, seval, hb_2286T]) ?_
        refine awp_exit ?_
        refine thenA_exit ?_
        cases h
        refine ⟨rfl, ?_⟩
        simp only [go_sem, seval, hb_2286T]
        all_goals ((repeat' refine And.intro ?_ ?_) <;> first | rfl | (simp; done) | (simp; rfl) | (simp [*]; done) | (simp [*]; rfl))
    · intro e s' hT
      rcases o_2292 with ⟨⟩ | r_2294
      · try simp only at h
        try simp only at hT
        obtain ⟨rfl, hle⟩ := hT
        refine Wk.to hle ?_
        clear hle
        refine blockA_here ?_
        refine thenA_n ?_
        refine awp_seq ?_
        refine awp_region ?_
        refine AL_upto (by exact rfl) (by simp only [go_sem, seval, hb_2269F]; exact rfl) ?_
        refine AL_nil ?_
        refine thenA_n ?_
        refine awp_ret ?_
        cases h
        refine retQ_ret (by simp only [Try.results67]; simp only [go_sem, seval, hb_2269F]; exact rfl) ?_
        simp only [go_sem, seval, hb_2269F]
        all_goals ((repeat' refine And.intro ?_ ?_) <;> first | rfl | (simp; done) | (simp; rfl) | (simp [*]; done) | (simp [*]; rfl))
      · try simp only at h
        try simp only at hT
        obtain ⟨rfl, hq⟩ := hT
        refine Wk.now ?_
        refine blockA_ret ?_
        refine thenA_ret ?_
        cases h
        exact hq
end Go.Proofs.Ytdmddoljldjjeaa
set_option linter.unusedVariables false
set_option linter.unusedSimpArgs false
namespace Go.Proofs.Ytdmddoljldjjeaa
open Go Go.Ab
set_option maxHeartbeats 4000000 in
theorem slices_ContainsFunc_Row_con (s_2298 : List Row) (f_2299 : Row → Option (Bool)) (f_2299_k : FuncId) (f_2299_cs : List PV) (f_2299_h : ∀ (y_2300 : Row) (r_2301 : Bool), f_2299 y_2300 = some r_2301 → Con Try.prog f_2299_k ((encRow y_2300) :: f_2299_cs) (.bool r_2301)) (r_2304 : Bool) (h : slices_ContainsFunc_Row s_2298 f_2299 = some r_2304) : Con Try.prog 86 [(.slc (List.map encRow s_2298)), .func (.func f_2299_k) f_2299_cs] (.bool r_2304) := by
  refine ⟨Try.call86, ?_⟩
  refine pure_of_awp Try.func86 rfl Try.ntmps86 (by simp) fun X w => ?_
  show AWp _ _ _ ⟨[(0, .p (.slc (List.map encRow s_2298))), (1, .p (.func (.func f_2299_k) f_2299_cs))], []⟩
  simp only [slices_ContainsFunc_Row] at h
  refine awp_seq ?_
  refine awp_region ?_
  refine AL_upto (by exact rfl) (by simp only [go_sem, seval]; exact rfl) ?_
  refine AL_nil ?_
  refine thenA_n ?_
  refine awp_seq ?_
  refine awp_region ?_
  refine AL_upto (by exact rfl) (by simp only [go_sem, seval]; exact rfl) ?_
  obtain ⟨r_2302, hr_2303, h⟩ := Option.bind_eq_some_iff.1 h
  refine AL_con' rfl (guard_none rfl) rfl (by simp only [go_sem, seval]; exact rfl) (by simp only [go_sem, seval]; all_goals ((repeat' refine And.intro ?_ ?_) <;> first | rfl | (simp; done) | (simp; rfl) | (simp [*]; done) | (simp [*]; rfl))) (slices_IndexFunc_Row_con s_2298 f_2299 f_2299_k f_2299_cs f_2299_h _ hr_2303) (.inr rfl) rfl ?_
  refine AL_upto (by exact rfl) (by simp only [go_sem, seval]; exact rfl) ?_
  refine AL_nil ?_
  refine thenA_n ?_
  refine awp_ret ?_
  cases h
  refine retQ_ret (by simp only [Try.results86]; simp only [go_sem, seval]; exact rfl) ?_
  simp only [go_sem, seval]
  all_goals ((repeat' refine And.intro ?_ ?_) <;> first | rfl | (simp; done) | (simp; rfl) | (simp [*]; done) | (simp [*]; rfl))
end Go.Proofs.Ytdmddoljldjjeaa
set_option linter.unusedVariables false
set_option linter.unusedSimpArgs false
namespace Go.Proofs.Ytdmddoljldjjeaa
open Go Go.Ab
set_option maxHeartbeats 4000000 in
theorem survivor_divides_1_con (r_2305 : Row) (c_2306 : List (Int × Bool)) (r_2307 : Bool) (h : survivor_divides_1 r_2305 c_2306 = some r_2307) : Con Try.prog 87 [(encRow r_2305), .imm [.mapv (encK (PV.int .i64) c_2306) (encW PV.bool c_2306)]] (.bool r_2307) := by
  refine ⟨Try.call87, ?_⟩
  refine pure_of_awp Try.func87 rfl Try.ntmps87 (by simp) fun X w => ?_
  show AWp _ _ _ ⟨[(0, .p (encRow r_2305)), (1, .p (.imm [.mapv (encK (PV.int .i64) c_2306) (encW PV.bool c_2306)]))], []⟩
  simp only [survivor_divides_1] at h
  refine awp_seq ?_
  refine awp_region ?_
  refine AL_upto (by exact rfl) (by simp only [go_sem, seval]; exact rfl) ?_
  refine AL_nil ?_
  refine thenA_n ?_
  refine awp_seq ?_
  refine awp_region ?_
  refine AL_upto (by exact rfl) (by simp only [go_sem, seval]; exact rfl) ?_
  refine AL_nil ?_
  refine thenA_n ?_
  refine awp_ret ?_
  cases h
  refine retQ_ret (by simp only [Try.results87]; simp only [go_sem, seval]; exact rfl) ?_
  simp only [go_sem, seval]
  all_goals ((repeat' refine And.intro ?_ ?_) <;> first | rfl | (simp; done) | (simp; rfl) | (simp [*]; done) | (simp [*]; rfl))
end Go.Proofs.Ytdmddoljldjjeaa
set_option linter.unusedVariables false
set_option linter.unusedSimpArgs false
namespace Go.Proofs.Ytdmddoljldjjeaa
open Go Go.Ab
set_option maxHeartbeats 4000000 in
theorem survivor_divides_con (t_2308 : Table) (clusters_2309 : List (List Int)) (r_2319 : Bool) (h : survivor_divides t_2308 clusters_2309 = some r_2319) : Con Try.prog 68 [(encTable t_2308), (.slc (List.map (encL (PV.int .i64)) clusters_2309))] (.bool r_2319) := by
  refine ⟨Try.call68, ?_⟩
  refine pure_of_awp Try.func68 rfl Try.ntmps68 (by simp) fun X w => ?_
  show AWp _ _ _ ⟨[(0, .p (encTable t_2308)), (1, .p (.slc (List.map (encL (PV.int .i64)) clusters_2309)))], []⟩
  simp only [survivor_divides] at h
  refine awp_seq ?_
  refine awp_region ?_
  refine AL_upto (by exact rfl) (by simp only [go_sem, seval]; exact rfl) ?_
  refine AL_nil ?_
  refine thenA_n ?_
  refine awp_seq ?_
  refine awp_region ?_
  refine AL_upto (by exact rfl) (by simp only [go_sem, seval]; exact rfl) ?_
  obtain ⟨r_2312, hr_2313, h⟩ := Option.bind_eq_some_iff.1 h
  refine AL_con' rfl (guard_none rfl) rfl (by simp only [go_sem, seval]; exact rfl) (by simp only [go_sem, seval]; all_goals ((repeat' refine And.intro ?_ ?_) <;> first | rfl | (simp; done) | (simp; rfl) | (simp [*]; done) | (simp [*]; rfl))) (survivor_disjoint_con clusters_2309 _ hr_2313) (by first | exact .inl rfl | exact .inl (by simp only [go_sem])) rfl ?_
  refine AL_upto (by exact rfl) (by simp only [go_sem, seval]; exact rfl) ?_
  refine AL_nil ?_
  refine thenA_n ?_
  refine awp_seq ?_
  refine awp_seq ?_
  refine awp_region ?_
  refine AL_upto (by exact rfl) (by simp only [go_sem, seval]; exact rfl) ?_
  by_cases hb_2314 : r_2312.2 = true
  · rw [if_pos hb_2314] at h
    refine AL_known (d := 14) (v := .p (.bool false)) (by simp only [go_sem, seval, hb_2314]) ?_
    refine AL_gt' (guard_true' rfl rfl (by exact rfl) (by exact rfl)) rfl (by simp only [go_sem, seval, hb_2314]; exact rfl) ?_
    refine AL_gt' (guard_true' rfl rfl (by exact rfl) (by exact rfl)) rfl (by simp only [go_sem, seval, hb_2314]; exact rfl) ?_
    refine AL_gt' (guard_true' rfl rfl (by exact rfl) (by exact rfl)) rfl (by simp only [go_sem, seval, hb_2314]; exact rfl) ?_
    refine AL_gt' (guard_true' rfl rfl (by exact rfl) (by exact rfl)) rfl (by simp only [go_sem, seval, hb_2314]; exact rfl) ?_
    refine AL_gt' (guard_true' rfl rfl (by exact rfl) (by exact rfl)) rfl (by simp only [go_sem, seval, hb_2314]; exact rfl) ?_
    refine AL_gt' (guard_true' rfl rfl (by exact rfl) (by exact rfl)) rfl (by simp only [go_sem, seval, hb_2314]; exact rfl) ?_
    refine AL_upto (by exact rfl) (by simp only [go_sem, seval, hb_2314]; exact rfl) ?_
    refine AL_nil ?_
    refine thenA_n ?_
    by_cases hb_2315 : ((r_2312.1.length : Int) != (t_2308.Rows.length : Int)) = true
    · rw [if_pos hb_2315] at h
      refine awp_ct (by simp only [go_sem, seval, hb_2314, hb_2315]) ?_
      refine awp_seq ?_
      refine awp_region ?_
      refine AL_upto (by exact rfl) (by simp only [go_sem, seval, hb_2314, hb_2315]; exact rfl) ?_
      refine AL_nil ?_
      refine thenA_n ?_
      refine awp_ret ?_
      refine thenA_ret ?_
      cases h
      refine retQ_ret (by simp only [Try.results68]; simp only [go_sem, seval, hb_2314, hb_2315]; exact rfl) ?_
      simp only [go_sem, seval, hb_2314, hb_2315]
      all_goals ((repeat' refine And.intro ?_ ?_) <;> first | rfl | (simp; done) | (simp; rfl) | (simp [*]; done) | (simp [*]; rfl))
    · rw [if_neg hb_2315] at h
      have hb_2315F := Bool.eq_false_iff.2 hb_2315
      refine awp_cf (by simp only [go_sem, seval, hb_2314, hb_2315F]) ?_
      refine awp_skip ?_
      refine thenA_n ?_
      refine awp_seq ?_
      refine awp_region ?_
      refine AL_upto (by exact rfl) (by simp only [go_sem, seval, hb_2314, hb_2315F]; exact rfl) ?_
      obtain ⟨r_2317, hr_2318, h⟩ := Option.bind_eq_some_iff.1 h
      refine AL_con' rfl (guard_none rfl) rfl (by simp only [go_sem, seval, hb_2314, hb_2315F]; exact rfl) (by simp only [go_sem, seval, hb_2314, hb_2315F]; all_goals ((repeat' refine And.intro ?_ ?_) <;> first | rfl | (simp; done) | (simp; rfl) | (simp [*]; done) | (simp [*]; rfl))) (slices_ContainsFunc_Row_con t_2308.Rows (fun (y_2316 : Row) => survivor_divides_1 y_2316 r_2312.1) 87 [.imm [.mapv (encK (PV.int .i64) r_2312.1) (encW PV.bool r_2312.1)]] (fun y_2316 r h => survivor_divides_1_con y_2316 r_2312.1 r h) _ hr_2318) (.inr rfl) rfl ?_
      refine AL_upto (by exact rfl) (by simp only [go_sem, seval, hb_2314, hb_2315F]; exact rfl) ?_
      refine AL_nil ?_
      refine thenA_n ?_
      refine awp_ret ?_
      cases h
      refine retQ_ret (by simp only [Try.results68]; simp only [go_sem, seval, hb_2314, hb_2315F]; exact rfl) ?_
      simp only [go_sem, seval, hb_2314, hb_2315F]
      all_goals ((repeat' refine And.intro ?_ ?_) <;> first | rfl | (simp; done) | (simp; rfl) | (simp [*]; done) | (simp [*]; rfl))
  · rw [if_neg hb_2314] at h
    have hb_2314F := Bool.eq_false_iff.2 hb_2314
    refine AL_known (d := 14) (v := .p (.bool true)) (by simp only [go_sem, seval, hb_2314F]) ?_
    refine AL_skips (by exact rfl) ?_
    refine AL_upto (by exact rfl) (by simp only [go_sem, seval, hb_2314F]; exact rfl) ?_
    refine AL_nil ?_
    refine thenA_n ?_
    refine awp_ct (by simp only [go_sem, seval, hb_2314F]) ?_
    refine awp_seq ?_
    refine awp_region ?_
    refine AL_upto (by exact rfl) (by simp only [go_sem, seval, hb_2314F]; exact rfl) ?_
    refine AL_nil ?_
    refine thenA_n ?_
    refine awp_ret ?_
    refine thenA_ret ?_
    cases h
    refine retQ_ret (by simp only [Try.results68]; simp only [go_sem, seval, hb_2314F]; exact rfl) ?_
    simp only [go_sem, seval, hb_2314F]
    all_goals ((repeat' refine And.intro ?_ ?_) <;> first | rfl | (simp; done) | (simp; rfl) | (simp [*]; done) | (simp [*]; rfl))
end Go.Proofs.Ytdmddoljldjjeaa
set_option linter.unusedVariables false
set_option linter.unusedSimpArgs false
namespace Go.Proofs.Ytdmddoljldjjeaa
open Go Go.Ab
set_option maxHeartbeats 4000000 in
theorem survivor_merges_con (t_2320 : Table) (m_2321 : Merged) (r_2581 : Bool) (h : survivor_merges t_2320 m_2321 = some r_2581) : Con Try.prog 41 [(encTable t_2320), (encMerged m_2321)] (.bool r_2581) := by
  refine ⟨Try.call41, ?_⟩
  refine pure_of_awp Try.func41 rfl Try.ntmps41 (by simp) fun X w => ?_
  show AWp _ _ _ ⟨[(0, .p (encTable t_2320)), (1, .p (encMerged m_2321))], []⟩
  simp only [survivor_merges] at h
  refine awp_seq ?_
  refine awp_region ?_
  refine AL_upto (by exact rfl) (by simp only [go_sem, seval]; exact rfl) ?_
  refine AL_nil ?_
  refine thenA_n ?_
  refine awp_seq ?_
  refine awp_seq ?_
  refine awp_region ?_
  refine AL_upto (by exact rfl) (by simp only [go_sem, seval]; exact rfl) ?_
  obtain ⟨r_2322, hr_2323, h⟩ := Option.bind_eq_some_iff.1 h
  refine AL_con' rfl (guard_none rfl) rfl (by simp only [go_sem, seval]; exact rfl) (by simp only [go_sem, seval]; all_goals ((repeat' refine And.intro ?_ ?_) <;> first | rfl | (simp; done) | (simp; rfl) | (simp [*]; done) | (simp [*]; rfl))) (survivor_wellFormed_con m_2321 _ hr_2323) (.inr rfl) rfl ?_
  refine AL_upto (by exact rfl) (by simp only [go_sem, seval]; exact rfl) ?_
  by_cases hb_2324 : r_2322 = true
  · rw [if_pos hb_2324] at h
    refine AL_known (d := 14) (v := .p (.bool false)) (by simp only [go_sem, seval, hb_2324]) ?_
    refine AL_gt' (guard_true' rfl rfl (by exact rfl) (by exact rfl)) rfl (by simp only [go_sem, seval, hb_2324]; exact rfl) ?_
    refine AL_gt' (guard_true' rfl rfl (by exact rfl) (by exact rfl)) rfl (by simp only [go_sem, seval, hb_2324]; exact rfl) ?_
    refine AL_gt' (guard_true' rfl rfl (by exact rfl) (by exact rfl)) rfl (by simp only [go_sem, seval, hb_2324]; exact rfl) ?_
    refine AL_gt' (guard_true' rfl rfl (by exact rfl) (by exact rfl)) rfl (by simp only [go_sem, seval, hb_2324]; exact rfl) ?_
    refine AL_gt' (guard_true' rfl rfl (by exact rfl) (by exact rfl)) rfl (by simp only [go_sem, seval, hb_2324]; exact rfl) ?_
    refine AL_gt' (guard_true' rfl rfl (by exact rfl) (by exact rfl)) rfl (by simp only [go_sem, seval, hb_2324]; exact rfl) ?_
    refine AL_upto (by exact rfl) (by simp only [go_sem, seval, hb_2324]; exact rfl) ?_
    by_cases hb_2325 : (t_2320.Name == m_2321.Table.Name) = true
    · rw [if_pos hb_2325] at h
      refine AL_known (d := 22) (v := .p (.bool false)) (by simp only [go_sem, seval, hb_2324, hb_2325]) ?_
      refine AL_gt' (guard_true' rfl rfl (by exact rfl) (by exact rfl)) rfl (by simp only [go_sem, seval, hb_2324, hb_2325]; exact rfl) ?_
      refine AL_gt' (guard_true' rfl rfl (by exact rfl) (by exact rfl)) rfl (by simp only [go_sem, seval, hb_2324, hb_2325]; exact rfl) ?_
      refine AL_gt' (guard_true' rfl rfl (by exact rfl) (by exact rfl)) rfl (by simp only [go_sem, seval, hb_2324, hb_2325]; exact rfl) ?_
      refine AL_gt' (guard_true' rfl rfl (by exact rfl) (by exact rfl)) rfl (by simp only [go_sem, seval, hb_2324, hb_2325]; exact rfl) ?_
      refine AL_gt' (guard_true' rfl rfl (by exact rfl) (by exact rfl)) rfl (by simp only [go_sem, seval, hb_2324, hb_2325]; exact rfl) ?_
      obtain ⟨r_2326, hr_2327, h⟩ := Option.bind_eq_some_iff.1 h
      refine AL_con' rfl (guard_true' rfl rfl (by exact rfl) (by exact rfl)) rfl (by simp only [go_sem, seval, hb_2324, hb_2325]; exact rfl) (by simp only [go_sem, seval, hb_2324, hb_2325]; all_goals ((repeat' refine And.intro ?_ ?_) <;> first | rfl | (simp; done) | (simp; rfl) | (simp [*]; done) | (simp [*]; rfl))) (slices_Equal_string_con t_2320.Attrs m_2321.Table.Attrs _ hr_2327) (.inr rfl) rfl ?_
      refine AL_gt' (guard_true' rfl rfl (by exact rfl) (by exact rfl)) rfl (by simp only [go_sem, seval, hb_2324, hb_2325]; exact rfl) ?_
      refine AL_upto (by exact rfl) (by simp only [go_sem, seval, hb_2324, hb_2325]; exact rfl) ?_
      by_cases hb_2328 : r_2326 = true
      · rw [if_pos hb_2328] at h
        refine AL_known (d := 31) (v := .p (.bool false)) (by simp only [go_sem, seval, hb_2324, hb_2325, hb_2328]) ?_
        refine AL_gt' (guard_true' rfl rfl (by exact rfl) (by exact rfl)) rfl (by simp only [go_sem, seval, hb_2324, hb_2325, hb_2328]; exact rfl) ?_
        refine AL_gt' (guard_true' rfl rfl (by exact rfl) (by exact rfl)) rfl (by simp only [go_sem, seval, hb_2324, hb_2325, hb_2328]; exact rfl) ?_
        refine AL_gt' (guard_true' rfl rfl (by exact rfl) (by exact rfl)) rfl (by simp only [go_sem, seval, hb_2324, hb_2325, hb_2328]; exact rfl) ?_
        obtain ⟨r_2329, hr_2330, h⟩ := Option.bind_eq_some_iff.1 h
        refine AL_con' rfl (guard_true' rfl rfl (by exact rfl) (by exact rfl)) rfl (by simp only [go_sem, seval, hb_2324, hb_2325, hb_2328]; exact rfl) (by simp only [go_sem, seval, hb_2324, hb_2325, hb_2328]; all_goals ((repeat' refine And.intro ?_ ?_) <;> first | rfl | (simp; done) | (simp; rfl) | (simp [*]; done) | (simp [*]; rfl))) (survivor_divides_con t_2320 m_2321.Clusters _ hr_2330) (.inr rfl) rfl ?_
        refine AL_gt' (guard_true' rfl rfl (by exact rfl) (by exact rfl)) rfl (by simp only [go_sem, seval, hb_2324, hb_2325, hb_2328]; exact rfl) ?_
        refine AL_upto (by exact rfl) (by simp only [go_sem, seval, hb_2324, hb_2325, hb_2328]; exact rfl) ?_
        refine AL_nil ?_
        refine thenA_n ?_
        by_cases hb_2331 : r_2329 = true
        · rw [if_pos hb_2331] at h
          refine awp_cf (by simp only [go_sem, seval, hb_2324, hb_2325, hb_2328, hb_2331]) ?_
          refine awp_skip ?_
          refine thenA_n ?_
          refine awp_seq ?_
          refine awp_seq ?_
          refine awp_region ?_
          refine AL_upto (by exact rfl) (by simp only [go_sem, seval, hb_2324, hb_2325, hb_2328, hb_2331]; exact rfl) ?_
          refine AL_nil ?_
          refine thenA_n ?_
          refine awp_block ?_
          obtain ⟨o_2576, hL_2577, h⟩ := Option.bind_eq_some_iff.1 h
          refine awp_loop_L (fun (s : Int) => ⟨[(2, .loc 2 1 0 0), (3, .loc 3 1 0 0), (40, .p (.slc (List.map encRow m_2321.Table.Rows))), (41, .p (.int .i64 (m_2321.Table.Rows.length : Int))), (42, .p (.int .i64 s))], [(2, .arr 52 3 1 [.p (encTable t_2320)]), (3, .arr 55 5 1 [.p (encMerged m_2321)])]⟩) (fun (o : (Unit) ⊕ (Bool)) (e : Exit) (s' : St) => match o with | .inl o_2579 => e = (.exit 0) ∧ Le ⟨Try.prog, Try.f41.ntmps, 0, X, [], fun _ => none, w⟩ s' ⟨[], []⟩ | .inr o_2580 => e = .ret ∧ retQ Try.prog Try.f41 (.bool o_2580) .ret s') (by intro o s hT; rcases o with _ | _ <;> (have hh := hT.1; cases hh)) hL_2577 (by simp only [go_sem, seval, hb_2324, hb_2325, hb_2328, hb_2331]; all_goals ((repeat' refine And.intro ?_ ?_) <;> first | rfl | (simp; done) | (simp; rfl) | (simp [*]; done) | (simp [*]; rfl))) ?_ ?_
          · clear h
            intro t42_2413 x h
            simp only [survivor_merges_l4] at h
            show AWp _ _ _ ⟨[(2, .loc 2 1 0 0), (3, .loc 3 1 0 0), (40, .p (.slc (List.map encRow m_2321.Table.Rows))), (41, .p (.int .i64 (m_2321.Table.Rows.length : Int))), (42, .p (.int .i64 t42_2413))], [(2, .arr 52 3 1 [.p (encTable t_2320)]), (3, .arr 55 5 1 [.p (encMerged m_2321)])]⟩
            refine awp_seq ?_
            refine awp_region ?_
            refine AL_upto (by exact rfl) (by simp only [go_sem, seval]; exact rfl) ?_
            refine AL_nil ?_
            refine thenA_n ?_
            refine awp_seq ?_
            by_cases hb_2496 : t42_2413 < (m_2321.Table.Rows.length : Int)
            · rw [if_pos hb_2496] at h
              have hb_2496T := eq_true hb_2496
              refine awp_ct (by simp only [go_sem, seval, hb_2496T]) ?_
              refine awp_skip ?_
              refine thenA_n ?_
              refine awp_seq ?_
              refine awp_block ?_
              refine awp_seq ?_
              refine awp_region ?_
              obtain ⟨x_2499, hx_2500, h⟩ := Option.bind_eq_some_iff.1 h
              obtain ⟨hx_2500a, hx_2500, hx_2500b⟩ := idx_some hx_2500
              have hx_2500A := eq_true hx_2500a
              have hx_2500B := eq_true hx_2500b
              refine AL_upto (by exact rfl) (by simp only [go_sem, seval, hb_2496T, hx_2500, hx_2500A, hx_2500B]; exact rfl) ?_
              refine AL_nil ?_
              refine thenA_n ?_
              refine awp_seq ?_
              refine awp_region ?_
              refine AL_upto (by exact rfl) (by simp only [go_sem, seval, hb_2496T]; exact rfl) ?_
              refine AL_nil ?_
              refine thenA_n ?_
              refine awp_block ?_
              obtain ⟨o_2571, hL_2572, h⟩ := Option.bind_eq_some_iff.1 h
              refine awp_loop_L (fun (s : Int) => ⟨[(2, .loc 2 1 0 0), (3, .loc 3 1 0 0), (5, .p (.int .i64 t42_2413)), (40, .p (.slc (List.map encRow m_2321.Table.Rows))), (41, .p (.int .i64 (m_2321.Table.Rows.length : Int))), (42, .p (.int .i64 t42_2413)), (48, .p (.slc (List.map encValue x_2499.Values))), (49, .p (.int .i64 (x_2499.Values.length : Int))), (50, .p (.int .i64 s))], [(2, .arr 52 3 1 [.p (encTable t_2320)]), (3, .arr 55 5 1 [.p (encMerged m_2321)])]⟩) (fun (o : (Unit) ⊕ (Bool)) (e : Exit) (s' : St) => match o with | .inl o_2574 => e = (.exit 2) ∧ Le ⟨Try.prog, Try.f41.ntmps, 0, X, [], fun _ => none, w⟩ s' ⟨[(2, .loc 2 1 0 0), (3, .loc 3 1 0 0), (40, .p (.slc (List.map encRow m_2321.Table.Rows))), (41, .p (.int .i64 (m_2321.Table.Rows.length : Int))), (42, .p (.int .i64 t42_2413))], [(2, .arr 52 3 1 [.p (encTable t_2320)]), (3, .arr 55 5 1 [.p (encMerged m_2321)])]⟩ | .inr o_2575 => e = .ret ∧ retQ Try.prog Try.f41 (.bool o_2575) .ret s') (by intro o s hT; rcases o with _ | _ <;> (have hh := hT.1; cases hh)) hL_2572 (by simp only [go_sem, seval, hb_2496T]; all_goals ((repeat' refine And.intro ?_ ?_) <;> first | rfl | (simp; done) | (simp; rfl) | (simp [*]; done) | (simp [*]; rfl))) ?_ ?_
              · clear h
                intro t50_2524 x h
                simp only [survivor_merges_l3] at h
                show AWp _ _ _ ⟨[(2, .loc 2 1 0 0), (3, .loc 3 1 0 0), (5, .p (.int .i64 t42_2413)), (40, .p (.slc (List.map encRow m_2321.Table.Rows))), (41, .p (.int .i64 (m_2321.Table.Rows.length : Int))), (42, .p (.int .i64 t42_2413)), (48, .p (.slc (List.map encValue x_2499.Values))), (49, .p (.int .i64 (x_2499.Values.length : Int))), (50, .p (.int .i64 t50_2524))], [(2, .arr 52 3 1 [.p (encTable t_2320)]), (3, .arr 55 5 1 [.p (encMerged m_2321)])]⟩
                refine awp_seq ?_
                refine awp_region ?_
                refine AL_upto (by exact rfl) (by simp only [go_sem, seval]; exact rfl) ?_
                refine AL_nil ?_
                refine thenA_n ?_
                refine awp_seq ?_
                by_cases hb_2549 : t50_2524 < (x_2499.Values.length : Int)
                · rw [if_pos hb_2549] at h
                  have hb_2549T := eq_true hb_2549
                  refine awp_ct (by simp only [go_sem, seval, hb_2549T]) ?_
                  refine awp_skip ?_
                  refine thenA_n ?_
                  refine awp_seq ?_
                  refine awp_block ?_
                  refine awp_seq ?_
                  refine awp_region ?_
                  obtain ⟨x_2552, hx_2553, h⟩ := Option.bind_eq_some_iff.1 h
                  obtain ⟨hx_2553a, hx_2553, hx_2553b⟩ := idx_some hx_2553
                  have hx_2553A := eq_true hx_2553a
                  have hx_2553B := eq_true hx_2553b
                  refine AL_upto (by exact rfl) (by simp only [go_sem, seval, hb_2549T, hx_2553, hx_2553A, hx_2553B]; exact rfl) ?_
                  refine AL_nil ?_
                  refine thenA_n ?_
                  refine awp_seq ?_
                  refine awp_drawn_walk mixed (by decide) ?_
                  obtain ⟨x_2560, hx_2561, h⟩ := Option.bind_eq_some_iff.1 h
                  obtain ⟨hx_2561a, hx_2561, hx_2561b⟩ := idx_some hx_2561
                  have hx_2561A := eq_true hx_2561a
                  have hx_2561B := eq_true hx_2561b
                  obtain ⟨x_2562, hx_2563, h⟩ := Option.bind_eq_some_iff.1 h
                  obtain ⟨hx_2563a, hx_2563, hx_2563b⟩ := idx_some hx_2563
                  have hx_2563A := eq_true hx_2563a
                  have hx_2563B := eq_true hx_2563b
                  refine DGo.upto (by exact rfl) (by simp only [go_sem, seval, hb_2549T, hx_2561, hx_2561A, hx_2561B, hx_2563, hx_2563A, hx_2563B]; exact ⟨rfl, rfl⟩) ?_
                  obtain ⟨r_2564, hr_2565, h⟩ := Option.bind_eq_some_iff.1 h
                  refine DGo.con' rfl (guard_none rfl) rfl (by simp only [go_sem, seval, hb_2549T]; exact rfl) (by simp only [go_sem, seval, hb_2549T]; all_goals ((repeat' refine And.intro ?_ ?_) <;> first | rfl | (simp; done) | (simp; rfl) | (simp [*]; done) | (simp [*]; rfl))) (by simp only [go_sem, seval, hb_2549T]; exact rfl) (table_Find_con t_2320 x_2562 _ hr_2565) (.inr rfl) rfl ?_
                  refine DGo.upto (by exact rfl) (by simp only [go_sem, seval, hb_2549T]; exact ⟨rfl, rfl⟩) ?_
                  refine DGo.fin rfl ?_
                  refine thenA_n ?_
                  refine awp_seq ?_
                  refine awp_drawn_walk mixed (by decide) ?_
                  obtain ⟨x_2566, hx_2567, h⟩ := Option.bind_eq_some_iff.1 h
                  obtain ⟨hx_2567a, hx_2567, hx_2567b⟩ := idx_some hx_2567
                  have hx_2567A := eq_true hx_2567a
                  have hx_2567B := eq_true hx_2567b
                  obtain ⟨x_2568, hx_2569, h⟩ := Option.bind_eq_some_iff.1 h
                  obtain ⟨hx_2569a, hx_2569, hx_2569b⟩ := idx_some hx_2569
                  have hx_2569A := eq_true hx_2569a
                  have hx_2569B := eq_true hx_2569b
                  refine DGo.upto (by exact rfl) (by simp only [go_sem, seval, hb_2549T, hx_2567, hx_2567A, hx_2567B, hx_2569, hx_2569A, hx_2569B]; exact ⟨rfl, rfl⟩) ?_
                  refine DGo.fin rfl ?_
                  refine thenA_n ?_
                  by_cases hb_2570 : ((x_2568.Kind == x_2552.Kind) && ((x_2568.Num == x_2552.Num) && (x_2568.Str == x_2552.Str))) = true
                  · rw [if_pos hb_2570] at h
                    refine awp_cf (by simp only [go_sem, seval, hb_2549T, hb_2570]) ?_
                    refine awp_skip ?_
                    refine blockA_n ?_
                    refine thenA_n ?_
                    refine awp_region ?_
                    refine AL_upto (by exact rfl) (by simp only [go_sem, seval, hb_2549T, hb_2570]; exact rfl) ?_
                    refine AL_nil ?_
                    cases h
                    refine ⟨rfl, ?_⟩
                    simp only [go_sem, seval, hb_2549T, hb_2570]
                    all_goals ((repeat' refine And.intro ?_ ?_) <;> first | rfl | (simp; done) | (simp; rfl) | (simp [*]; done) | (simp [*]; rfl))
                  · rw [if_neg hb_2570] at h
                    have hb_2570F := Bool.eq_false_iff.2 hb_2570
                    refine awp_ct (by simp only [go_sem, seval, hb_2549T, hb_2570F]) ?_
                    refine awp_seq ?_
                    refine awp_region ?_
                    refine AL_upto (by exact rfl) (by simp only [go_sem, seval, hb_2549T, hb_2570F]; exact rfl) ?_
                    refine AL_nil ?_
                    refine thenA_n ?_
                    refine awp_ret ?_
                    refine blockA_ret ?_
                    refine thenA_ret ?_
                    cases h
                    refine ⟨rfl, ?_⟩
                    refine retQ_ret (by simp only [Try.results41]; simp only [go_sem, seval, hb_2549T, hb_2570F]; exact rfl) ?_
                    simp only [go_sem, seval, hb_2549T, hb_2570F]
                    all_goals ((repeat' refine And.intro ?_ ?_) <;> first | rfl | (simp; done) | (simp; rfl) | (simp [*]; done) | (simp [*]; rfl))
                · rw [if_neg hb_2549] at h
                  have hb_2549T := eq_false hb_2549
                  refine awp_cf (by simp only [go_sem, seval, hb_2549T]) ?_
                  refine awp_exit ?_
                  refine thenA_exit ?_
                  cases h
                  refine ⟨rfl, ?_⟩
                  simp only [go_sem, seval, hb_2549T]
                  all_goals ((repeat' refine And.intro ?_ ?_) <;> first | rfl | (simp; done) | (simp; rfl) | (simp [*]; done) | (simp [*]; rfl))
              · intro e s' hT
                rcases o_2571 with ⟨⟩ | r_2573
                · try simp only at h
                  try simp only at hT
                  obtain ⟨rfl, hle⟩ := hT
                  refine Wk.to hle ?_
                  clear hle
                  refine blockA_here ?_
                  refine blockA_n ?_
                  refine thenA_n ?_
                  refine awp_region ?_
                  refine AL_upto (by exact rfl) (by simp only [go_sem, seval, hb_2496T]; exact rfl) ?_
                  refine AL_nil ?_
                  cases h
                  refine ⟨rfl, ?_⟩
                  simp only [go_sem, seval, hb_2496T]
                  all_goals ((repeat' refine And.intro ?_ ?_) <;> first | rfl | (simp; done) | (simp; rfl) | (simp [*]; done) | (simp [*]; rfl))
                · try simp only at h
                  try simp only at hT
                  obtain ⟨rfl, hq⟩ := hT
                  refine Wk.now ?_
                  refine blockA_ret ?_
                  refine blockA_ret ?_
                  refine thenA_ret ?_
                  cases h
                  refine ⟨rfl, ?_⟩
                  exact hq
            · rw [if_neg hb_2496] at h
              have hb_2496T := eq_false hb_2496
              refine awp_cf (by simp only [go_sem, seval, hb_2496T]) ?_
              refine awp_exit ?_
              refine thenA_exit ?_
              cases h
              refine ⟨rfl, ?_⟩
              simp only [go_sem, seval, hb_2496T]
              all_goals ((repeat' refine And.intro ?_ ?_) <;> first | rfl | (simp; done) | (simp; rfl) | (simp [*]; done) | (simp [*]; rfl))
          · intro e s' hT
            rcases o_2576 with ⟨⟩ | r_2578
            · try simp only at h
              try simp only at hT
              obtain ⟨rfl, hle⟩ := hT
              refine Wk.to hle ?_
              clear hle
              refine blockA_here ?_
              refine thenA_n ?_
              refine awp_seq ?_
              refine awp_region ?_
              refine AL_upto (by exact rfl) (by simp only [go_sem, seval, hb_2324, hb_2325, hb_2328, hb_2331]; exact rfl) ?_
              refine AL_nil ?_
              refine thenA_n ?_
              refine awp_ret ?_
              cases h
              refine retQ_ret (by simp only [Try.results41]; simp only [go_sem, seval, hb_2324, hb_2325, hb_2328, hb_2331]; exact rfl) ?_
              simp only [go_sem, seval, hb_2324, hb_2325, hb_2328, hb_2331]
              all_goals ((repeat' refine And.intro ?_ ?_) <;> first | rfl | (simp; done) | (simp; rfl) | (simp [*]; done) | (simp [*]; rfl))
            · try simp only at h
              try simp only at hT
              obtain ⟨rfl, hq⟩ := hT
              refine Wk.now ?_
              refine blockA_ret ?_
              refine thenA_ret ?_
              cases h
              exact hq
        · rw [if_neg hb_2331] at h
          have hb_2331F := Bool.eq_false_iff.2 hb_2331
          refine awp_ct (by simp only [go_sem, seval, hb_2324, hb_2325, hb_2328, hb_2331F]) ?_
          refine awp_seq ?_
          refine awp_region ?_
          refine AL_upto (by exact rfl) (by simp only [go_sem, seval, hb_2324, hb_2325, hb_2328, hb_2331F]; exact rfl) ?_
          refine AL_nil ?_
          refine thenA_n ?_
          refine awp_ret ?_
          refine thenA_ret ?_
          cases h
          refine retQ_ret (by simp only [Try.results41]; simp only [go_sem, seval, hb_2324, hb_2325, hb_2328, hb_2331F]; exact rfl) ?_
          simp only [go_sem, seval, hb_2324, hb_2325, hb_2328, hb_2331F]
          all_goals ((repeat' refine And.intro ?_ ?_) <;> first | rfl | (simp; done) | (simp; rfl) | (simp [*]; done) | (simp [*]; rfl))
      · rw [if_neg hb_2328] at h
        have hb_2328F := Bool.eq_false_iff.2 hb_2328
        refine AL_known (d := 31) (v := .p (.bool true)) (by simp only [go_sem, seval, hb_2324, hb_2325, hb_2328F]) ?_
        refine AL_skips (by exact rfl) ?_
        refine AL_upto (by exact rfl) (by simp only [go_sem, seval, hb_2324, hb_2325, hb_2328F]; exact rfl) ?_
        refine AL_nil ?_
        refine thenA_n ?_
        refine awp_ct (by simp only [go_sem, seval, hb_2324, hb_2325, hb_2328F]) ?_
        refine awp_seq ?_
        refine awp_region ?_
        refine AL_upto (by exact rfl) (by simp only [go_sem, seval, hb_2324, hb_2325, hb_2328F]; exact rfl) ?_
        refine AL_nil ?_
        refine thenA_n ?_
        refine awp_ret ?_
        refine thenA_ret ?_
        cases h
        refine retQ_ret (by simp only [Try.results41]; simp only [go_sem, seval, hb_2324, hb_2325, hb_2328F]; exact rfl) ?_
        simp only [go_sem, seval, hb_2324, hb_2325, hb_2328F]
        all_goals ((repeat' refine And.intro ?_ ?_) <;> first | rfl | (simp; done) | (simp; rfl) | (simp [*]; done) | (simp [*]; rfl))
    · rw [if_neg hb_2325] at h
      have hb_2325F := Bool.eq_false_iff.2 hb_2325
      refine AL_known (d := 22) (v := .p (.bool true)) (by simp only [go_sem, seval, hb_2324, hb_2325F]) ?_
      refine AL_skips (by exact rfl) ?_
      refine AL_upto (by exact rfl) (by simp only [go_sem, seval, hb_2324, hb_2325F]; exact rfl) ?_
      refine AL_skips (by exact rfl) ?_
      refine AL_upto (by exact rfl) (by simp only [go_sem, seval, hb_2324, hb_2325F]; exact rfl) ?_
      refine AL_nil ?_
      refine thenA_n ?_
      refine awp_ct (by simp only [go_sem, seval, hb_2324, hb_2325F]) ?_
      refine awp_seq ?_
      refine awp_region ?_
      refine AL_upto (by exact rfl) (by simp only [go_sem, seval, hb_2324, hb_2325F]; exact rfl) ?_
      refine AL_nil ?_
      refine thenA_n ?_
      refine awp_ret ?_
      refine thenA_ret ?_
      cases h
      refine retQ_ret (by simp only [Try.results41]; simp only [go_sem, seval, hb_2324, hb_2325F]; exact rfl) ?_
      simp only [go_sem, seval, hb_2324, hb_2325F]
      all_goals ((repeat' refine And.intro ?_ ?_) <;> first | rfl | (simp; done) | (simp; rfl) | (simp [*]; done) | (simp [*]; rfl))
  · rw [if_neg hb_2324] at h
    have hb_2324F := Bool.eq_false_iff.2 hb_2324
    refine AL_known (d := 14) (v := .p (.bool true)) (by simp only [go_sem, seval, hb_2324F]) ?_
    refine AL_skips (by exact rfl) ?_
    refine AL_upto (by exact rfl) (by simp only [go_sem, seval, hb_2324F]; exact rfl) ?_
    refine AL_skips (by exact rfl) ?_
    refine AL_upto (by exact rfl) (by simp only [go_sem, seval, hb_2324F]; exact rfl) ?_
    refine AL_skips (by exact rfl) ?_
    refine AL_upto (by exact rfl) (by simp only [go_sem, seval, hb_2324F]; exact rfl) ?_
    refine AL_nil ?_
    refine thenA_n ?_
    refine awp_ct (by simp only [go_sem, seval, hb_2324F]) ?_
    refine awp_seq ?_
    refine awp_region ?_
    refine AL_upto (by exact rfl) (by simp only [go_sem, seval, hb_2324F]; exact rfl) ?_
    refine AL_nil ?_
    refine thenA_n ?_
    refine awp_ret ?_
    refine thenA_ret ?_
    cases h
    refine retQ_ret (by simp only [Try.results41]; simp only [go_sem, seval, hb_2324F]; exact rfl) ?_
    simp only [go_sem, seval, hb_2324F]
    all_goals ((repeat' refine And.intro ?_ ?_) <;> first | rfl | (simp; done) | (simp; rfl) | (simp [*]; done) | (simp [*]; rfl))
end Go.Proofs.Ytdmddoljldjjeaa
set_option linter.unusedVariables false
set_option linter.unusedSimpArgs false
namespace Go.Proofs.Ytdmddoljldjjeaa
open Go Go.Ab
set_option maxHeartbeats 4000000 in
theorem survivor_Lost_con (t_2582 : Table) (m_2583 : Merged) (r_2982 : List CellRef × Int) (h : survivor_Lost t_2582 m_2583 = some r_2982) : Con Try.prog 20 [(encTable t_2582), (encMerged m_2583)] (.tup [(.slc (List.map encCellRef r_2982.1)), (.int .i64 r_2982.2)]) := by
  refine ⟨Try.call20, ?_⟩
  refine pure_of_awp Try.func20 rfl Try.ntmps20 (by simp) fun X w => ?_
  show AWp _ _ _ ⟨[(0, .p (encTable t_2582)), (1, .p (encMerged m_2583))], []⟩
  simp only [survivor_Lost] at h
  refine awp_seq ?_
  refine awp_region ?_
  refine AL_upto (by exact rfl) (by simp only [go_sem, seval]; exact rfl) ?_
  refine AL_nil ?_
  refine thenA_n ?_
  refine awp_seq ?_
  refine awp_seq ?_
  refine awp_region ?_
  refine AL_upto (by exact rfl) (by simp only [go_sem, seval]; exact rfl) ?_
  obtain ⟨r_2586, hr_2587, h⟩ := Option.bind_eq_some_iff.1 h
  refine AL_con' rfl (guard_none rfl) rfl (by simp only [go_sem, seval]; exact rfl) (by simp only [go_sem, seval]; all_goals ((repeat' refine And.intro ?_ ?_) <;> first | rfl | (simp; done) | (simp; rfl) | (simp [*]; done) | (simp [*]; rfl))) (table_Valid_con t_2582 _ hr_2587) (.inr rfl) rfl ?_
  refine AL_upto (by exact rfl) (by simp only [go_sem, seval]; exact rfl) ?_
  refine AL_nil ?_
  refine thenA_n ?_
  refine awp_seq ?_
  refine awp_region ?_
  refine AL_upto (by exact rfl) (by simp only [go_sem, seval]; exact rfl) ?_
  refine AL_nil ?_
  refine thenA_n ?_
  by_cases hb_2588 : (r_2586 != 0) = true
  · rw [if_pos hb_2588] at h
    refine awp_ct (by simp only [go_sem, seval, hb_2588]) ?_
    refine awp_seq ?_
    refine awp_region ?_
    refine AL_upto (by exact rfl) (by simp only [go_sem, seval, hb_2588]; exact rfl) ?_
    refine AL_nil ?_
    refine thenA_n ?_
    refine awp_ret ?_
    refine thenA_ret ?_
    cases h
    refine retQ_ret (by simp only [Try.results20]; simp only [go_sem, seval, hb_2588]; exact rfl) ?_
    simp only [go_sem, seval, hb_2588]
    all_goals ((repeat' refine And.intro ?_ ?_) <;> first | rfl | (simp; done) | (simp; rfl) | (simp [*]; done) | (simp [*]; rfl))
  · rw [if_neg hb_2588] at h
    have hb_2588F := Bool.eq_false_iff.2 hb_2588
    refine awp_cf (by simp only [go_sem, seval, hb_2588F]) ?_
    refine awp_skip ?_
    refine thenA_n ?_
    refine awp_seq ?_
    refine awp_seq ?_
    refine awp_region ?_
    refine AL_upto (by exact rfl) (by simp only [go_sem, seval, hb_2588F]; exact rfl) ?_
    obtain ⟨r_2589, hr_2590, h⟩ := Option.bind_eq_some_iff.1 h
    refine AL_con' rfl (guard_none rfl) rfl (by simp only [go_sem, seval, hb_2588F]; exact rfl) (by simp only [go_sem, seval, hb_2588F]; all_goals ((repeat' refine And.intro ?_ ?_) <;> first | rfl | (simp; done) | (simp; rfl) | (simp [*]; done) | (simp [*]; rfl))) (survivor_merges_con t_2582 m_2583 _ hr_2590) (.inr rfl) rfl ?_
    refine AL_upto (by exact rfl) (by simp only [go_sem, seval, hb_2588F]; exact rfl) ?_
    refine AL_nil ?_
    refine thenA_n ?_
    by_cases hb_2591 : r_2589 = true
    · rw [if_pos hb_2591] at h
      refine awp_cf (by simp only [go_sem, seval, hb_2588F, hb_2591]) ?_
      refine awp_skip ?_
      refine thenA_n ?_
      refine awp_seq ?_
      refine awp_region ?_
      refine AL_upto (by exact rfl) (by simp only [go_sem, seval, hb_2588F, hb_2591]; exact rfl) ?_
      refine AL_nil ?_
      refine thenA_n ?_
      refine awp_seq ?_
      refine awp_seq ?_
      refine awp_region ?_
      refine AL_upto (by exact rfl) (by simp only [go_sem, seval, hb_2588F, hb_2591]; exact rfl) ?_
      refine AL_nil ?_
      refine thenA_n ?_
      refine awp_block ?_
      obtain ⟨o_2667, hL_2668, h⟩ := Option.bind_eq_some_iff.1 h
      refine awp_loop_L (fun (s : (List (Int × Int)) × Int) => ⟨[(2, .loc 2 1 0 0), (3, .loc 3 1 0 0), (7, .mapo 26 1), (28, .p (.slc (List.map (encL (PV.int .i64)) m_2583.Clusters))), (29, .p (.int .i64 (m_2583.Clusters.length : Int))), (30, .p (.int .i64 s.2))], [(2, .arr 52 3 1 [.p (encTable t_2582)]), (3, .arr 55 5 1 [.p (encMerged m_2583)]), (26, .map 1 (List.map AV.p (encK (PV.int .i64) s.1)) (List.map AV.p (encW (PV.int .i64) s.1)))]⟩) (fun (o_2981 : (List (Int × Int))) (e : Exit) (s' : St) => e = (.exit 0) ∧ Le ⟨Try.prog, Try.f20.ntmps, 0, X, [], fun _ => none, w⟩ s' ⟨[(2, .loc 2 1 0 0), (3, .loc 3 1 0 0), (7, .mapo 26 1)], [(2, .arr 52 3 1 [.p (encTable t_2582)]), (3, .arr 55 5 1 [.p (encMerged m_2583)]), (26, .map 1 (List.map AV.p (encK (PV.int .i64) o_2981)) (List.map AV.p (encW (PV.int .i64) o_2981)))]⟩) (by intro o s hT; have hh := hT.1; cases hh) hL_2668 (by simp only [go_sem, seval, hb_2588F, hb_2591]; all_goals ((repeat' refine And.intro ?_ ?_) <;> first | rfl | (simp; done) | (simp; rfl) | (simp [*]; done) | (simp [*]; rfl))) ?_ ?_
      · clear h
        intro s x h
        obtain ⟨at_2616, t30_2617⟩ := s
        simp only [survivor_Lost_l4] at h
        show AWp _ _ _ ⟨[(2, .loc 2 1 0 0), (3, .loc 3 1 0 0), (7, .mapo 26 1), (28, .p (.slc (List.map (encL (PV.int .i64)) m_2583.Clusters))), (29, .p (.int .i64 (m_2583.Clusters.length : Int))), (30, .p (.int .i64 t30_2617))], [(2, .arr 52 3 1 [.p (encTable t_2582)]), (3, .arr 55 5 1 [.p (encMerged m_2583)]), (26, .map 1 (List.map AV.p (encK (PV.int .i64) at_2616)) (List.map AV.p (encW (PV.int .i64) at_2616)))]⟩
        refine awp_seq ?_
        refine awp_region ?_
        refine AL_upto (by exact rfl) (by simp only [go_sem, seval]; exact rfl) ?_
        refine AL_nil ?_
        refine thenA_n ?_
        refine awp_seq ?_
        by_cases hb_2644 : t30_2617 < (m_2583.Clusters.length : Int)
        · rw [if_pos hb_2644] at h
          have hb_2644T := eq_true hb_2644
          refine awp_ct (by simp only [go_sem, seval, hb_2644T]) ?_
          refine awp_skip ?_
          refine thenA_n ?_
          refine awp_seq ?_
          refine awp_block ?_
          refine awp_seq ?_
          refine awp_region ?_
          obtain ⟨x_2647, hx_2648, h⟩ := Option.bind_eq_some_iff.1 h
          obtain ⟨hx_2648a, hx_2648, hx_2648b⟩ := idx_some hx_2648
          have hx_2648A := eq_true hx_2648a
          have hx_2648B := eq_true hx_2648b
          refine AL_upto (by exact rfl) (by simp only [go_sem, seval, hb_2644T, hx_2648, hx_2648A, hx_2648B]; exact rfl) ?_
          refine AL_nil ?_
          refine thenA_n ?_
          refine awp_seq ?_
          refine awp_region ?_
          refine AL_upto (by exact rfl) (by simp only [go_sem, seval, hb_2644T]; exact rfl) ?_
          refine AL_nil ?_
          refine thenA_n ?_
          refine awp_block ?_
          obtain ⟨o_2664, hL_2665, h⟩ := Option.bind_eq_some_iff.1 h
          refine awp_loop_L (fun (s : (List (Int × Int)) × Int) => ⟨[(2, .loc 2 1 0 0), (3, .loc 3 1 0 0), (7, .mapo 26 1), (8, .p (.int .i64 t30_2617)), (28, .p (.slc (List.map (encL (PV.int .i64)) m_2583.Clusters))), (29, .p (.int .i64 (m_2583.Clusters.length : Int))), (30, .p (.int .i64 t30_2617)), (35, .p (.slc (List.map (PV.int .i64) x_2647))), (36, .p (.int .i64 (x_2647.length : Int))), (37, .p (.int .i64 s.2))], [(2, .arr 52 3 1 [.p (encTable t_2582)]), (3, .arr 55 5 1 [.p (encMerged m_2583)]), (26, .map 1 (List.map AV.p (encK (PV.int .i64) s.1)) (List.map AV.p (encW (PV.int .i64) s.1)))]⟩) (fun (o_2666 : (List (Int × Int))) (e : Exit) (s' : St) => e = (.exit 2) ∧ Le ⟨Try.prog, Try.f20.ntmps, 0, X, [], fun _ => none, w⟩ s' ⟨[(2, .loc 2 1 0 0), (3, .loc 3 1 0 0), (7, .mapo 26 1), (28, .p (.slc (List.map (encL (PV.int .i64)) m_2583.Clusters))), (29, .p (.int .i64 (m_2583.Clusters.length : Int))), (30, .p (.int .i64 t30_2617))], [(2, .arr 52 3 1 [.p (encTable t_2582)]), (3, .arr 55 5 1 [.p (encMerged m_2583)]), (26, .map 1 (List.map AV.p (encK (PV.int .i64) o_2666)) (List.map AV.p (encW (PV.int .i64) o_2666)))]⟩) (by intro o s hT; have hh := hT.1; cases hh) hL_2665 (by simp only [go_sem, seval, hb_2644T]; all_goals ((repeat' refine And.intro ?_ ?_) <;> first | rfl | (simp; done) | (simp; rfl) | (simp [*]; done) | (simp [*]; rfl))) ?_ ?_
          · clear h
            intro s x h
            obtain ⟨at_2653, t37_2654⟩ := s
            simp only [survivor_Lost_l3] at h
            show AWp _ _ _ ⟨[(2, .loc 2 1 0 0), (3, .loc 3 1 0 0), (7, .mapo 26 1), (8, .p (.int .i64 t30_2617)), (28, .p (.slc (List.map (encL (PV.int .i64)) m_2583.Clusters))), (29, .p (.int .i64 (m_2583.Clusters.length : Int))), (30, .p (.int .i64 t30_2617)), (35, .p (.slc (List.map (PV.int .i64) x_2647))), (36, .p (.int .i64 (x_2647.length : Int))), (37, .p (.int .i64 t37_2654))], [(2, .arr 52 3 1 [.p (encTable t_2582)]), (3, .arr 55 5 1 [.p (encMerged m_2583)]), (26, .map 1 (List.map AV.p (encK (PV.int .i64) at_2653)) (List.map AV.p (encW (PV.int .i64) at_2653)))]⟩
            refine awp_seq ?_
            refine awp_region ?_
            refine AL_upto (by exact rfl) (by simp only [go_sem, seval]; exact rfl) ?_
            refine AL_nil ?_
            refine thenA_n ?_
            refine awp_seq ?_
            by_cases hb_2661 : t37_2654 < (x_2647.length : Int)
            · rw [if_pos hb_2661] at h
              have hb_2661T := eq_true hb_2661
              refine awp_ct (by simp only [go_sem, seval, hb_2661T]) ?_
              refine awp_skip ?_
              refine thenA_n ?_
              refine awp_seq ?_
              refine awp_block ?_
              refine awp_seq ?_
              refine awp_region ?_
              obtain ⟨x_2662, hx_2663, h⟩ := Option.bind_eq_some_iff.1 h
              obtain ⟨hx_2663a, hx_2663, hx_2663b⟩ := idx_some hx_2663
              have hx_2663A := eq_true hx_2663a
              have hx_2663B := eq_true hx_2663b
              refine AL_upto (by exact rfl) (by simp only [go_sem, seval, hb_2661T, hx_2663, hx_2663A, hx_2663B]; exact rfl) ?_
              refine AL_nil ?_
              refine thenA_n ?_
              refine awp_region ?_
              refine AL_upto (by exact rfl) (by simp only [go_sem, seval, hb_2661T]; exact rfl) ?_
              refine AL_nil ?_
              refine blockA_n ?_
              refine thenA_n ?_
              refine awp_region ?_
              refine AL_upto (by exact rfl) (by simp only [go_sem, seval, hb_2661T]; exact rfl) ?_
              refine AL_nil ?_
              cases h
              refine ⟨rfl, ?_⟩
              simp only [go_sem, seval, hb_2661T]
              all_goals ((repeat' refine And.intro ?_ ?_) <;> first | rfl | (simp; done) | (simp; rfl) | (simp [*]; done) | (simp [*]; rfl))
            · rw [if_neg hb_2661] at h
              have hb_2661T := eq_false hb_2661
              refine awp_cf (by simp only [go_sem, seval, hb_2661T]) ?_
              refine awp_exit ?_
              refine thenA_exit ?_
              cases h
              refine ⟨rfl, ?_⟩
              simp only [go_sem, seval, hb_2661T]
              all_goals ((repeat' refine And.intro ?_ ?_) <;> first | rfl | (simp; done) | (simp; rfl) | (simp [*]; done) | (simp [*]; rfl))
          · intro e s' hT
            obtain ⟨at_2659, rfl⟩ : ∃ z, z = o_2664 := ⟨_, rfl⟩
            try simp only at h
            try simp only at hT
            obtain ⟨rfl, hle⟩ := hT
            refine Wk.to hle ?_
            clear hle
            refine blockA_here ?_
            refine blockA_n ?_
            refine thenA_n ?_
            refine awp_region ?_
            refine AL_upto (by exact rfl) (by simp only [go_sem, seval, hb_2644T]; exact rfl) ?_
            refine AL_nil ?_
            cases h
            refine ⟨rfl, ?_⟩
            simp only [go_sem, seval, hb_2644T]
            all_goals ((repeat' refine And.intro ?_ ?_) <;> first | rfl | (simp; done) | (simp; rfl) | (simp [*]; done) | (simp [*]; rfl))
        · rw [if_neg hb_2644] at h
          have hb_2644T := eq_false hb_2644
          refine awp_cf (by simp only [go_sem, seval, hb_2644T]) ?_
          refine awp_exit ?_
          refine thenA_exit ?_
          cases h
          refine ⟨rfl, ?_⟩
          simp only [go_sem, seval, hb_2644T]
          all_goals ((repeat' refine And.intro ?_ ?_) <;> first | rfl | (simp; done) | (simp; rfl) | (simp [*]; done) | (simp [*]; rfl))
      · intro e s' hT
        obtain ⟨at_2642, rfl⟩ : ∃ z, z = o_2667 := ⟨_, rfl⟩
        try simp only at h
        try simp only at hT
        obtain ⟨rfl, hle⟩ := hT
        refine Wk.to hle ?_
        clear hle
        refine blockA_here ?_
        refine thenA_n ?_
        refine awp_seq ?_
        refine awp_region ?_
        refine AL_upto (by exact rfl) (by simp only [go_sem, seval, hb_2588F, hb_2591]; exact rfl) ?_
        refine AL_nil ?_
        refine thenA_n ?_
        refine awp_seq ?_
        refine awp_seq ?_
        refine awp_region ?_
        refine AL_upto (by exact rfl) (by simp only [go_sem, seval, hb_2588F, hb_2591]; exact rfl) ?_
        refine AL_nil ?_
        refine thenA_n ?_
        refine awp_block ?_
        obtain ⟨o_2978, hL_2979, h⟩ := Option.bind_eq_some_iff.1 h
        refine awp_loop_L (fun (s : List CellRef × Int) => ⟨[(3, .loc 3 1 0 0), (7, .mapo 26 1), (12, .own 87 1 0 s.1.length), (47, .p (.slc (List.map encRow t_2582.Rows))), (48, .p (.int .i64 (t_2582.Rows.length : Int))), (49, .p (.int .i64 s.2))], [(3, .arr 55 5 1 [.p (encMerged m_2583)]), (26, .map 1 (List.map AV.p (encK (PV.int .i64) at_2642)) (List.map AV.p (encW (PV.int .i64) at_2642))), (87, .arr 57 2 1 (List.map AV.p (List.map encCellRef s.1)))]⟩) (fun (o_2980 : List CellRef) (e : Exit) (s' : St) => e = (.exit 4) ∧ Le ⟨Try.prog, Try.f20.ntmps, 0, X, [], fun _ => none, w⟩ s' ⟨[(12, .own 87 1 0 o_2980.length)], [(87, .arr 57 2 1 (List.map AV.p (List.map encCellRef o_2980)))]⟩) (by intro o s hT; have hh := hT.1; cases hh) hL_2979 (by simp only [go_sem, seval, hb_2588F, hb_2591]; all_goals ((repeat' refine And.intro ?_ ?_) <;> first | rfl | (simp; done) | (simp; rfl) | (simp [*]; done) | (simp [*]; rfl))) ?_ ?_
        · clear h
          intro s x h
          obtain ⟨out_2771, t49_2772⟩ := s
          simp only [survivor_Lost_l8] at h
          show AWp _ _ _ ⟨[(3, .loc 3 1 0 0), (7, .mapo 26 1), (12, .own 87 1 0 out_2771.length), (47, .p (.slc (List.map encRow t_2582.Rows))), (48, .p (.int .i64 (t_2582.Rows.length : Int))), (49, .p (.int .i64 t49_2772))], [(3, .arr 55 5 1 [.p (encMerged m_2583)]), (26, .map 1 (List.map AV.p (encK (PV.int .i64) at_2642)) (List.map AV.p (encW (PV.int .i64) at_2642))), (87, .arr 57 2 1 (List.map AV.p (List.map encCellRef out_2771)))]⟩
          refine awp_seq ?_
          refine awp_region ?_
          refine AL_upto (by exact rfl) (by simp only [go_sem, seval]; exact rfl) ?_
          refine AL_nil ?_
          refine thenA_n ?_
          refine awp_seq ?_
          by_cases hb_2877 : t49_2772 < (t_2582.Rows.length : Int)
          · rw [if_pos hb_2877] at h
            have hb_2877T := eq_true hb_2877
            refine awp_ct (by simp only [go_sem, seval, hb_2877T]) ?_
            refine awp_skip ?_
            refine thenA_n ?_
            refine awp_seq ?_
            refine awp_block ?_
            refine awp_seq ?_
            refine awp_region ?_
            obtain ⟨x_2880, hx_2881, h⟩ := Option.bind_eq_some_iff.1 h
            obtain ⟨hx_2881a, hx_2881, hx_2881b⟩ := idx_some hx_2881
            have hx_2881A := eq_true hx_2881a
            have hx_2881B := eq_true hx_2881b
            refine AL_upto (by exact rfl) (by simp only [go_sem, seval, hb_2877T, hx_2881, hx_2881A, hx_2881B]; exact rfl) ?_
            refine AL_nil ?_
            refine thenA_n ?_
            refine awp_seq ?_
            refine awp_region ?_
            refine AL_upto (by exact rfl) (by simp only [go_sem, seval, hb_2877T]; exact rfl) ?_
            refine AL_nil ?_
            refine thenA_n ?_
            refine awp_block ?_
            obtain ⟨o_2975, hL_2976, h⟩ := Option.bind_eq_some_iff.1 h
            refine awp_loop_L (fun (s : List CellRef × Int) => ⟨[(3, .loc 3 1 0 0), (7, .mapo 26 1), (12, .own 87 1 0 s.1.length), (14, .loc 14 1 0 0), (47, .p (.slc (List.map encRow t_2582.Rows))), (48, .p (.int .i64 (t_2582.Rows.length : Int))), (49, .p (.int .i64 t49_2772)), (54, .p (.slc (List.map encValue x_2880.Values))), (55, .p (.int .i64 (x_2880.Values.length : Int))), (56, .p (.int .i64 s.2))], [(3, .arr 55 5 1 [.p (encMerged m_2583)]), (14, .arr 32 2 1 [.p (encRow x_2880)]), (26, .map 1 (List.map AV.p (encK (PV.int .i64) at_2642)) (List.map AV.p (encW (PV.int .i64) at_2642))), (87, .arr 57 2 1 (List.map AV.p (List.map encCellRef s.1)))]⟩) (fun (o_2977 : List CellRef) (e : Exit) (s' : St) => e = (.exit 6) ∧ Le ⟨Try.prog, Try.f20.ntmps, 0, X, [], fun _ => none, w⟩ s' ⟨[(3, .loc 3 1 0 0), (7, .mapo 26 1), (12, .own 87 1 0 o_2977.length), (47, .p (.slc (List.map encRow t_2582.Rows))), (48, .p (.int .i64 (t_2582.Rows.length : Int))), (49, .p (.int .i64 t49_2772))], [(3, .arr 55 5 1 [.p (encMerged m_2583)]), (26, .map 1 (List.map AV.p (encK (PV.int .i64) at_2642)) (List.map AV.p (encW (PV.int .i64) at_2642))), (87, .arr 57 2 1 (List.map AV.p (List.map encCellRef o_2977)))]⟩) (by intro o s hT; have hh := hT.1; cases hh) hL_2976 (by simp only [go_sem, seval, hb_2877T]; all_goals ((repeat' refine And.intro ?_ ?_) <;> first | rfl | (simp; done) | (simp; rfl) | (simp [*]; done) | (simp [*]; rfl))) ?_ ?_
            · clear h
              intro s x h
              obtain ⟨out_2912, t56_2913⟩ := s
              simp only [survivor_Lost_l7] at h
              show AWp _ _ _ ⟨[(3, .loc 3 1 0 0), (7, .mapo 26 1), (12, .own 87 1 0 out_2912.length), (14, .loc 14 1 0 0), (47, .p (.slc (List.map encRow t_2582.Rows))), (48, .p (.int .i64 (t_2582.Rows.length : Int))), (49, .p (.int .i64 t49_2772)), (54, .p (.slc (List.map encValue x_2880.Values))), (55, .p (.int .i64 (x_2880.Values.length : Int))), (56, .p (.int .i64 t56_2913))], [(3, .arr 55 5 1 [.p (encMerged m_2583)]), (14, .arr 32 2 1 [.p (encRow x_2880)]), (26, .map 1 (List.map AV.p (encK (PV.int .i64) at_2642)) (List.map AV.p (encW (PV.int .i64) at_2642))), (87, .arr 57 2 1 (List.map AV.p (List.map encCellRef out_2912)))]⟩
              refine awp_seq ?_
              refine awp_region ?_
              refine AL_upto (by exact rfl) (by simp only [go_sem, seval]; exact rfl) ?_
              refine AL_nil ?_
              refine thenA_n ?_
              refine awp_seq ?_
              by_cases hb_2946 : t56_2913 < (x_2880.Values.length : Int)
              · rw [if_pos hb_2946] at h
                have hb_2946T := eq_true hb_2946
                refine awp_ct (by simp only [go_sem, seval, hb_2946T]) ?_
                refine awp_skip ?_
                refine thenA_n ?_
                refine awp_seq ?_
                refine awp_block ?_
                refine awp_seq ?_
                refine awp_region ?_
                obtain ⟨x_2949, hx_2950, h⟩ := Option.bind_eq_some_iff.1 h
                obtain ⟨hx_2950a, hx_2950, hx_2950b⟩ := idx_some hx_2950
                have hx_2950A := eq_true hx_2950a
                have hx_2950B := eq_true hx_2950b
                refine AL_upto (by exact rfl) (by simp only [go_sem, seval, hb_2946T, hx_2950, hx_2950A, hx_2950B]; exact rfl) ?_
                refine AL_nil ?_
                refine thenA_n ?_
                obtain ⟨o_2961, hA_2962, h⟩ := Option.bind_eq_some_iff.1 h
                refine awp_join (T := (fun (o_2974 : Bool) (e : Exit) (s' : St) => e = .normal ∧ Le ⟨Try.prog, Try.f20.ntmps, 0, X, [], fun _ => none, w⟩ s' ⟨[(3, .loc 3 1 0 0), (7, .mapo 26 1), (12, .own 87 1 0 out_2912.length), (14, .loc 14 1 0 0), (15, .p (.int .i64 t56_2913)), (47, .p (.slc (List.map encRow t_2582.Rows))), (48, .p (.int .i64 (t_2582.Rows.length : Int))), (49, .p (.int .i64 t49_2772)), (54, .p (.slc (List.map encValue x_2880.Values))), (55, .p (.int .i64 (x_2880.Values.length : Int))), (56, .p (.int .i64 t56_2913)), (80, .p (.bool o_2974))], [(3, .arr 55 5 1 [.p (encMerged m_2583)]), (14, .arr 32 2 1 [.p (encRow x_2880)]), (26, .map 1 (List.map AV.p (encK (PV.int .i64) at_2642)) (List.map AV.p (encW (PV.int .i64) at_2642))), (87, .arr 57 2 1 (List.map AV.p (List.map encCellRef out_2912)))]⟩) o_2961) ?_ ?_
                · replace h := hA_2962
                  clear hA_2962
                  refine awp_drawn_walk mixed (by decide) ?_
                  refine DGo.upto (by exact rfl) (by simp only [go_sem, seval, hb_2946T]; exact ⟨rfl, rfl⟩) ?_
                  by_cases hb_2963 : (x_2949.Kind != 0) = true
                  · rw [if_pos hb_2963] at h
                    refine DGo.known' (d := 64) (v := .p (.bool true)) (by simp only [go_sem, seval, hb_2946T, hb_2963]) ?_
                    refine DGo.gt' (guard_true' rfl rfl (by exact rfl) (by exact rfl)) rfl (by simp only [go_sem, seval, hb_2946T, hb_2963]; exact ⟨rfl, rfl⟩) ?_
                    refine DGo.gt' (guard_true' rfl rfl (by exact rfl) (by exact rfl)) rfl (by simp only [go_sem, seval, hb_2946T, hb_2963]; exact ⟨rfl, rfl⟩) ?_
                    refine DGo.gt' (guard_true' rfl rfl (by exact rfl) (by exact rfl)) rfl (by simp only [go_sem, seval, hb_2946T, hb_2963]; exact ⟨rfl, rfl⟩) ?_
                    refine DGo.gt' (guard_true' rfl rfl (by exact rfl) (by exact rfl)) rfl (by simp only [go_sem, seval, hb_2946T, hb_2963]; exact ⟨rfl, rfl⟩) ?_
                    refine DGo.gt' (guard_true' rfl rfl (by exact rfl) (by exact rfl)) rfl (by simp only [go_sem, seval, hb_2946T, hb_2963]; exact ⟨rfl, rfl⟩) ?_
                    refine DGo.gt' (guard_true' rfl rfl (by exact rfl) (by exact rfl)) rfl (by simp only [go_sem, seval, hb_2946T, hb_2963]; exact ⟨rfl, rfl⟩) ?_
                    refine DGo.gt' (guard_true' rfl rfl (by exact rfl) (by exact rfl)) rfl (by simp only [go_sem, seval, hb_2946T, hb_2963]; exact ⟨rfl, rfl⟩) ?_
                    refine DGo.gt' (guard_true' rfl rfl (by exact rfl) (by exact rfl)) rfl (by simp only [go_sem, seval, hb_2946T, hb_2963]; exact ⟨rfl, rfl⟩) ?_
                    obtain ⟨x_2966, hx_2967, h⟩ := Option.bind_eq_some_iff.1 h
                    obtain ⟨hx_2967a, hx_2967, hx_2967b⟩ := idx_some hx_2967
                    have hx_2967A := eq_true hx_2967a
                    have hx_2967B := eq_true hx_2967b
                    refine DGo.gt' (guard_true' rfl rfl (by exact rfl) (by exact rfl)) rfl (by simp only [go_sem, seval, hb_2946T, hb_2963, hx_2967, hx_2967A, hx_2967B]; exact ⟨rfl, rfl⟩) ?_
                    refine DGo.gt' (guard_true' rfl rfl (by exact rfl) (by exact rfl)) rfl (by simp only [go_sem, seval, hb_2946T, hb_2963]; exact ⟨rfl, rfl⟩) ?_
                    refine DGo.gt' (guard_true' rfl rfl (by exact rfl) (by exact rfl)) rfl (by simp only [go_sem, seval, hb_2946T, hb_2963]; exact ⟨rfl, rfl⟩) ?_
                    refine DGo.gt' (guard_true' rfl rfl (by exact rfl) (by exact rfl)) rfl (by simp only [go_sem, seval, hb_2946T, hb_2963]; exact ⟨rfl, rfl⟩) ?_
                    obtain ⟨x_2970, hx_2971, h⟩ := Option.bind_eq_some_iff.1 h
                    obtain ⟨hx_2971a, hx_2971, hx_2971b⟩ := idx_some hx_2971
                    have hx_2971A := eq_true hx_2971a
                    have hx_2971B := eq_true hx_2971b
                    refine DGo.gt' (guard_true' rfl rfl (by exact rfl) (by exact rfl)) rfl (by simp only [go_sem, seval, hb_2946T, hb_2963, hx_2971, hx_2971A, hx_2971B]; exact ⟨rfl, rfl⟩) ?_
                    refine DGo.gt' (guard_true' rfl rfl (by exact rfl) (by exact rfl)) rfl (by simp only [go_sem, seval, hb_2946T, hb_2963]; exact ⟨rfl, rfl⟩) ?_
                    refine DGo.gt' (guard_true' rfl rfl (by exact rfl) (by exact rfl)) rfl (by simp only [go_sem, seval, hb_2946T, hb_2963]; exact ⟨rfl, rfl⟩) ?_
                    refine DGo.upto (by exact rfl) (by simp only [go_sem, seval, hb_2946T, hb_2963]; exact ⟨rfl, rfl⟩) ?_
                    refine DGo.fin rfl ?_
                    cases h
                    refine ⟨rfl, ?_⟩
                    simp only [go_sem, seval, hb_2946T, hb_2963]
                    all_goals ((repeat' refine And.intro ?_ ?_) <;> first | rfl | (simp; done) | (simp; rfl) | (simp [*]; done) | (simp [*]; rfl))
                  · rw [if_neg hb_2963] at h
                    have hb_2963F := Bool.eq_false_iff.2 hb_2963
                    refine DGo.known' (d := 64) (v := .p (.bool false)) (by simp only [go_sem, seval, hb_2946T, hb_2963F]) ?_
                    refine DGo.skips (by exact rfl) ?_
                    refine DGo.upto (by exact rfl) (by simp only [go_sem, seval, hb_2946T, hb_2963F]; exact ⟨rfl, rfl⟩) ?_
                    refine DGo.fin rfl ?_
                    cases h
                    refine ⟨rfl, ?_⟩
                    simp only [go_sem, seval, hb_2946T, hb_2963F]
                    all_goals ((repeat' refine And.intro ?_ ?_) <;> first | rfl | (simp; done) | (simp; rfl) | (simp [*]; done) | (simp [*]; rfl))
                · intro e s' hT
                  obtain ⟨t80_2960, rfl⟩ : ∃ z, z = o_2961 := ⟨_, rfl⟩
                  try simp only at h
                  try simp only at hT
                  obtain ⟨rfl, hle⟩ := hT
                  refine Wk.to hle ?_
                  clear hle
                  refine thenA_n ?_
                  by_cases hb_2972 : t80_2960 = true
                  · rw [if_pos hb_2972] at h
                    refine awp_ct (by simp only [go_sem, seval, hb_2946T, hb_2972]) ?_
                    refine awp_region ?_
                    obtain ⟨hc_2973, h⟩ := ite_some h
                    refine AL_upto (by exact rfl) (by simp only [go_sem, seval, hb_2946T, hb_2972, hc_2973]; exact rfl) ?_
                    refine AL_nil ?_
                    refine blockA_n ?_
                    refine thenA_n ?_
                    refine awp_region ?_
                    refine AL_upto (by exact rfl) (by simp only [go_sem, seval, hb_2946T, hb_2972]; exact rfl) ?_
                    refine AL_nil ?_
                    cases h
                    refine ⟨rfl, ?_⟩
                    simp only [go_sem, seval, hb_2946T, hb_2972]
                    all_goals ((repeat' refine And.intro ?_ ?_) <;> first | rfl | (simp; done) | (simp; rfl) | (simp [*]; done) | (simp [*]; rfl))
                  · rw [if_neg hb_2972] at h
                    have hb_2972F := Bool.eq_false_iff.2 hb_2972
                    refine awp_cf (by simp only [go_sem, seval, hb_2946T, hb_2972F]) ?_
                    refine awp_skip ?_
                    refine blockA_n ?_
                    refine thenA_n ?_
                    refine awp_region ?_
                    refine AL_upto (by exact rfl) (by simp only [go_sem, seval, hb_2946T, hb_2972F]; exact rfl) ?_
                    refine AL_nil ?_
                    cases h
                    refine ⟨rfl, ?_⟩
                    simp only [go_sem, seval, hb_2946T, hb_2972F]
                    all_goals ((repeat' refine And.intro ?_ ?_) <;> first | rfl | (simp; done) | (simp; rfl) | (simp [*]; done) | (simp [*]; rfl))
              · rw [if_neg hb_2946] at h
                have hb_2946T := eq_false hb_2946
                refine awp_cf (by simp only [go_sem, seval, hb_2946T]) ?_
                refine awp_exit ?_
                refine thenA_exit ?_
                cases h
                refine ⟨rfl, ?_⟩
                simp only [go_sem, seval, hb_2946T]
                all_goals ((repeat' refine And.intro ?_ ?_) <;> first | rfl | (simp; done) | (simp; rfl) | (simp [*]; done) | (simp [*]; rfl))
            · intro e s' hT
              obtain ⟨out_2944, rfl⟩ : ∃ z, z = o_2975 := ⟨_, rfl⟩
              try simp only at h
              try simp only at hT
              obtain ⟨rfl, hle⟩ := hT
              refine Wk.to hle ?_
              clear hle
              refine blockA_here ?_
              refine blockA_n ?_
              refine thenA_n ?_
              refine awp_region ?_
              refine AL_upto (by exact rfl) (by simp only [go_sem, seval, hb_2877T]; exact rfl) ?_
              refine AL_nil ?_
              cases h
              refine ⟨rfl, ?_⟩
              simp only [go_sem, seval, hb_2877T]
              all_goals ((repeat' refine And.intro ?_ ?_) <;> first | rfl | (simp; done) | (simp; rfl) | (simp [*]; done) | (simp [*]; rfl))
          · rw [if_neg hb_2877] at h
            have hb_2877T := eq_false hb_2877
            refine awp_cf (by simp only [go_sem, seval, hb_2877T]) ?_
            refine awp_exit ?_
            refine thenA_exit ?_
            cases h
            refine ⟨rfl, ?_⟩
            simp only [go_sem, seval, hb_2877T]
            all_goals ((repeat' refine And.intro ?_ ?_) <;> first | rfl | (simp; done) | (simp; rfl) | (simp [*]; done) | (simp [*]; rfl))
        · intro e s' hT
          obtain ⟨out_2875, rfl⟩ : ∃ z, z = o_2978 := ⟨_, rfl⟩
          try simp only at h
          try simp only at hT
          obtain ⟨rfl, hle⟩ := hT
          refine Wk.to hle ?_
          clear hle
          refine blockA_here ?_
          refine thenA_n ?_
          refine awp_seq ?_
          refine awp_region ?_
          refine AL_upto (by exact rfl) (by simp only [go_sem, seval, hb_2588F, hb_2591]; exact rfl) ?_
          refine AL_nil ?_
          refine thenA_n ?_
          refine awp_ret ?_
          cases h
          refine retQ_ret (by simp only [Try.results20]; simp only [go_sem, seval, hb_2588F, hb_2591]; exact rfl) ?_
          simp only [go_sem, seval, hb_2588F, hb_2591]
          all_goals ((repeat' refine And.intro ?_ ?_) <;> first | rfl | (simp; done) | (simp; rfl) | (simp [*]; done) | (simp [*]; rfl))
    · rw [if_neg hb_2591] at h
      have hb_2591F := Bool.eq_false_iff.2 hb_2591
      refine awp_ct (by simp only [go_sem, seval, hb_2588F, hb_2591F]) ?_
      refine awp_seq ?_
      refine awp_region ?_
      refine AL_upto (by exact rfl) (by simp only [go_sem, seval, hb_2588F, hb_2591F]; exact rfl) ?_
      refine AL_nil ?_
      refine thenA_n ?_
      refine awp_ret ?_
      refine thenA_ret ?_
      cases h
      refine retQ_ret (by simp only [Try.results20]; simp only [go_sem, seval, hb_2588F, hb_2591F]; exact rfl) ?_
      simp only [go_sem, seval, hb_2588F, hb_2591F]
      all_goals ((repeat' refine And.intro ?_ ?_) <;> first | rfl | (simp; done) | (simp; rfl) | (simp [*]; done) | (simp [*]; rfl))
end Go.Proofs.Ytdmddoljldjjeaa
set_option linter.unusedVariables false
set_option linter.unusedSimpArgs false
namespace Go.Proofs.Ytdmddoljldjjeaa
open Go Go.Ab
set_option maxHeartbeats 4000000 in
theorem drossref01_Valid_con (v_646 : Value) (r_654 : Bool) (h : drossref01_Valid v_646 = some r_654) : Con Try.prog 78 [(encValue v_646)] (.bool r_654) := by
  refine ⟨Try.call78, ?_⟩
  refine pure_of_awp Try.func78 rfl Try.ntmps78 (by simp) fun X w => ?_
  show AWp _ _ _ ⟨[(0, .p (encValue v_646))], []⟩
  simp only [drossref01_Valid] at h
  refine awp_seq ?_
  refine awp_region ?_
  refine AL_upto (by exact rfl) (by simp only [go_sem, seval]; exact rfl) ?_
  refine AL_nil ?_
  refine thenA_n ?_
  refine awp_seq ?_
  refine awp_seq ?_
  refine awp_region ?_
  refine AL_upto (by exact rfl) (by simp only [go_sem, seval]; exact rfl) ?_
  refine AL_nil ?_
  refine thenA_n ?_
  refine awp_block ?_
  refine awp_seq ?_
  refine awp_region ?_
  refine AL_upto (by exact rfl) (by simp only [go_sem, seval]; exact rfl) ?_
  refine AL_nil ?_
  refine thenA_n ?_
  by_cases hb_647 : (v_646.Kind == 0) = true
  · rw [if_pos hb_647] at h
    refine awp_ct (by simp only [go_sem, seval, hb_647]) ?_
    refine awp_seq ?_
    refine awp_region ?_
    refine AL_upto (by exact rfl) (by simp only [go_sem, seval, hb_647]; exact rfl) ?_
    by_cases hb_648 : (v_646.Num == 0) = true
    · rw [if_pos hb_648] at h
      refine AL_known (d := 10) (v := .p (.bool true)) (by simp only [go_sem, seval, hb_647, hb_648]) ?_
      refine AL_gt' (guard_true' rfl rfl (by exact rfl) (by exact rfl)) rfl (by simp only [go_sem, seval, hb_647, hb_648]; exact rfl) ?_
      refine AL_gt' (guard_true' rfl rfl (by exact rfl) (by exact rfl)) rfl (by simp only [go_sem, seval, hb_647, hb_648]; exact rfl) ?_
      refine AL_gt' (guard_true' rfl rfl (by exact rfl) (by exact rfl)) rfl (by simp only [go_sem, seval, hb_647, hb_648]; exact rfl) ?_
      refine AL_upto (by exact rfl) (by simp only [go_sem, seval, hb_647, hb_648]; exact rfl) ?_
      refine AL_nil ?_
      refine thenA_n ?_
      refine awp_ret ?_
      refine blockA_ret ?_
      refine thenA_ret ?_
      cases h
      refine retQ_ret (by simp only [Try.results78]; simp only [go_sem, seval, hb_647, hb_648]; exact rfl) ?_
      simp only [go_sem, seval, hb_647, hb_648]
      all_goals ((repeat' refine And.intro ?_ ?_) <;> first | rfl | (simp; done) | (simp; rfl) | (simp [*]; done) | (simp [*]; rfl))
    · rw [if_neg hb_648] at h
      have hb_648F := Bool.eq_false_iff.2 hb_648
      refine AL_known (d := 10) (v := .p (.bool false)) (by simp only [go_sem, seval, hb_647, hb_648F]) ?_
      refine AL_skips (by exact rfl) ?_
      refine AL_upto (by exact rfl) (by simp only [go_sem, seval, hb_647, hb_648F]; exact rfl) ?_
      refine AL_nil ?_
      refine thenA_n ?_
      refine awp_ret ?_
      refine blockA_ret ?_
      refine thenA_ret ?_
      cases h
      refine retQ_ret (by simp only [Try.results78]; simp only [go_sem, seval, hb_647, hb_648F]; exact rfl) ?_
      simp only [go_sem, seval, hb_647, hb_648F]
      all_goals ((repeat' refine And.intro ?_ ?_) <;> first | rfl | (simp; done) | (simp; rfl) | (simp [*]; done) | (simp [*]; rfl))
  · rw [if_neg hb_647] at h
    have hb_647F := Bool.eq_false_iff.2 hb_647
    refine awp_cf (by simp only [go_sem, seval, hb_647F]) ?_
    refine awp_seq ?_
    refine awp_region ?_
    refine AL_upto (by exact rfl) (by simp only [go_sem, seval, hb_647F]; exact rfl) ?_
    refine AL_nil ?_
    refine thenA_n ?_
    by_cases hb_649 : (v_646.Kind == 1) = true
    · rw [if_pos hb_649] at h
      refine awp_ct (by simp only [go_sem, seval, hb_647F, hb_649]) ?_
      refine awp_seq ?_
      refine awp_region ?_
      refine AL_upto (by exact rfl) (by simp only [go_sem, seval, hb_647F, hb_649]; exact rfl) ?_
      refine AL_nil ?_
      refine thenA_n ?_
      refine awp_ret ?_
      refine blockA_ret ?_
      refine thenA_ret ?_
      cases h
      refine retQ_ret (by simp only [Try.results78]; simp only [go_sem, seval, hb_647F, hb_649]; exact rfl) ?_
      simp only [go_sem, seval, hb_647F, hb_649]
      all_goals ((repeat' refine And.intro ?_ ?_) <;> first | rfl | (simp; done) | (simp; rfl) | (simp [*]; done) | (simp [*]; rfl))
    · rw [if_neg hb_649] at h
      have hb_649F := Bool.eq_false_iff.2 hb_649
      refine awp_cf (by simp only [go_sem, seval, hb_647F, hb_649F]) ?_
      refine awp_seq ?_
      refine awp_region ?_
      refine AL_upto (by exact rfl) (by simp only [go_sem, seval, hb_647F, hb_649F]; exact rfl) ?_
      refine AL_nil ?_
      refine thenA_n ?_
      by_cases hb_650 : (v_646.Kind == 2) = true
      · rw [if_pos hb_650] at h
        refine awp_ct (by simp only [go_sem, seval, hb_647F, hb_649F, hb_650]) ?_
        refine awp_seq ?_
        refine awp_region ?_
        refine AL_upto (by exact rfl) (by simp only [go_sem, seval, hb_647F, hb_649F, hb_650]; exact rfl) ?_
        by_cases hb_651 : (v_646.Num == 0) = true
        · rw [if_pos hb_651] at h
          refine AL_known (d := 25) (v := .p (.bool true)) (by simp only [go_sem, seval, hb_647F, hb_649F, hb_650, hb_651]) ?_
          refine AL_gt' (guard_true' rfl rfl (by exact rfl) (by exact rfl)) rfl (by simp only [go_sem, seval, hb_647F, hb_649F, hb_650, hb_651]; exact rfl) ?_
          refine AL_gt' (guard_true' rfl rfl (by exact rfl) (by exact rfl)) rfl (by simp only [go_sem, seval, hb_647F, hb_649F, hb_650, hb_651]; exact rfl) ?_
          refine AL_gt' (guard_true' rfl rfl (by exact rfl) (by exact rfl)) rfl (by simp only [go_sem, seval, hb_647F, hb_649F, hb_650, hb_651]; exact rfl) ?_
          refine AL_gt' (guard_true' rfl rfl (by exact rfl) (by exact rfl)) rfl (by simp only [go_sem, seval, hb_647F, hb_649F, hb_650, hb_651]; exact rfl) ?_
          refine AL_upto (by exact rfl) (by simp only [go_sem, seval, hb_647F, hb_649F, hb_650, hb_651]; exact rfl) ?_
          refine AL_nil ?_
          refine thenA_n ?_
          refine awp_ret ?_
          refine blockA_ret ?_
          refine thenA_ret ?_
          cases h
          refine retQ_ret (by simp only [Try.results78]; simp only [go_sem, seval, hb_647F, hb_649F, hb_650, hb_651]; exact rfl) ?_
          simp only [go_sem, seval, hb_647F, hb_649F, hb_650, hb_651]
          all_goals ((repeat' refine And.intro ?_ ?_) <;> first | rfl | (simp; done) | (simp; rfl) | (simp [*]; done) | (simp [*]; rfl))
        · rw [if_neg hb_651] at h
          have hb_651F := Bool.eq_false_iff.2 hb_651
          refine AL_known (d := 25) (v := .p (.bool false)) (by simp only [go_sem, seval, hb_647F, hb_649F, hb_650, hb_651F]) ?_
          refine AL_skips (by exact rfl) ?_
          refine AL_upto (by exact rfl) (by simp only [go_sem, seval, hb_647F, hb_649F, hb_650, hb_651F]; exact rfl) ?_
          refine AL_nil ?_
          refine thenA_n ?_
          refine awp_ret ?_
          refine blockA_ret ?_
          refine thenA_ret ?_
          cases h
          refine retQ_ret (by simp only [Try.results78]; simp only [go_sem, seval, hb_647F, hb_649F, hb_650, hb_651F]; exact rfl) ?_
          simp only [go_sem, seval, hb_647F, hb_649F, hb_650, hb_651F]
          all_goals ((repeat' refine And.intro ?_ ?_) <;> first | rfl | (simp; done) | (simp; rfl) | (simp [*]; done) | (simp [*]; rfl))
      · rw [if_neg hb_650] at h
        have hb_650F := Bool.eq_false_iff.2 hb_650
        refine awp_cf (by simp only [go_sem, seval, hb_647F, hb_649F, hb_650F]) ?_
        refine awp_skip ?_
        refine blockA_n ?_
        refine thenA_n ?_
        refine awp_seq ?_
        refine awp_region ?_
        refine AL_upto (by exact rfl) (by simp only [go_sem, seval, hb_647F, hb_649F, hb_650F]; exact rfl) ?_
        by_cases hb_652 : (v_646.Kind == 3) = true
        · rw [if_pos hb_652] at h
          refine AL_known (d := 34) (v := .p (.bool true)) (by simp only [go_sem, seval, hb_647F, hb_649F, hb_650F, hb_652]) ?_
          refine AL_gt' (guard_true' rfl rfl (by exact rfl) (by exact rfl)) rfl (by simp only [go_sem, seval, hb_647F, hb_649F, hb_650F, hb_652]; exact rfl) ?_
          refine AL_gt' (guard_true' rfl rfl (by exact rfl) (by exact rfl)) rfl (by simp only [go_sem, seval, hb_647F, hb_649F, hb_650F, hb_652]; exact rfl) ?_
          refine AL_gt' (guard_true' rfl rfl (by exact rfl) (by exact rfl)) rfl (by simp only [go_sem, seval, hb_647F, hb_649F, hb_650F, hb_652]; exact rfl) ?_
          refine AL_upto (by exact rfl) (by simp only [go_sem, seval, hb_647F, hb_649F, hb_650F, hb_652]; exact rfl) ?_
          by_cases hb_653 : v_646.Num ≥ 1
          · rw [if_pos hb_653] at h
            have hb_653T := eq_true hb_653
            refine AL_known (d := 39) (v := .p (.bool true)) (by simp only [go_sem, seval, hb_647F, hb_649F, hb_650F, hb_652, hb_653T]) ?_
            refine AL_gt' (guard_true' rfl rfl (by exact rfl) (by exact rfl)) rfl (by simp only [go_sem, seval, hb_647F, hb_649F, hb_650F, hb_652, hb_653T]; exact rfl) ?_
            refine AL_gt' (guard_true' rfl rfl (by exact rfl) (by exact rfl)) rfl (by simp only [go_sem, seval, hb_647F, hb_649F, hb_650F, hb_652, hb_653T]; exact rfl) ?_
            refine AL_gt' (guard_true' rfl rfl (by exact rfl) (by exact rfl)) rfl (by simp only [go_sem, seval, hb_647F, hb_649F, hb_650F, hb_652, hb_653T]; exact rfl) ?_
            refine AL_upto (by exact rfl) (by simp only [go_sem, seval, hb_647F, hb_649F, hb_650F, hb_652, hb_653T]; exact rfl) ?_
            refine AL_nil ?_
            refine thenA_n ?_
            refine awp_ret ?_
            cases h
            refine retQ_ret (by simp only [Try.results78]; simp only [go_sem, seval, hb_647F, hb_649F, hb_650F, hb_652, hb_653T]; exact rfl) ?_
            simp only [go_sem, seval, hb_647F, hb_649F, hb_650F, hb_652, hb_653T]
            all_goals ((repeat' refine And.intro ?_ ?_) <;> first | rfl | (simp; done) | (simp; rfl) | (simp [*]; done) | (simp [*]; rfl))
          · rw [if_neg hb_653] at h
            have hb_653T := eq_false hb_653
            refine AL_known (d := 39) (v := .p (.bool false)) (by simp only [go_sem, seval, hb_647F, hb_649F, hb_650F, hb_652, hb_653T]) ?_
            refine AL_skips (by exact rfl) ?_
            refine AL_upto (by exact rfl) (by simp only [go_sem, seval, hb_647F, hb_649F, hb_650F, hb_652, hb_653T]; exact rfl) ?_
            refine AL_nil ?_
            refine thenA_n ?_
            refine awp_ret ?_
            cases h
            refine retQ_ret (by simp only [Try.results78]; simp only [go_sem, seval, hb_647F, hb_649F, hb_650F, hb_652, hb_653T]; exact rfl) ?_
            simp only [go_sem, seval, hb_647F, hb_649F, hb_650F, hb_652, hb_653T]
            all_goals ((repeat' refine And.intro ?_ ?_) <;> first | rfl | (simp; done) | (simp; rfl) | (simp [*]; done) | (simp [*]; rfl))
        · rw [if_neg hb_652] at h
          have hb_652F := Bool.eq_false_iff.2 hb_652
          refine AL_known (d := 34) (v := .p (.bool false)) (by simp only [go_sem, seval, hb_647F, hb_649F, hb_650F, hb_652F]) ?_
          refine AL_skips (by exact rfl) ?_
          refine AL_upto (by exact rfl) (by simp only [go_sem, seval, hb_647F, hb_649F, hb_650F, hb_652F]; exact rfl) ?_
          refine AL_skips (by exact rfl) ?_
          refine AL_upto (by exact rfl) (by simp only [go_sem, seval, hb_647F, hb_649F, hb_650F, hb_652F]; exact rfl) ?_
          refine AL_nil ?_
          refine thenA_n ?_
          refine awp_ret ?_
          cases h
          refine retQ_ret (by simp only [Try.results78]; simp only [go_sem, seval, hb_647F, hb_649F, hb_650F, hb_652F]; exact rfl) ?_
          simp only [go_sem, seval, hb_647F, hb_649F, hb_650F, hb_652F]
          all_goals ((repeat' refine And.intro ?_ ?_) <;> first | rfl | (simp; done) | (simp; rfl) | (simp [*]; done) | (simp [*]; rfl))
end Go.Proofs.Ytdmddoljldjjeaa
set_option linter.unusedVariables false
set_option linter.unusedSimpArgs false
namespace Go.Proofs.Ytdmddoljldjjeaa
open Go Go.Ab
set_option maxHeartbeats 4000000 in
theorem drossref01_Valids_con (l_655 : List Value) (r_680 : Bool) (h : drossref01_Valids l_655 = some r_680) : Con Try.prog 54 [(.slc (List.map encValue l_655))] (.bool r_680) := by
  refine ⟨Try.call54, ?_⟩
  refine pure_of_awp Try.func54 rfl Try.ntmps54 (by simp) fun X w => ?_
  show AWp _ _ _ ⟨[(0, .p (.slc (List.map encValue l_655)))], []⟩
  simp only [drossref01_Valids] at h
  refine awp_seq ?_
  refine awp_region ?_
  refine AL_upto (by exact rfl) (by simp only [go_sem, seval]; exact rfl) ?_
  refine AL_nil ?_
  refine thenA_n ?_
  refine awp_seq ?_
  refine awp_seq ?_
  refine awp_region ?_
  refine AL_upto (by exact rfl) (by simp only [go_sem, seval]; exact rfl) ?_
  refine AL_nil ?_
  refine thenA_n ?_
  refine awp_block ?_
  obtain ⟨o_675, hL_676, h⟩ := Option.bind_eq_some_iff.1 h
  refine awp_loop_L (fun (s : Int) => ⟨[(0, .p (.slc (List.map encValue l_655))), (3, .p (.int .i64 s))], []⟩) (fun (o : (Unit) ⊕ (Bool)) (e : Exit) (s' : St) => match o with | .inl o_678 => e = (.exit 0) ∧ Le ⟨Try.prog, Try.f54.ntmps, 0, X, [], fun _ => none, w⟩ s' ⟨[], []⟩ | .inr o_679 => e = .ret ∧ retQ Try.prog Try.f54 (.bool o_679) .ret s') (by intro o s hT; rcases o with _ | _ <;> (have hh := hT.1; cases hh)) hL_676 (by simp only [go_sem, seval]; all_goals ((repeat' refine And.intro ?_ ?_) <;> first | rfl | (simp; done) | (simp; rfl) | (simp [*]; done) | (simp [*]; rfl))) ?_ ?_
  · clear h
    intro i_662 x h
    simp only [drossref01_Valids_l1] at h
    show AWp _ _ _ ⟨[(0, .p (.slc (List.map encValue l_655))), (3, .p (.int .i64 i_662))], []⟩
    refine awp_seq ?_
    refine awp_seq ?_
    refine awp_region ?_
    refine AL_upto (by exact rfl) (by simp only [go_sem, seval]; exact rfl) ?_
    refine AL_nil ?_
    refine thenA_n ?_
    by_cases hb_669 : i_662 < (l_655.length : Int)
    · rw [if_pos hb_669] at h
      have hb_669T := eq_true hb_669
      refine awp_ct (by simp only [go_sem, seval, hb_669T]) ?_
      refine awp_skip ?_
      refine thenA_n ?_
      refine awp_seq ?_
      refine awp_block ?_
      refine awp_seq ?_
      refine awp_region ?_
      obtain ⟨x_670, hx_671, h⟩ := Option.bind_eq_some_iff.1 h
      obtain ⟨hx_671a, hx_671, hx_671b⟩ := idx_some hx_671
      have hx_671A := eq_true hx_671a
      have hx_671B := eq_true hx_671b
      refine AL_upto (by exact rfl) (by simp only [go_sem, seval, hb_669T, hx_671, hx_671A, hx_671B]; exact rfl) ?_
      obtain ⟨r_672, hr_673, h⟩ := Option.bind_eq_some_iff.1 h
      refine AL_con' rfl (guard_none rfl) rfl (by simp only [go_sem, seval, hb_669T]; exact rfl) (by simp only [go_sem, seval, hb_669T]; all_goals ((repeat' refine And.intro ?_ ?_) <;> first | rfl | (simp; done) | (simp; rfl) | (simp [*]; done) | (simp [*]; rfl))) (drossref01_Valid_con x_670 _ hr_673) (.inr rfl) rfl ?_
      refine AL_upto (by exact rfl) (by simp only [go_sem, seval, hb_669T]; exact rfl) ?_
      refine AL_nil ?_
      refine thenA_n ?_
      by_cases hb_674 : r_672 = true
      · rw [if_pos hb_674] at h
        refine awp_cf (by simp only [go_sem, seval, hb_669T, hb_674]) ?_
        refine awp_skip ?_
        refine blockA_n ?_
        refine thenA_n ?_
        refine awp_region ?_
        refine AL_upto (by exact rfl) (by simp only [go_sem, seval, hb_669T, hb_674]; exact rfl) ?_
        refine AL_nil ?_
        cases h
        refine ⟨rfl, ?_⟩
        simp only [go_sem, seval, hb_669T, hb_674]
        all_goals ((repeat' refine And.intro ?_ ?_) <;> first | rfl | (simp; done) | (simp; rfl) | (simp [*]; done) | (simp [*]; rfl))
      · rw [if_neg hb_674] at h
        have hb_674F := Bool.eq_false_iff.2 hb_674
        refine awp_ct (by simp only [go_sem, seval, hb_669T, hb_674F]) ?_
        refine awp_seq ?_
        refine awp_region ?_
        refine AL_upto (by exact rfl) (by simp only [go_sem, seval, hb_669T, hb_674F]; exact rfl) ?_
        refine AL_nil ?_
        refine thenA_n ?_
        refine awp_ret ?_
        refine blockA_ret ?_
        refine thenA_ret ?_
        cases h
        refine ⟨rfl, ?_⟩
        refine retQ_ret (by simp only [Try.results54]; simp only [go_sem, seval, hb_669T, hb_674F]; exact rfl) ?_
        simp only [go_sem, seval, hb_669T, hb_674F]
        all_goals ((repeat' refine And.intro ?_ ?_) <;> first | rfl | (simp; done) | (simp; rfl) | (simp [*]; done) | (simp [*]; rfl))
    · rw [if_neg hb_669] at h
      have hb_669T := eq_false hb_669
      refine awp_cf (by simp only [go_sem, seval, hb_669T]) ?_
      refine awp_exit ?_
      refine thenA_exit ?_
      cases h
      refine ⟨rfl, ?_⟩
      simp only [go_sem, seval, hb_669T]
      all_goals ((repeat' refine And.intro ?_ ?_) <;> first | rfl | (simp; done) | (simp; rfl) | (simp [*]; done) | (simp [*]; rfl))
  · intro e s' hT
    rcases o_675 with ⟨⟩ | r_677
    · try simp only at h
      try simp only at hT
      obtain ⟨rfl, hle⟩ := hT
      refine Wk.to hle ?_
      clear hle
      refine blockA_here ?_
      refine thenA_n ?_
      refine awp_seq ?_
      refine awp_region ?_
      refine AL_upto (by exact rfl) (by simp only [go_sem, seval]; exact rfl) ?_
      refine AL_nil ?_
      refine thenA_n ?_
      refine awp_ret ?_
      cases h
      refine retQ_ret (by simp only [Try.results54]; simp only [go_sem, seval]; exact rfl) ?_
      simp only [go_sem, seval]
      all_goals ((repeat' refine And.intro ?_ ?_) <;> first | rfl | (simp; done) | (simp; rfl) | (simp [*]; done) | (simp [*]; rfl))
    · try simp only at h
      try simp only at hT
      obtain ⟨rfl, hq⟩ := hT
      refine Wk.now ?_
      refine blockA_ret ?_
      refine thenA_ret ?_
      cases h
      exact hq
end Go.Proofs.Ytdmddoljldjjeaa
set_option linter.unusedVariables false
set_option linter.unusedSimpArgs false
namespace Go.Proofs.Ytdmddoljldjjeaa
open Go Go.Ab
set_option maxHeartbeats 4000000 in
theorem drossref03_letter_con (c_1707 : Int) (r_1714 : Bool) (h : drossref03_letter c_1707 = some r_1714) : Con Try.prog 88 [(.int .u8 c_1707)] (.bool r_1714) := by
  refine ⟨Try.call88, ?_⟩
  refine pure_of_awp Try.func88 rfl Try.ntmps88 (by simp) fun X w => ?_
  show AWp _ _ _ ⟨[(0, .p (.int .u8 c_1707))], []⟩
  simp only [drossref03_letter] at h
  refine awp_seq ?_
  refine awp_region ?_
  refine AL_upto (by exact rfl) (by simp only [go_sem, seval]; exact rfl) ?_
  refine AL_nil ?_
  refine thenA_n ?_
  refine awp_seq ?_
  refine awp_region ?_
  refine AL_upto (by exact rfl) (by simp only [go_sem, seval]; exact rfl) ?_
  by_cases hb_1708 : c_1707 ≥ 97
  · rw [if_pos hb_1708] at h
    have hb_1708T := eq_true hb_1708
    refine AL_known (d := 5) (v := .p (.bool true)) (by simp only [go_sem, seval, hb_1708T]) ?_
    refine AL_gt' (guard_true' rfl rfl (by exact rfl) (by exact rfl)) rfl (by simp only [go_sem, seval, hb_1708T]; exact rfl) ?_
    refine AL_gt' (guard_true' rfl rfl (by exact rfl) (by exact rfl)) rfl (by simp only [go_sem, seval, hb_1708T]; exact rfl) ?_
    refine AL_upto (by exact rfl) (by simp only [go_sem, seval, hb_1708T]; exact rfl) ?_
    by_cases hb_1709 : c_1707 ≤ 122
    · rw [if_pos hb_1709] at h
      have hb_1709T := eq_true hb_1709
      refine AL_known (d := 9) (v := .p (.bool true)) (by simp only [go_sem, seval, hb_1708T, hb_1709T]) ?_
      refine AL_skips (by exact rfl) ?_
      refine AL_upto (by exact rfl) (by simp only [go_sem, seval, hb_1708T, hb_1709T]; exact rfl) ?_
      refine AL_skips (by exact rfl) ?_
      refine AL_upto (by exact rfl) (by simp only [go_sem, seval, hb_1708T, hb_1709T]; exact rfl) ?_
      refine AL_nil ?_
      refine thenA_n ?_
      refine awp_ret ?_
      cases h
      refine retQ_ret (by simp only [Try.results88]; simp only [go_sem, seval, hb_1708T, hb_1709T]; exact rfl) ?_
      simp only [go_sem, seval, hb_1708T, hb_1709T]
      all_goals ((repeat' refine And.intro ?_ ?_) <;> first | rfl | (simp; done) | (simp; rfl) | (simp [*]; done) | (simp [*]; rfl))
    · rw [if_neg hb_1709] at h
      have hb_1709T := eq_false hb_1709
      refine AL_known (d := 9) (v := .p (.bool false)) (by simp only [go_sem, seval, hb_1708T, hb_1709T]) ?_
      refine AL_gt' (guard_true' rfl rfl (by exact rfl) (by exact rfl)) rfl (by simp only [go_sem, seval, hb_1708T, hb_1709T]; exact rfl) ?_
      refine AL_gt' (guard_true' rfl rfl (by exact rfl) (by exact rfl)) rfl (by simp only [go_sem, seval, hb_1708T, hb_1709T]; exact rfl) ?_
      refine AL_gt' (guard_true' rfl rfl (by exact rfl) (by exact rfl)) rfl (by simp only [go_sem, seval, hb_1708T, hb_1709T]; exact rfl) ?_
      by_cases hb_1710 : c_1707 ≥ 65
      · rw [if_pos hb_1710] at h
        have hb_1710T := eq_true hb_1710
        refine AL_known (d := 12) (v := .p (.bool true)) (by simp only [go_sem, seval, hb_1708T, hb_1709T, hb_1710T]) ?_
        refine AL_gt' (guard_true' rfl rfl (by exact rfl) (by exact rfl)) rfl (by simp only [go_sem, seval, hb_1708T, hb_1709T, hb_1710T]; exact rfl) ?_
        refine AL_gt' (guard_true' rfl rfl (by exact rfl) (by exact rfl)) rfl (by simp only [go_sem, seval, hb_1708T, hb_1709T, hb_1710T]; exact rfl) ?_
        refine AL_gt' (guard_true' rfl rfl (by exact rfl) (by exact rfl)) rfl (by simp only [go_sem, seval, hb_1708T, hb_1709T, hb_1710T]; exact rfl) ?_
        refine AL_upto (by exact rfl) (by simp only [go_sem, seval, hb_1708T, hb_1709T, hb_1710T]; exact rfl) ?_
        by_cases hb_1711 : c_1707 ≤ 90
        · rw [if_pos hb_1711] at h
          have hb_1711T := eq_true hb_1711
          refine AL_known (d := 17) (v := .p (.bool true)) (by simp only [go_sem, seval, hb_1708T, hb_1709T, hb_1710T, hb_1711T]) ?_
          refine AL_skips (by exact rfl) ?_
          refine AL_upto (by exact rfl) (by simp only [go_sem, seval, hb_1708T, hb_1709T, hb_1710T, hb_1711T]; exact rfl) ?_
          refine AL_nil ?_
          refine thenA_n ?_
          refine awp_ret ?_
          cases h
          refine retQ_ret (by simp only [Try.results88]; simp only [go_sem, seval, hb_1708T, hb_1709T, hb_1710T, hb_1711T]; exact rfl) ?_
          simp only [go_sem, seval, hb_1708T, hb_1709T, hb_1710T, hb_1711T]
          all_goals ((repeat' refine And.intro ?_ ?_) <;> first | rfl | (simp; done) | (simp; rfl) | (simp [*]; done) | (simp [*]; rfl))
        · rw [if_neg hb_1711] at h
          have hb_1711T := eq_false hb_1711
          refine AL_known (d := 17) (v := .p (.bool false)) (by simp only [go_sem, seval, hb_1708T, hb_1709T, hb_1710T, hb_1711T]) ?_
          refine AL_gt' (guard_true' rfl rfl (by exact rfl) (by exact rfl)) rfl (by simp only [go_sem, seval, hb_1708T, hb_1709T, hb_1710T, hb_1711T]; exact rfl) ?_
          refine AL_gt' (guard_true' rfl rfl (by exact rfl) (by exact rfl)) rfl (by simp only [go_sem, seval, hb_1708T, hb_1709T, hb_1710T, hb_1711T]; exact rfl) ?_
          refine AL_upto (by exact rfl) (by simp only [go_sem, seval, hb_1708T, hb_1709T, hb_1710T, hb_1711T]; exact rfl) ?_
          refine AL_nil ?_
          refine thenA_n ?_
          refine awp_ret ?_
          cases h
          refine retQ_ret (by simp only [Try.results88]; simp only [go_sem, seval, hb_1708T, hb_1709T, hb_1710T, hb_1711T]; exact rfl) ?_
          simp only [go_sem, seval, hb_1708T, hb_1709T, hb_1710T, hb_1711T]
          all_goals ((repeat' refine And.intro ?_ ?_) <;> first | rfl | (simp; done) | (simp; rfl) | (simp [*]; done) | (simp [*]; rfl))
      · rw [if_neg hb_1710] at h
        have hb_1710T := eq_false hb_1710
        refine AL_known (d := 12) (v := .p (.bool false)) (by simp only [go_sem, seval, hb_1708T, hb_1709T, hb_1710T]) ?_
        refine AL_skips (by exact rfl) ?_
        refine AL_gt' (guard_true' rfl rfl (by exact rfl) (by exact rfl)) rfl (by simp only [go_sem, seval, hb_1708T, hb_1709T, hb_1710T]; exact rfl) ?_
        refine AL_upto (by exact rfl) (by simp only [go_sem, seval, hb_1708T, hb_1709T, hb_1710T]; exact rfl) ?_
        refine AL_gt' (guard_true' rfl rfl (by exact rfl) (by exact rfl)) rfl (by simp only [go_sem, seval, hb_1708T, hb_1709T, hb_1710T]; exact rfl) ?_
        refine AL_gt' (guard_true' rfl rfl (by exact rfl) (by exact rfl)) rfl (by simp only [go_sem, seval, hb_1708T, hb_1709T, hb_1710T]; exact rfl) ?_
        refine AL_upto (by exact rfl) (by simp only [go_sem, seval, hb_1708T, hb_1709T, hb_1710T]; exact rfl) ?_
        refine AL_nil ?_
        refine thenA_n ?_
        refine awp_ret ?_
        cases h
        refine retQ_ret (by simp only [Try.results88]; simp only [go_sem, seval, hb_1708T, hb_1709T, hb_1710T]; exact rfl) ?_
        simp only [go_sem, seval, hb_1708T, hb_1709T, hb_1710T]
        all_goals ((repeat' refine And.intro ?_ ?_) <;> first | rfl | (simp; done) | (simp; rfl) | (simp [*]; done) | (simp [*]; rfl))
  · rw [if_neg hb_1708] at h
    have hb_1708T := eq_false hb_1708
    refine AL_known (d := 5) (v := .p (.bool false)) (by simp only [go_sem, seval, hb_1708T]) ?_
    refine AL_skips (by exact rfl) ?_
    refine AL_upto (by exact rfl) (by simp only [go_sem, seval, hb_1708T]; exact rfl) ?_
    refine AL_gt' (guard_true' rfl rfl (by exact rfl) (by exact rfl)) rfl (by simp only [go_sem, seval, hb_1708T]; exact rfl) ?_
    refine AL_gt' (guard_true' rfl rfl (by exact rfl) (by exact rfl)) rfl (by simp only [go_sem, seval, hb_1708T]; exact rfl) ?_
    refine AL_gt' (guard_true' rfl rfl (by exact rfl) (by exact rfl)) rfl (by simp only [go_sem, seval, hb_1708T]; exact rfl) ?_
    by_cases hb_1712 : c_1707 ≥ 65
    · rw [if_pos hb_1712] at h
      have hb_1712T := eq_true hb_1712
      refine AL_known (d := 12) (v := .p (.bool true)) (by simp only [go_sem, seval, hb_1708T, hb_1712T]) ?_
      refine AL_gt' (guard_true' rfl rfl (by exact rfl) (by exact rfl)) rfl (by simp only [go_sem, seval, hb_1708T, hb_1712T]; exact rfl) ?_
      refine AL_gt' (guard_true' rfl rfl (by exact rfl) (by exact rfl)) rfl (by simp only [go_sem, seval, hb_1708T, hb_1712T]; exact rfl) ?_
      refine AL_gt' (guard_true' rfl rfl (by exact rfl) (by exact rfl)) rfl (by simp only [go_sem, seval, hb_1708T, hb_1712T]; exact rfl) ?_
      refine AL_upto (by exact rfl) (by simp only [go_sem, seval, hb_1708T, hb_1712T]; exact rfl) ?_
      by_cases hb_1713 : c_1707 ≤ 90
      · rw [if_pos hb_1713] at h
        have hb_1713T := eq_true hb_1713
        refine AL_known (d := 17) (v := .p (.bool true)) (by simp only [go_sem, seval, hb_1708T, hb_1712T, hb_1713T]) ?_
        refine AL_skips (by exact rfl) ?_
        refine AL_upto (by exact rfl) (by simp only [go_sem, seval, hb_1708T, hb_1712T, hb_1713T]; exact rfl) ?_
        refine AL_nil ?_
        refine thenA_n ?_
        refine awp_ret ?_
        cases h
        refine retQ_ret (by simp only [Try.results88]; simp only [go_sem, seval, hb_1708T, hb_1712T, hb_1713T]; exact rfl) ?_
        simp only [go_sem, seval, hb_1708T, hb_1712T, hb_1713T]
        all_goals ((repeat' refine And.intro ?_ ?_) <;> first | rfl | (simp; done) | (simp; rfl) | (simp [*]; done) | (simp [*]; rfl))
      · rw [if_neg hb_1713] at h
        have hb_1713T := eq_false hb_1713
        refine AL_known (d := 17) (v := .p (.bool false)) (by simp only [go_sem, seval, hb_1708T, hb_1712T, hb_1713T]) ?_
        refine AL_gt' (guard_true' rfl rfl (by exact rfl) (by exact rfl)) rfl (by simp only [go_sem, seval, hb_1708T, hb_1712T, hb_1713T]; exact rfl) ?_
        refine AL_gt' (guard_true' rfl rfl (by exact rfl) (by exact rfl)) rfl (by simp only [go_sem, seval, hb_1708T, hb_1712T, hb_1713T]; exact rfl) ?_
        refine AL_upto (by exact rfl) (by simp only [go_sem, seval, hb_1708T, hb_1712T, hb_1713T]; exact rfl) ?_
        refine AL_nil ?_
        refine thenA_n ?_
        refine awp_ret ?_
        cases h
        refine retQ_ret (by simp only [Try.results88]; simp only [go_sem, seval, hb_1708T, hb_1712T, hb_1713T]; exact rfl) ?_
        simp only [go_sem, seval, hb_1708T, hb_1712T, hb_1713T]
        all_goals ((repeat' refine And.intro ?_ ?_) <;> first | rfl | (simp; done) | (simp; rfl) | (simp [*]; done) | (simp [*]; rfl))
    · rw [if_neg hb_1712] at h
      have hb_1712T := eq_false hb_1712
      refine AL_known (d := 12) (v := .p (.bool false)) (by simp only [go_sem, seval, hb_1708T, hb_1712T]) ?_
      refine AL_skips (by exact rfl) ?_
      refine AL_gt' (guard_true' rfl rfl (by exact rfl) (by exact rfl)) rfl (by simp only [go_sem, seval, hb_1708T, hb_1712T]; exact rfl) ?_
      refine AL_upto (by exact rfl) (by simp only [go_sem, seval, hb_1708T, hb_1712T]; exact rfl) ?_
      refine AL_gt' (guard_true' rfl rfl (by exact rfl) (by exact rfl)) rfl (by simp only [go_sem, seval, hb_1708T, hb_1712T]; exact rfl) ?_
      refine AL_gt' (guard_true' rfl rfl (by exact rfl) (by exact rfl)) rfl (by simp only [go_sem, seval, hb_1708T, hb_1712T]; exact rfl) ?_
      refine AL_upto (by exact rfl) (by simp only [go_sem, seval, hb_1708T, hb_1712T]; exact rfl) ?_
      refine AL_nil ?_
      refine thenA_n ?_
      refine awp_ret ?_
      cases h
      refine retQ_ret (by simp only [Try.results88]; simp only [go_sem, seval, hb_1708T, hb_1712T]; exact rfl) ?_
      simp only [go_sem, seval, hb_1708T, hb_1712T]
      all_goals ((repeat' refine And.intro ?_ ?_) <;> first | rfl | (simp; done) | (simp; rfl) | (simp [*]; done) | (simp [*]; rfl))
end Go.Proofs.Ytdmddoljldjjeaa
set_option linter.unusedVariables false
set_option linter.unusedSimpArgs false
namespace Go.Proofs.Ytdmddoljldjjeaa
open Go Go.Ab
set_option maxHeartbeats 4000000 in
theorem drossref03_Name_con (s_1715 : List UInt8) (r_1756 : Bool) (h : drossref03_Name s_1715 = some r_1756) : Con Try.prog 69 [(.str s_1715)] (.bool r_1756) := by
  refine ⟨Try.call69, ?_⟩
  refine pure_of_awp Try.func69 rfl Try.ntmps69 (by simp) fun X w => ?_
  show AWp _ _ _ ⟨[(0, .p (.str s_1715))], []⟩
  simp only [drossref03_Name] at h
  refine awp_seq ?_
  refine awp_region ?_
  refine AL_upto (by exact rfl) (by simp only [go_sem, seval]; exact rfl) ?_
  refine AL_nil ?_
  refine thenA_n ?_
  refine awp_seq ?_
  refine awp_seq ?_
  refine awp_region ?_
  refine AL_upto (by exact rfl) (by simp only [go_sem, seval]; exact rfl) ?_
  by_cases hb_1716 : ((s_1715.length : Int) == 0) = true
  · rw [if_pos hb_1716] at h
    refine AL_known (d := 7) (v := .p (.bool true)) (by simp only [go_sem, seval, hb_1716]) ?_
    refine AL_skips (by exact rfl) ?_
    refine AL_upto (by exact rfl) (by simp only [go_sem, seval, hb_1716]; exact rfl) ?_
    refine AL_skips (by exact rfl) ?_
    refine AL_upto (by exact rfl) (by simp only [go_sem, seval, hb_1716]; exact rfl) ?_
    refine AL_skips (by exact rfl) ?_
    refine AL_upto (by exact rfl) (by simp only [go_sem, seval, hb_1716]; exact rfl) ?_
    refine AL_nil ?_
    refine thenA_n ?_
    refine awp_ct (by simp only [go_sem, seval, hb_1716]) ?_
    refine awp_seq ?_
    refine awp_region ?_
    refine AL_upto (by exact rfl) (by simp only [go_sem, seval, hb_1716]; exact rfl) ?_
    refine AL_nil ?_
    refine thenA_n ?_
    refine awp_ret ?_
    refine thenA_ret ?_
    cases h
    refine retQ_ret (by simp only [Try.results69]; simp only [go_sem, seval, hb_1716]; exact rfl) ?_
    simp only [go_sem, seval, hb_1716]
    all_goals ((repeat' refine And.intro ?_ ?_) <;> first | rfl | (simp; done) | (simp; rfl) | (simp [*]; done) | (simp [*]; rfl))
  · rw [if_neg hb_1716] at h
    have hb_1716F := Bool.eq_false_iff.2 hb_1716
    refine AL_known (d := 7) (v := .p (.bool false)) (by simp only [go_sem, seval, hb_1716F]) ?_
    refine AL_gt' (guard_true' rfl rfl (by exact rfl) (by exact rfl)) rfl (by simp only [go_sem, seval, hb_1716F]; exact rfl) ?_
    refine AL_gt' (guard_true' rfl rfl (by exact rfl) (by exact rfl)) rfl (by simp only [go_sem, seval, hb_1716F]; exact rfl) ?_
    refine AL_gt' (guard_true' rfl rfl (by exact rfl) (by exact rfl)) rfl (by simp only [go_sem, seval, hb_1716F]; exact rfl) ?_
    refine AL_upto (by exact rfl) (by simp only [go_sem, seval, hb_1716F]; exact rfl) ?_
    by_cases hb_1717 : (s_1715.length : Int) > 24
    · rw [if_pos hb_1717] at h
      have hb_1717T := eq_true hb_1717
      refine AL_known (d := 12) (v := .p (.bool true)) (by simp only [go_sem, seval, hb_1716F, hb_1717T]) ?_
      refine AL_skips (by exact rfl) ?_
      refine AL_upto (by exact rfl) (by simp only [go_sem, seval, hb_1716F, hb_1717T]; exact rfl) ?_
      refine AL_skips (by exact rfl) ?_
      refine AL_upto (by exact rfl) (by simp only [go_sem, seval, hb_1716F, hb_1717T]; exact rfl) ?_
      refine AL_nil ?_
      refine thenA_n ?_
      refine awp_ct (by simp only [go_sem, seval, hb_1716F, hb_1717T]) ?_
      refine awp_seq ?_
      refine awp_region ?_
      refine AL_upto (by exact rfl) (by simp only [go_sem, seval, hb_1716F, hb_1717T]; exact rfl) ?_
      refine AL_nil ?_
      refine thenA_n ?_
      refine awp_ret ?_
      refine thenA_ret ?_
      cases h
      refine retQ_ret (by simp only [Try.results69]; simp only [go_sem, seval, hb_1716F, hb_1717T]; exact rfl) ?_
      simp only [go_sem, seval, hb_1716F, hb_1717T]
      all_goals ((repeat' refine And.intro ?_ ?_) <;> first | rfl | (simp; done) | (simp; rfl) | (simp [*]; done) | (simp [*]; rfl))
    · rw [if_neg hb_1717] at h
      have hb_1717T := eq_false hb_1717
      refine AL_known (d := 12) (v := .p (.bool false)) (by simp only [go_sem, seval, hb_1716F, hb_1717T]) ?_
      refine AL_gt' (guard_true' rfl rfl (by exact rfl) (by exact rfl)) rfl (by simp only [go_sem, seval, hb_1716F, hb_1717T]; exact rfl) ?_
      obtain ⟨c_1720, hx_1721, h⟩ := Option.bind_eq_some_iff.1 h
      have hx_1721l := eq_true (lt_of_get hx_1721)
      have hx_1721L : ((0 : Int) < (s_1715.length : Int)) = True := eq_true (by have := lt_of_get hx_1721; omega)
      refine AL_gt' (guard_true' rfl rfl (by exact rfl) (by exact rfl)) rfl (by simp only [go_sem, seval, hb_1716F, hb_1717T, hx_1721, hx_1721l, hx_1721L]; exact rfl) ?_
      obtain ⟨r_1722, hr_1723, h⟩ := Option.bind_eq_some_iff.1 h
      refine AL_con' rfl (guard_true' rfl rfl (by exact rfl) (by exact rfl)) rfl (by simp only [go_sem, seval, hb_1716F, hb_1717T]; exact rfl) (by simp only [go_sem, seval, hb_1716F, hb_1717T]; all_goals ((repeat' refine And.intro ?_ ?_) <;> first | rfl | (simp; done) | (simp; rfl) | (simp [*]; done) | (simp [*]; rfl))) (drossref03_letter_con ((c_1720.toNat : Nat) : Int) _ hr_1723) (.inr rfl) rfl ?_
      refine AL_gt' (guard_true' rfl rfl (by exact rfl) (by exact rfl)) rfl (by simp only [go_sem, seval, hb_1716F, hb_1717T]; exact rfl) ?_
      refine AL_upto (by exact rfl) (by simp only [go_sem, seval, hb_1716F, hb_1717T]; exact rfl) ?_
      by_cases hb_1724 : r_1722 = true
      · rw [if_pos hb_1724] at h
        refine AL_known (d := 18) (v := .p (.bool false)) (by simp only [go_sem, seval, hb_1716F, hb_1717T, hb_1724]) ?_
        refine AL_gt' (guard_true' rfl rfl (by exact rfl) (by exact rfl)) rfl (by simp only [go_sem, seval, hb_1716F, hb_1717T, hb_1724]; exact rfl) ?_
        refine AL_gt' (guard_true' rfl rfl (by exact rfl) (by exact rfl)) rfl (by simp only [go_sem, seval, hb_1716F, hb_1717T, hb_1724]; exact rfl) ?_
        refine AL_upto (by exact rfl) (by simp only [go_sem, seval, hb_1716F, hb_1717T, hb_1724]; exact rfl) ?_
        refine AL_nil ?_
        refine thenA_n ?_
        by_cases hb_1725 : (s_1715 == [110, 117, 108, 108]) = true
        · rw [if_pos hb_1725] at h
          refine awp_ct (by simp only [go_sem, seval, hb_1716F, hb_1717T, hb_1724, hb_1725]) ?_
          refine awp_seq ?_
          refine awp_region ?_
          refine AL_upto (by exact rfl) (by simp only [go_sem, seval, hb_1716F, hb_1717T, hb_1724, hb_1725]; exact rfl) ?_
          refine AL_nil ?_
          refine thenA_n ?_
          refine awp_ret ?_
          refine thenA_ret ?_
          cases h
          refine retQ_ret (by simp only [Try.results69]; simp only [go_sem, seval, hb_1716F, hb_1717T, hb_1724, hb_1725]; exact rfl) ?_
          simp only [go_sem, seval, hb_1716F, hb_1717T, hb_1724, hb_1725]
          all_goals ((repeat' refine And.intro ?_ ?_) <;> first | rfl | (simp; done) | (simp; rfl) | (simp [*]; done) | (simp [*]; rfl))
        · rw [if_neg hb_1725] at h
          have hb_1725F := Bool.eq_false_iff.2 hb_1725
          refine awp_cf (by simp only [go_sem, seval, hb_1716F, hb_1717T, hb_1724, hb_1725F]) ?_
          refine awp_skip ?_
          refine thenA_n ?_
          refine awp_seq ?_
          refine awp_seq ?_
          refine awp_region ?_
          refine AL_upto (by exact rfl) (by simp only [go_sem, seval, hb_1716F, hb_1717T, hb_1724, hb_1725F]; exact rfl) ?_
          refine AL_nil ?_
          refine thenA_n ?_
          refine awp_block ?_
          obtain ⟨o_1751, hL_1752, h⟩ := Option.bind_eq_some_iff.1 h
          refine awp_loop_L (fun (s : Int) => ⟨[(0, .p (.str s_1715)), (3, .p (.int .i64 s))], []⟩) (fun (o : (Unit) ⊕ (Bool)) (e : Exit) (s' : St) => match o with | .inl o_1754 => e = (.exit 0) ∧ Le ⟨Try.prog, Try.f69.ntmps, 0, X, [], fun _ => none, w⟩ s' ⟨[], []⟩ | .inr o_1755 => e = .ret ∧ retQ Try.prog Try.f69 (.bool o_1755) .ret s') (by intro o s hT; rcases o with _ | _ <;> (have hh := hT.1; cases hh)) hL_1752 (by simp only [go_sem, seval, hb_1716F, hb_1717T, hb_1724, hb_1725F]; all_goals ((repeat' refine And.intro ?_ ?_) <;> first | rfl | (simp; done) | (simp; rfl) | (simp [*]; done) | (simp [*]; rfl))) ?_ ?_
          · clear h
            intro i_1734 x h
            simp only [drossref03_Name_l1] at h
            show AWp _ _ _ ⟨[(0, .p (.str s_1715)), (3, .p (.int .i64 i_1734))], []⟩
            refine awp_seq ?_
            refine awp_seq ?_
            refine awp_region ?_
            refine AL_upto (by exact rfl) (by simp only [go_sem, seval]; exact rfl) ?_
            refine AL_nil ?_
            refine thenA_n ?_
            by_cases hb_1743 : i_1734 < (s_1715.length : Int)
            · rw [if_pos hb_1743] at h
              have hb_1743T := eq_true hb_1743
              refine awp_ct (by simp only [go_sem, seval, hb_1743T]) ?_
              refine awp_skip ?_
              refine thenA_n ?_
              refine awp_seq ?_
              refine awp_block ?_
              refine awp_seq ?_
              refine awp_region ?_
              obtain ⟨c_1744, hx_1745, h⟩ := Option.bind_eq_some_iff.1 h
              obtain ⟨hx_1745a, hx_1745, hx_1745b⟩ := idx_some hx_1745
              have hx_1745A := eq_true hx_1745a
              have hx_1745B := eq_true hx_1745b
              refine AL_upto (by exact rfl) (by simp only [go_sem, seval, hb_1743T, hx_1745, hx_1745A, hx_1745B]; exact rfl) ?_
              obtain ⟨r_1746, hr_1747, h⟩ := Option.bind_eq_some_iff.1 h
              refine AL_con' rfl (guard_none rfl) rfl (by simp only [go_sem, seval, hb_1743T]; exact rfl) (by simp only [go_sem, seval, hb_1743T]; all_goals ((repeat' refine And.intro ?_ ?_) <;> first | rfl | (simp; done) | (simp; rfl) | (simp [*]; done) | (simp [*]; rfl))) (drossref03_letter_con ((c_1744.toNat : Nat) : Int) _ hr_1747) (.inr rfl) rfl ?_
              refine AL_upto (by exact rfl) (by simp only [go_sem, seval, hb_1743T]; exact rfl) ?_
              by_cases hb_1748 : r_1746 = true
              · rw [if_pos hb_1748] at h
                refine AL_known (d := 33) (v := .p (.bool false)) (by simp only [go_sem, seval, hb_1743T, hb_1748]) ?_
                refine AL_skips (by exact rfl) ?_
                refine AL_upto (by exact rfl) (by simp only [go_sem, seval, hb_1743T, hb_1748]; exact rfl) ?_
                refine AL_nil ?_
                refine thenA_n ?_
                refine awp_cf (by simp only [go_sem, seval, hb_1743T, hb_1748]) ?_
                refine awp_skip ?_
                refine blockA_n ?_
                refine thenA_n ?_
                refine awp_region ?_
                refine AL_upto (by exact rfl) (by simp only [go_sem, seval, hb_1743T, hb_1748]; exact rfl) ?_
                refine AL_nil ?_
                cases h
                refine ⟨rfl, ?_⟩
                simp only [go_sem, seval, hb_1743T, hb_1748]
                all_goals ((repeat' refine And.intro ?_ ?_) <;> first | rfl | (simp; done) | (simp; rfl) | (simp [*]; done) | (simp [*]; rfl))
              · rw [if_neg hb_1748] at h
                have hb_1748F := Bool.eq_false_iff.2 hb_1748
                refine AL_known (d := 33) (v := .p (.bool true)) (by simp only [go_sem, seval, hb_1743T, hb_1748F]) ?_
                refine AL_gt' (guard_true' rfl rfl (by exact rfl) (by exact rfl)) rfl (by simp only [go_sem, seval, hb_1743T, hb_1748F]; exact rfl) ?_
                refine AL_gt' (guard_true' rfl rfl (by exact rfl) (by exact rfl)) rfl (by simp only [go_sem, seval, hb_1743T, hb_1748F]; exact rfl) ?_
                refine AL_gt' (guard_true' rfl rfl (by exact rfl) (by exact rfl)) rfl (by simp only [go_sem, seval, hb_1743T, hb_1748F, hx_1745, hx_1745A, hx_1745B]; exact rfl) ?_
                refine AL_gt' (guard_true' rfl rfl (by exact rfl) (by exact rfl)) rfl (by simp only [go_sem, seval, hb_1743T, hb_1748F]; exact rfl) ?_
                refine AL_gt' (guard_true' rfl rfl (by exact rfl) (by exact rfl)) rfl (by simp only [go_sem, seval, hb_1743T, hb_1748F]; exact rfl) ?_
                by_cases hb_1749 : ((c_1744.toNat : Nat) : Int) < 48
                · rw [if_pos hb_1749] at h
                  have hb_1749T := eq_true hb_1749
                  refine AL_known (d := 38) (v := .p (.bool true)) (by simp only [go_sem, seval, hb_1743T, hb_1748F, hb_1749T]) ?_
                  refine AL_skips (by exact rfl) ?_
                  refine AL_gt' (guard_true' rfl rfl (by exact rfl) (by exact rfl)) rfl (by simp only [go_sem, seval, hb_1743T, hb_1748F, hb_1749T]; exact rfl) ?_
                  refine AL_upto (by exact rfl) (by simp only [go_sem, seval, hb_1743T, hb_1748F, hb_1749T]; exact rfl) ?_
                  refine AL_nil ?_
                  refine thenA_n ?_
                  refine awp_ct (by simp only [go_sem, seval, hb_1743T, hb_1748F, hb_1749T]) ?_
                  refine awp_seq ?_
                  refine awp_region ?_
                  refine AL_upto (by exact rfl) (by simp only [go_sem, seval, hb_1743T, hb_1748F, hb_1749T]; exact rfl) ?_
                  refine AL_nil ?_
                  refine thenA_n ?_
                  refine awp_ret ?_
                  refine blockA_ret ?_
                  refine thenA_ret ?_
                  cases h
                  refine ⟨rfl, ?_⟩
                  refine retQ_ret (by simp only [Try.results69]; simp only [go_sem, seval, hb_1743T, hb_1748F, hb_1749T]; exact rfl) ?_
                  simp only [go_sem, seval, hb_1743T, hb_1748F, hb_1749T]
                  all_goals ((repeat' refine And.intro ?_ ?_) <;> first | rfl | (simp; done) | (simp; rfl) | (simp [*]; done) | (simp [*]; rfl))
                · rw [if_neg hb_1749] at h
                  have hb_1749T := eq_false hb_1749
                  refine AL_known (d := 38) (v := .p (.bool false)) (by simp only [go_sem, seval, hb_1743T, hb_1748F, hb_1749T]) ?_
                  refine AL_gt' (guard_true' rfl rfl (by exact rfl) (by exact rfl)) rfl (by simp only [go_sem, seval, hb_1743T, hb_1748F, hb_1749T]; exact rfl) ?_
                  refine AL_gt' (guard_true' rfl rfl (by exact rfl) (by exact rfl)) rfl (by simp only [go_sem, seval, hb_1743T, hb_1748F, hb_1749T]; exact rfl) ?_
                  refine AL_gt' (guard_true' rfl rfl (by exact rfl) (by exact rfl)) rfl (by simp only [go_sem, seval, hb_1743T, hb_1748F, hb_1749T, hx_1745, hx_1745A, hx_1745B]; exact rfl) ?_
                  refine AL_gt' (guard_true' rfl rfl (by exact rfl) (by exact rfl)) rfl (by simp only [go_sem, seval, hb_1743T, hb_1748F, hb_1749T]; exact rfl) ?_
                  refine AL_gt' (guard_true' rfl rfl (by exact rfl) (by exact rfl)) rfl (by simp only [go_sem, seval, hb_1743T, hb_1748F, hb_1749T]; exact rfl) ?_
                  refine AL_upto (by exact rfl) (by simp only [go_sem, seval, hb_1743T, hb_1748F, hb_1749T]; exact rfl) ?_
                  refine AL_nil ?_
                  refine thenA_n ?_
                  by_cases hb_1750 : ((c_1744.toNat : Nat) : Int) > 57
                  · rw [if_pos hb_1750] at h
                    have hb_1750T := eq_true hb_1750
                    refine awp_ct (by simp only [go_sem, seval, hb_1743T, hb_1748F, hb_1749T, hb_1750T]) ?_
                    refine awp_seq ?_
                    refine awp_region ?_
                    refine AL_upto (by exact rfl) (by simp only [go_sem, seval, hb_1743T, hb_1748F, hb_1749T, hb_1750T]; exact rfl) ?_
                    refine AL_nil ?_
                    refine thenA_n ?_
                    refine awp_ret ?_
                    refine blockA_ret ?_
                    refine thenA_ret ?_
                    cases h
                    refine ⟨rfl, ?_⟩
                    refine retQ_ret (by simp only [Try.results69]; simp only [go_sem, seval, hb_1743T, hb_1748F, hb_1749T, hb_1750T]; exact rfl) ?_
                    simp only [go_sem, seval, hb_1743T, hb_1748F, hb_1749T, hb_1750T]
                    all_goals ((repeat' refine And.intro ?_ ?_) <;> first | rfl | (simp; done) | (simp; rfl) | (simp [*]; done) | (simp [*]; rfl))
                  · rw [if_neg hb_1750] at h
                    have hb_1750T := eq_false hb_1750
                    refine awp_cf (by simp only [go_sem, seval, hb_1743T, hb_1748F, hb_1749T, hb_1750T]) ?_
                    refine awp_skip ?_
                    refine blockA_n ?_
                    refine thenA_n ?_
                    refine awp_region ?_
                    refine AL_upto (by exact rfl) (by simp only [go_sem, seval, hb_1743T, hb_1748F, hb_1749T, hb_1750T]; exact rfl) ?_
                    refine AL_nil ?_
                    cases h
                    refine ⟨rfl, ?_⟩
                    simp only [go_sem, seval, hb_1743T, hb_1748F, hb_1749T, hb_1750T]
                    all_goals ((repeat' refine And.intro ?_ ?_) <;> first | rfl | (simp; done) | (simp; rfl) | (simp [*]; done) | (simp [*]; rfl))
            · rw [if_neg hb_1743] at h
              have hb_1743T := eq_false hb_1743
              refine awp_cf (by simp only [go_sem, seval, hb_1743T]) ?_
              refine awp_exit ?_
              refine thenA_exit ?_
              cases h
              refine ⟨rfl, ?_⟩
              simp only [go_sem, seval, hb_1743T]
              all_goals ((repeat' refine And.intro ?_ ?_) <;> first | rfl | (simp; done) | (simp; rfl) | (simp [*]; done) | (simp [*]; rfl))
          · intro e s' hT
            rcases o_1751 with ⟨⟩ | r_1753
            · try simp only at h
              try simp only at hT
              obtain ⟨rfl, hle⟩ := hT
              refine Wk.to hle ?_
              clear hle
              refine blockA_here ?_
              refine thenA_n ?_
              refine awp_seq ?_
              refine awp_region ?_
              refine AL_upto (by exact rfl) (by simp only [go_sem, seval, hb_1716F, hb_1717T, hb_1724, hb_1725F]; exact rfl) ?_
              refine AL_nil ?_
              refine thenA_n ?_
              refine awp_ret ?_
              cases h
              refine retQ_ret (by simp only [Try.results69]; simp only [go_sem, seval, hb_1716F, hb_1717T, hb_1724, hb_1725F]; exact rfl) ?_
              simp only [go_sem, seval, hb_1716F, hb_1717T, hb_1724, hb_1725F]
              all_goals ((repeat' refine And.intro ?_ ?_) <;> first | rfl | (simp; done) | (simp; rfl) | (simp [*]; done) | (simp [*]; rfl))
            · try simp only at h
              try simp only at hT
              obtain ⟨rfl, hq⟩ := hT
              refine Wk.now ?_
              refine blockA_ret ?_
              refine thenA_ret ?_
              cases h
              exact hq
      · rw [if_neg hb_1724] at h
        have hb_1724F := Bool.eq_false_iff.2 hb_1724
        refine AL_known (d := 18) (v := .p (.bool true)) (by simp only [go_sem, seval, hb_1716F, hb_1717T, hb_1724F]) ?_
        refine AL_skips (by exact rfl) ?_
        refine AL_upto (by exact rfl) (by simp only [go_sem, seval, hb_1716F, hb_1717T, hb_1724F]; exact rfl) ?_
        refine AL_nil ?_
        refine thenA_n ?_
        refine awp_ct (by simp only [go_sem, seval, hb_1716F, hb_1717T, hb_1724F]) ?_
        refine awp_seq ?_
        refine awp_region ?_
        refine AL_upto (by exact rfl) (by simp only [go_sem, seval, hb_1716F, hb_1717T, hb_1724F]; exact rfl) ?_
        refine AL_nil ?_
        refine thenA_n ?_
        refine awp_ret ?_
        refine thenA_ret ?_
        cases h
        refine retQ_ret (by simp only [Try.results69]; simp only [go_sem, seval, hb_1716F, hb_1717T, hb_1724F]; exact rfl) ?_
        simp only [go_sem, seval, hb_1716F, hb_1717T, hb_1724F]
        all_goals ((repeat' refine And.intro ?_ ?_) <;> first | rfl | (simp; done) | (simp; rfl) | (simp [*]; done) | (simp [*]; rfl))
end Go.Proofs.Ytdmddoljldjjeaa
set_option linter.unusedVariables false
set_option linter.unusedSimpArgs false
namespace Go.Proofs.Ytdmddoljldjjeaa
open Go Go.Ab
set_option maxHeartbeats 4000000 in
theorem drossref03_Attr_con (l_1757 : List (List UInt8)) (name_1758 : List UInt8) (r_1777 : Int) (h : drossref03_Attr l_1757 name_1758 = some r_1777) : Con Try.prog 89 [(.slc (List.map PV.str l_1757)), (.str name_1758)] (.int .i64 r_1777) := by
  refine ⟨Try.call89, ?_⟩
  refine pure_of_awp Try.func89 rfl Try.ntmps89 (by simp) fun X w => ?_
  show AWp _ _ _ ⟨[(0, .p (.slc (List.map PV.str l_1757))), (1, .p (.str name_1758))], []⟩
  simp only [drossref03_Attr] at h
  refine awp_seq ?_
  refine awp_region ?_
  refine AL_upto (by exact rfl) (by simp only [go_sem, seval]; exact rfl) ?_
  refine AL_nil ?_
  refine thenA_n ?_
  refine awp_seq ?_
  refine awp_seq ?_
  refine awp_region ?_
  refine AL_upto (by exact rfl) (by simp only [go_sem, seval]; exact rfl) ?_
  refine AL_nil ?_
  refine thenA_n ?_
  refine awp_block ?_
  obtain ⟨o_1772, hL_1773, h⟩ := Option.bind_eq_some_iff.1 h
  refine awp_loop_L (fun (s : Int) => ⟨[(0, .p (.slc (List.map PV.str l_1757))), (1, .p (.str name_1758)), (5, .p (.int .i64 s))], []⟩) (fun (o : (Unit) ⊕ (Int)) (e : Exit) (s' : St) => match o with | .inl o_1775 => e = (.exit 0) ∧ Le ⟨Try.prog, Try.f89.ntmps, 0, X, [], fun _ => none, w⟩ s' ⟨[], []⟩ | .inr o_1776 => e = .ret ∧ retQ Try.prog Try.f89 (.int .i64 o_1776) .ret s') (by intro o s hT; rcases o with _ | _ <;> (have hh := hT.1; cases hh)) hL_1773 (by simp only [go_sem, seval]; all_goals ((repeat' refine And.intro ?_ ?_) <;> first | rfl | (simp; done) | (simp; rfl) | (simp [*]; done) | (simp [*]; rfl))) ?_ ?_
  · clear h
    intro i_1763 x h
    simp only [drossref03_Attr_l1] at h
    show AWp _ _ _ ⟨[(0, .p (.slc (List.map PV.str l_1757))), (1, .p (.str name_1758)), (5, .p (.int .i64 i_1763))], []⟩
    refine awp_seq ?_
    refine awp_seq ?_
    refine awp_region ?_
    refine AL_upto (by exact rfl) (by simp only [go_sem, seval]; exact rfl) ?_
    refine AL_nil ?_
    refine thenA_n ?_
    by_cases hb_1768 : i_1763 < (l_1757.length : Int)
    · rw [if_pos hb_1768] at h
      have hb_1768T := eq_true hb_1768
      refine awp_ct (by simp only [go_sem, seval, hb_1768T]) ?_
      refine awp_skip ?_
      refine thenA_n ?_
      refine awp_seq ?_
      refine awp_block ?_
      refine awp_seq ?_
      refine awp_region ?_
      obtain ⟨x_1769, hx_1770, h⟩ := Option.bind_eq_some_iff.1 h
      obtain ⟨hx_1770a, hx_1770, hx_1770b⟩ := idx_some hx_1770
      have hx_1770A := eq_true hx_1770a
      have hx_1770B := eq_true hx_1770b
      refine AL_upto (by exact rfl) (by simp only [go_sem, seval, hb_1768T, hx_1770, hx_1770A, hx_1770B]; exact rfl) ?_
      refine AL_nil ?_
      refine thenA_n ?_
      by_cases hb_1771 : (x_1769 == name_1758) = true
      · rw [if_pos hb_1771] at h
        refine awp_ct (by simp only [go_sem, seval, hb_1768T, hb_1771]) ?_
        refine awp_seq ?_
        refine awp_region ?_
        refine AL_upto (by exact rfl) (by simp only [go_sem, seval, hb_1768T, hb_1771]; exact rfl) ?_
        refine AL_nil ?_
        refine thenA_n ?_
        refine awp_ret ?_
        refine blockA_ret ?_
        refine thenA_ret ?_
        cases h
        refine ⟨rfl, ?_⟩
        refine retQ_ret (by simp only [Try.results89]; simp only [go_sem, seval, hb_1768T, hb_1771]; exact rfl) ?_
        simp only [go_sem, seval, hb_1768T, hb_1771]
        all_goals ((repeat' refine And.intro ?_ ?_) <;> first | rfl | (simp; done) | (simp; rfl) | (simp [*]; done) | (simp [*]; rfl))
      · rw [if_neg hb_1771] at h
        have hb_1771F := Bool.eq_false_iff.2 hb_1771
        refine awp_cf (by simp only [go_sem, seval, hb_1768T, hb_1771F]) ?_
        refine awp_skip ?_
        refine blockA_n ?_
        refine thenA_n ?_
        refine awp_region ?_
        refine AL_upto (by exact rfl) (by simp only [go_sem, seval, hb_1768T, hb_1771F]; exact rfl) ?_
        refine AL_nil ?_
        cases h
        refine ⟨rfl, ?_⟩
        simp only [go_sem, seval, hb_1768T, hb_1771F]
        all_goals ((repeat' refine And.intro ?_ ?_) <;> first | rfl | (simp; done) | (simp; rfl) | (simp [*]; done) | (simp [*]; rfl))
    · rw [if_neg hb_1768] at h
      have hb_1768T := eq_false hb_1768
      refine awp_cf (by simp only [go_sem, seval, hb_1768T]) ?_
      refine awp_exit ?_
      refine thenA_exit ?_
      cases h
      refine ⟨rfl, ?_⟩
      simp only [go_sem, seval, hb_1768T]
      all_goals ((repeat' refine And.intro ?_ ?_) <;> first | rfl | (simp; done) | (simp; rfl) | (simp [*]; done) | (simp [*]; rfl))
  · intro e s' hT
    rcases o_1772 with ⟨⟩ | r_1774
    · try simp only at h
      try simp only at hT
      obtain ⟨rfl, hle⟩ := hT
      refine Wk.to hle ?_
      clear hle
      refine blockA_here ?_
      refine thenA_n ?_
      refine awp_seq ?_
      refine awp_region ?_
      refine AL_upto (by exact rfl) (by simp only [go_sem, seval]; exact rfl) ?_
      refine AL_nil ?_
      refine thenA_n ?_
      refine awp_ret ?_
      cases h
      refine retQ_ret (by simp only [Try.results89]; simp only [go_sem, seval]; exact rfl) ?_
      simp only [go_sem, seval]
      all_goals ((repeat' refine And.intro ?_ ?_) <;> first | rfl | (simp; done) | (simp; rfl) | (simp [*]; done) | (simp [*]; rfl))
    · try simp only at h
      try simp only at hT
      obtain ⟨rfl, hq⟩ := hT
      refine Wk.now ?_
      refine blockA_ret ?_
      refine thenA_ret ?_
      cases h
      exact hq
end Go.Proofs.Ytdmddoljldjjeaa
set_option linter.unusedVariables false
set_option linter.unusedSimpArgs false
namespace Go.Proofs.Ytdmddoljldjjeaa
open Go Go.Ab
set_option maxHeartbeats 4000000 in
theorem drossref03_Names_con (l_1778 : List (List UInt8)) (r_1822 : Bool) (h : drossref03_Names l_1778 = some r_1822) : Con Try.prog 70 [(.slc (List.map PV.str l_1778))] (.bool r_1822) := by
  refine ⟨Try.call70, ?_⟩
  refine pure_of_awp Try.func70 rfl Try.ntmps70 (by simp) fun X w => ?_
  show AWp _ _ _ ⟨[(0, .p (.slc (List.map PV.str l_1778)))], []⟩
  simp only [drossref03_Names] at h
  refine awp_seq ?_
  refine awp_region ?_
  refine AL_upto (by exact rfl) (by simp only [go_sem, seval]; exact rfl) ?_
  refine AL_nil ?_
  refine thenA_n ?_
  refine awp_seq ?_
  refine awp_seq ?_
  refine awp_region ?_
  refine AL_upto (by exact rfl) (by simp only [go_sem, seval]; exact rfl) ?_
  refine AL_nil ?_
  refine thenA_n ?_
  refine awp_block ?_
  obtain ⟨o_1817, hL_1818, h⟩ := Option.bind_eq_some_iff.1 h
  refine awp_loop_L (fun (s : Int) => ⟨[(0, .p (.slc (List.map PV.str l_1778))), (3, .p (.int .i64 s))], []⟩) (fun (o : (Unit) ⊕ (Bool)) (e : Exit) (s' : St) => match o with | .inl o_1820 => e = (.exit 0) ∧ Le ⟨Try.prog, Try.f70.ntmps, 0, X, [], fun _ => none, w⟩ s' ⟨[], []⟩ | .inr o_1821 => e = .ret ∧ retQ Try.prog Try.f70 (.bool o_1821) .ret s') (by intro o s hT; rcases o with _ | _ <;> (have hh := hT.1; cases hh)) hL_1818 (by simp only [go_sem, seval]; all_goals ((repeat' refine And.intro ?_ ?_) <;> first | rfl | (simp; done) | (simp; rfl) | (simp [*]; done) | (simp [*]; rfl))) ?_ ?_
  · clear h
    intro i_1790 x h
    simp only [drossref03_Names_l1] at h
    show AWp _ _ _ ⟨[(0, .p (.slc (List.map PV.str l_1778))), (3, .p (.int .i64 i_1790))], []⟩
    refine awp_seq ?_
    refine awp_seq ?_
    refine awp_region ?_
    refine AL_upto (by exact rfl) (by simp only [go_sem, seval]; exact rfl) ?_
    refine AL_nil ?_
    refine thenA_n ?_
    by_cases hb_1804 : i_1790 < (l_1778.length : Int)
    · rw [if_pos hb_1804] at h
      have hb_1804T := eq_true hb_1804
      refine awp_ct (by simp only [go_sem, seval, hb_1804T]) ?_
      refine awp_skip ?_
      refine thenA_n ?_
      refine awp_seq ?_
      refine awp_block ?_
      refine awp_seq ?_
      refine awp_drawn_walk mixed (by decide) ?_
      obtain ⟨x_1805, hx_1806, h⟩ := Option.bind_eq_some_iff.1 h
      obtain ⟨hx_1806a, hx_1806, hx_1806b⟩ := idx_some hx_1806
      have hx_1806A := eq_true hx_1806a
      have hx_1806B := eq_true hx_1806b
      refine DGo.upto (by exact rfl) (by simp only [go_sem, seval, hb_1804T, hx_1806, hx_1806A, hx_1806B]; exact ⟨rfl, rfl⟩) ?_
      obtain ⟨r_1807, hr_1808, h⟩ := Option.bind_eq_some_iff.1 h
      refine DGo.con' rfl (guard_none rfl) rfl (by simp only [go_sem, seval, hb_1804T]; exact rfl) (by simp only [go_sem, seval, hb_1804T]; all_goals ((repeat' refine And.intro ?_ ?_) <;> first | rfl | (simp; done) | (simp; rfl) | (simp [*]; done) | (simp [*]; rfl))) (by simp only [go_sem, seval, hb_1804T]; exact rfl) (drossref03_Name_con x_1805 _ hr_1808) (.inr rfl) rfl ?_
      refine DGo.upto (by exact rfl) (by simp only [go_sem, seval, hb_1804T]; exact ⟨rfl, rfl⟩) ?_
      by_cases hb_1809 : r_1807 = true
      · rw [if_pos hb_1809] at h
        refine DGo.known' (d := 16) (v := .p (.bool false)) (by simp only [go_sem, seval, hb_1804T, hb_1809]) ?_
        refine DGo.gt' (guard_true' rfl rfl (by exact rfl) (by exact rfl)) rfl (by simp only [go_sem, seval, hb_1804T, hb_1809]; exact ⟨rfl, rfl⟩) ?_
        refine DGo.gt' (guard_true' rfl rfl (by exact rfl) (by exact rfl)) rfl (by simp only [go_sem, seval, hb_1804T, hb_1809]; exact ⟨rfl, rfl⟩) ?_
        obtain ⟨hc_1812, h⟩ := ite_some h
        have hc_1812T := eq_true hc_1812
        obtain ⟨hc_1813, h⟩ := ite_some h
        have hc_1813T := eq_true hc_1813
        refine DGo.gt' (guard_true' rfl rfl (by exact rfl) (by exact rfl)) rfl (by simp only [go_sem, seval, hb_1804T, hb_1809, hc_1812T, hc_1813T]; exact ⟨rfl, rfl⟩) ?_
        refine DGo.gt' (guard_true' rfl rfl (by exact rfl) (by exact rfl)) rfl (by simp only [go_sem, seval, hb_1804T, hb_1809]; exact ⟨rfl, rfl⟩) ?_
        refine DGo.gt' (guard_true' rfl rfl (by exact rfl) (by exact rfl)) rfl (by simp only [go_sem, seval, hb_1804T, hb_1809]; exact ⟨rfl, rfl⟩) ?_
        refine DGo.gt' (guard_true' rfl rfl (by exact rfl) (by exact rfl)) rfl (by simp only [go_sem, seval, hb_1804T, hb_1809, hx_1806, hx_1806A, hx_1806B]; exact ⟨rfl, rfl⟩) ?_
        refine DGo.gt' (guard_true' rfl rfl (by exact rfl) (by exact rfl)) rfl (by simp only [go_sem, seval, hb_1804T, hb_1809]; exact ⟨rfl, rfl⟩) ?_
        obtain ⟨r_1814, hr_1815, h⟩ := Option.bind_eq_some_iff.1 h
        refine DGo.con' rfl (guard_true' rfl rfl (by exact rfl) (by exact rfl)) rfl (by simp only [go_sem, seval, hb_1804T, hb_1809]; exact rfl) (by simp only [go_sem, seval, hb_1804T, hb_1809]; all_goals ((repeat' refine And.intro ?_ ?_) <;> first | rfl | (simp; done) | (simp; rfl) | (simp [*]; done) | (simp [*]; rfl))) (by simp only [go_sem, seval, hb_1804T, hb_1809]; exact rfl) (drossref03_Attr_con (l_1778.take (i_1790.toNat)) x_1805 _ hr_1815) (.inr rfl) rfl ?_
        refine DGo.gt' (guard_true' rfl rfl (by exact rfl) (by exact rfl)) rfl (by simp only [go_sem, seval, hb_1804T, hb_1809]; exact ⟨rfl, rfl⟩) ?_
        refine DGo.upto (by exact rfl) (by simp only [go_sem, seval, hb_1804T, hb_1809]; exact ⟨rfl, rfl⟩) ?_
        refine DGo.fin rfl ?_
        refine thenA_n ?_
        by_cases hb_1816 : r_1814 ≥ 0
        · rw [if_pos hb_1816] at h
          have hb_1816T := eq_true hb_1816
          refine awp_ct (by simp only [go_sem, seval, hb_1804T, hb_1809, hb_1816T]) ?_
          refine awp_seq ?_
          refine awp_region ?_
          refine AL_upto (by exact rfl) (by simp only [go_sem, seval, hb_1804T, hb_1809, hb_1816T]; exact rfl) ?_
          refine AL_nil ?_
          refine thenA_n ?_
          refine awp_ret ?_
          refine blockA_ret ?_
          refine thenA_ret ?_
          cases h
          refine ⟨rfl, ?_⟩
          refine retQ_ret (by simp only [Try.results70]; simp only [go_sem, seval, hb_1804T, hb_1809, hb_1816T]; exact rfl) ?_
          simp only [go_sem, seval, hb_1804T, hb_1809, hb_1816T]
          all_goals ((repeat' refine And.intro ?_ ?_) <;> first | rfl | (simp; done) | (simp; rfl) | (simp [*]; done) | (simp [*]; rfl))
        · rw [if_neg hb_1816] at h
          have hb_1816T := eq_false hb_1816
          refine awp_cf (by simp only [go_sem, seval, hb_1804T, hb_1809, hb_1816T]) ?_
          refine awp_skip ?_
          refine blockA_n ?_
          refine thenA_n ?_
          refine awp_region ?_
          refine AL_upto (by exact rfl) (by simp only [go_sem, seval, hb_1804T, hb_1809, hb_1816T]; exact rfl) ?_
          refine AL_nil ?_
          cases h
          refine ⟨rfl, ?_⟩
          simp only [go_sem, seval, hb_1804T, hb_1809, hb_1816T]
          all_goals ((repeat' refine And.intro ?_ ?_) <;> first | rfl | (simp; done) | (simp; rfl) | (simp [*]; done) | (simp [*]; rfl))
      · rw [if_neg hb_1809] at h
        have hb_1809F := Bool.eq_false_iff.2 hb_1809
        refine DGo.known' (d := 16) (v := .p (.bool true)) (by simp only [go_sem, seval, hb_1804T, hb_1809F]) ?_
        refine DGo.skips (by exact rfl) ?_
        refine DGo.upto (by exact rfl) (by simp only [go_sem, seval, hb_1804T, hb_1809F]; exact ⟨rfl, rfl⟩) ?_
        refine DGo.fin rfl ?_
        refine thenA_n ?_
        refine awp_ct (by simp only [go_sem, seval, hb_1804T, hb_1809F]) ?_
        refine awp_seq ?_
        refine awp_region ?_
        refine AL_upto (by exact rfl) (by simp only [go_sem, seval, hb_1804T, hb_1809F]; exact rfl) ?_
        refine AL_nil ?_
        refine thenA_n ?_
        refine awp_ret ?_
        refine blockA_ret ?_
        refine thenA_ret ?_
        cases h
        refine ⟨rfl, ?_⟩
        refine retQ_ret (by simp only [Try.results70]; simp only [go_sem, seval, hb_1804T, hb_1809F]; exact rfl) ?_
        simp only [go_sem, seval, hb_1804T, hb_1809F]
        all_goals ((repeat' refine And.intro ?_ ?_) <;> first | rfl | (simp; done) | (simp; rfl) | (simp [*]; done) | (simp [*]; rfl))
    · rw [if_neg hb_1804] at h
      have hb_1804T := eq_false hb_1804
      refine awp_cf (by simp only [go_sem, seval, hb_1804T]) ?_
      refine awp_exit ?_
      refine thenA_exit ?_
      cases h
      refine ⟨rfl, ?_⟩
      simp only [go_sem, seval, hb_1804T]
      all_goals ((repeat' refine And.intro ?_ ?_) <;> first | rfl | (simp; done) | (simp; rfl) | (simp [*]; done) | (simp [*]; rfl))
  · intro e s' hT
    rcases o_1817 with ⟨⟩ | r_1819
    · try simp only at h
      try simp only at hT
      obtain ⟨rfl, hle⟩ := hT
      refine Wk.to hle ?_
      clear hle
      refine blockA_here ?_
      refine thenA_n ?_
      refine awp_seq ?_
      refine awp_region ?_
      refine AL_upto (by exact rfl) (by simp only [go_sem, seval]; exact rfl) ?_
      refine AL_nil ?_
      refine thenA_n ?_
      refine awp_ret ?_
      cases h
      refine retQ_ret (by simp only [Try.results70]; simp only [go_sem, seval]; exact rfl) ?_
      simp only [go_sem, seval]
      all_goals ((repeat' refine And.intro ?_ ?_) <;> first | rfl | (simp; done) | (simp; rfl) | (simp [*]; done) | (simp [*]; rfl))
    · try simp only at h
      try simp only at hT
      obtain ⟨rfl, hq⟩ := hT
      refine Wk.now ?_
      refine blockA_ret ?_
      refine thenA_ret ?_
      cases h
      exact hq
end Go.Proofs.Ytdmddoljldjjeaa
set_option linter.unusedVariables false
set_option linter.unusedSimpArgs false
namespace Go.Proofs.Ytdmddoljldjjeaa
open Go Go.Ab
set_option maxHeartbeats 4000000 in
theorem drossref03_Valid_con (t_1823 : Table) (r_1869 : Int) (h : drossref03_Valid t_1823 = some r_1869) : Con Try.prog 42 [(encTable t_1823)] (.int .i64 r_1869) := by
  refine ⟨Try.call42, ?_⟩
  refine pure_of_awp Try.func42 rfl Try.ntmps42 (by simp) fun X w => ?_
  show AWp _ _ _ ⟨[(0, .p (encTable t_1823))], []⟩
  simp only [drossref03_Valid] at h
  refine awp_seq ?_
  refine awp_region ?_
  refine AL_upto (by exact rfl) (by simp only [go_sem, seval]; exact rfl) ?_
  refine AL_nil ?_
  refine thenA_n ?_
  refine awp_seq ?_
  refine awp_seq ?_
  refine awp_region ?_
  refine AL_upto (by exact rfl) (by simp only [go_sem, seval]; exact rfl) ?_
  obtain ⟨r_1824, hr_1825, h⟩ := Option.bind_eq_some_iff.1 h
  refine AL_con' rfl (guard_none rfl) rfl (by simp only [go_sem, seval]; exact rfl) (by simp only [go_sem, seval]; all_goals ((repeat' refine And.intro ?_ ?_) <;> first | rfl | (simp; done) | (simp; rfl) | (simp [*]; done) | (simp [*]; rfl))) (drossref03_Name_con t_1823.Name _ hr_1825) (.inr rfl) rfl ?_
  refine AL_upto (by exact rfl) (by simp only [go_sem, seval]; exact rfl) ?_
  refine AL_nil ?_
  refine thenA_n ?_
  by_cases hb_1826 : r_1824 = true
  · rw [if_pos hb_1826] at h
    refine awp_cf (by simp only [go_sem, seval, hb_1826]) ?_
    refine awp_skip ?_
    refine thenA_n ?_
    refine awp_seq ?_
    refine awp_seq ?_
    refine awp_region ?_
    refine AL_upto (by exact rfl) (by simp only [go_sem, seval, hb_1826]; exact rfl) ?_
    by_cases hb_1827 : (t_1823.Attrs.length : Int) > 16
    · rw [if_pos hb_1827] at h
      have hb_1827T := eq_true hb_1827
      refine AL_known (d := 14) (v := .p (.bool true)) (by simp only [go_sem, seval, hb_1826, hb_1827T]) ?_
      refine AL_skips (by exact rfl) ?_
      refine AL_upto (by exact rfl) (by simp only [go_sem, seval, hb_1826, hb_1827T]; exact rfl) ?_
      refine AL_nil ?_
      refine thenA_n ?_
      refine awp_ct (by simp only [go_sem, seval, hb_1826, hb_1827T]) ?_
      refine awp_seq ?_
      refine awp_region ?_
      refine AL_upto (by exact rfl) (by simp only [go_sem, seval, hb_1826, hb_1827T]; exact rfl) ?_
      refine AL_nil ?_
      refine thenA_n ?_
      refine awp_ret ?_
      refine thenA_ret ?_
      cases h
      refine retQ_ret (by simp only [Try.results42]; simp only [go_sem, seval, hb_1826, hb_1827T]; exact rfl) ?_
      simp only [go_sem, seval, hb_1826, hb_1827T]
      all_goals ((repeat' refine And.intro ?_ ?_) <;> first | rfl | (simp; done) | (simp; rfl) | (simp [*]; done) | (simp [*]; rfl))
    · rw [if_neg hb_1827] at h
      have hb_1827T := eq_false hb_1827
      refine AL_known (d := 14) (v := .p (.bool false)) (by simp only [go_sem, seval, hb_1826, hb_1827T]) ?_
      refine AL_gt' (guard_true' rfl rfl (by exact rfl) (by exact rfl)) rfl (by simp only [go_sem, seval, hb_1826, hb_1827T]; exact rfl) ?_
      refine AL_gt' (guard_true' rfl rfl (by exact rfl) (by exact rfl)) rfl (by simp only [go_sem, seval, hb_1826, hb_1827T]; exact rfl) ?_
      refine AL_gt' (guard_true' rfl rfl (by exact rfl) (by exact rfl)) rfl (by simp only [go_sem, seval, hb_1826, hb_1827T]; exact rfl) ?_
      refine AL_gt' (guard_true' rfl rfl (by exact rfl) (by exact rfl)) rfl (by simp only [go_sem, seval, hb_1826, hb_1827T]; exact rfl) ?_
      refine AL_upto (by exact rfl) (by simp only [go_sem, seval, hb_1826, hb_1827T]; exact rfl) ?_
      refine AL_nil ?_
      refine thenA_n ?_
      by_cases hb_1828 : (t_1823.Rows.length : Int) > 1000
      · rw [if_pos hb_1828] at h
        have hb_1828T := eq_true hb_1828
        refine awp_ct (by simp only [go_sem, seval, hb_1826, hb_1827T, hb_1828T]) ?_
        refine awp_seq ?_
        refine awp_region ?_
        refine AL_upto (by exact rfl) (by simp only [go_sem, seval, hb_1826, hb_1827T, hb_1828T]; exact rfl) ?_
        refine AL_nil ?_
        refine thenA_n ?_
        refine awp_ret ?_
        refine thenA_ret ?_
        cases h
        refine retQ_ret (by simp only [Try.results42]; simp only [go_sem, seval, hb_1826, hb_1827T, hb_1828T]; exact rfl) ?_
        simp only [go_sem, seval, hb_1826, hb_1827T, hb_1828T]
        all_goals ((repeat' refine And.intro ?_ ?_) <;> first | rfl | (simp; done) | (simp; rfl) | (simp [*]; done) | (simp [*]; rfl))
      · rw [if_neg hb_1828] at h
        have hb_1828T := eq_false hb_1828
        refine awp_cf (by simp only [go_sem, seval, hb_1826, hb_1827T, hb_1828T]) ?_
        refine awp_skip ?_
        refine thenA_n ?_
        refine awp_seq ?_
        refine awp_seq ?_
        refine awp_region ?_
        refine AL_upto (by exact rfl) (by simp only [go_sem, seval, hb_1826, hb_1827T, hb_1828T]; exact rfl) ?_
        obtain ⟨r_1829, hr_1830, h⟩ := Option.bind_eq_some_iff.1 h
        refine AL_con' rfl (guard_none rfl) rfl (by simp only [go_sem, seval, hb_1826, hb_1827T, hb_1828T]; exact rfl) (by simp only [go_sem, seval, hb_1826, hb_1827T, hb_1828T]; all_goals ((repeat' refine And.intro ?_ ?_) <;> first | rfl | (simp; done) | (simp; rfl) | (simp [*]; done) | (simp [*]; rfl))) (drossref03_Names_con t_1823.Attrs _ hr_1830) (.inr rfl) rfl ?_
        refine AL_upto (by exact rfl) (by simp only [go_sem, seval, hb_1826, hb_1827T, hb_1828T]; exact rfl) ?_
        refine AL_nil ?_
        refine thenA_n ?_
        by_cases hb_1831 : r_1829 = true
        · rw [if_pos hb_1831] at h
          refine awp_cf (by simp only [go_sem, seval, hb_1826, hb_1827T, hb_1828T, hb_1831]) ?_
          refine awp_skip ?_
          refine thenA_n ?_
          refine awp_seq ?_
          refine awp_region ?_
          refine AL_upto (by exact rfl) (by simp only [go_sem, seval, hb_1826, hb_1827T, hb_1828T, hb_1831]; exact rfl) ?_
          refine AL_nil ?_
          refine thenA_n ?_
          refine awp_seq ?_
          refine awp_seq ?_
          refine awp_region ?_
          refine AL_upto (by exact rfl) (by simp only [go_sem, seval, hb_1826, hb_1827T, hb_1828T, hb_1831]; exact rfl) ?_
          refine AL_nil ?_
          refine thenA_n ?_
          refine awp_block ?_
          obtain ⟨o_1864, hL_1865, h⟩ := Option.bind_eq_some_iff.1 h
          refine awp_loop_L (fun (s : Int × Int) => ⟨[(1, .loc 1 1 0 0), (3, .p (.int .i64 s.1)), (4, .p (.int .i64 s.2))], [(1, .arr 52 3 1 [.p (encTable t_1823)])]⟩) (fun (o : (Unit) ⊕ (Int)) (e : Exit) (s' : St) => match o with | .inl o_1867 => e = (.exit 0) ∧ Le ⟨Try.prog, Try.f42.ntmps, 0, X, [], fun _ => none, w⟩ s' ⟨[], []⟩ | .inr o_1868 => e = .ret ∧ retQ Try.prog Try.f42 (.int .i64 o_1868) .ret s') (by intro o s hT; rcases o with _ | _ <;> (have hh := hT.1; cases hh)) hL_1865 (by simp only [go_sem, seval, hb_1826, hb_1827T, hb_1828T, hb_1831]; all_goals ((repeat' refine And.intro ?_ ?_) <;> first | rfl | (simp; done) | (simp; rfl) | (simp [*]; done) | (simp [*]; rfl))) ?_ ?_
          · clear h
            intro s x h
            obtain ⟨before_1842, i_1843⟩ := s
            simp only [drossref03_Valid_l1] at h
            show AWp _ _ _ ⟨[(1, .loc 1 1 0 0), (3, .p (.int .i64 before_1842)), (4, .p (.int .i64 i_1843))], [(1, .arr 52 3 1 [.p (encTable t_1823)])]⟩
            refine awp_seq ?_
            refine awp_seq ?_
            refine awp_region ?_
            refine AL_upto (by exact rfl) (by simp only [go_sem, seval]; exact rfl) ?_
            refine AL_nil ?_
            refine thenA_n ?_
            by_cases hb_1854 : i_1843 < (t_1823.Rows.length : Int)
            · rw [if_pos hb_1854] at h
              have hb_1854T := eq_true hb_1854
              refine awp_ct (by simp only [go_sem, seval, hb_1854T]) ?_
              refine awp_skip ?_
              refine thenA_n ?_
              refine awp_seq ?_
              refine awp_block ?_
              refine awp_seq ?_
              refine awp_region ?_
              obtain ⟨x_1857, hx_1858, h⟩ := Option.bind_eq_some_iff.1 h
              obtain ⟨hx_1858a, hx_1858, hx_1858b⟩ := idx_some hx_1858
              have hx_1858A := eq_true hx_1858a
              have hx_1858B := eq_true hx_1858b
              refine AL_upto (by exact rfl) (by simp only [go_sem, seval, hb_1854T, hx_1858, hx_1858A, hx_1858B]; exact rfl) ?_
              refine AL_nil ?_
              refine thenA_n ?_
              refine awp_seq ?_
              refine awp_seq ?_
              refine awp_region ?_
              refine AL_upto (by exact rfl) (by simp only [go_sem, seval, hb_1854T]; exact rfl) ?_
              refine AL_nil ?_
              refine thenA_n ?_
              by_cases hb_1859 : x_1857.ID ≤ before_1842
              · rw [if_pos hb_1859] at h
                have hb_1859T := eq_true hb_1859
                refine awp_ct (by simp only [go_sem, seval, hb_1854T, hb_1859T]) ?_
                refine awp_seq ?_
                refine awp_region ?_
                refine AL_upto (by exact rfl) (by simp only [go_sem, seval, hb_1854T, hb_1859T]; exact rfl) ?_
                refine AL_nil ?_
                refine thenA_n ?_
                refine awp_ret ?_
                refine thenA_ret ?_
                refine blockA_ret ?_
                refine thenA_ret ?_
                cases h
                refine ⟨rfl, ?_⟩
                refine retQ_ret (by simp only [Try.results42]; simp only [go_sem, seval, hb_1854T, hb_1859T]; exact rfl) ?_
                simp only [go_sem, seval, hb_1854T, hb_1859T]
                all_goals ((repeat' refine And.intro ?_ ?_) <;> first | rfl | (simp; done) | (simp; rfl) | (simp [*]; done) | (simp [*]; rfl))
              · rw [if_neg hb_1859] at h
                have hb_1859T := eq_false hb_1859
                refine awp_cf (by simp only [go_sem, seval, hb_1854T, hb_1859T]) ?_
                refine awp_skip ?_
                refine thenA_n ?_
                refine awp_seq ?_
                refine awp_region ?_
                refine AL_upto (by exact rfl) (by simp only [go_sem, seval, hb_1854T, hb_1859T]; exact rfl) ?_
                refine AL_nil ?_
                refine thenA_n ?_
                refine awp_seq ?_
                refine awp_seq ?_
                refine awp_region ?_
                refine AL_upto (by exact rfl) (by simp only [go_sem, seval, hb_1854T, hb_1859T]; exact rfl) ?_
                refine AL_nil ?_
                refine thenA_n ?_
                by_cases hb_1860 : ((x_1857.Values.length : Int) != (t_1823.Attrs.length : Int)) = true
                · rw [if_pos hb_1860] at h
                  refine awp_ct (by simp only [go_sem, seval, hb_1854T, hb_1859T, hb_1860]) ?_
                  refine awp_seq ?_
                  refine awp_region ?_
                  refine AL_upto (by exact rfl) (by simp only [go_sem, seval, hb_1854T, hb_1859T, hb_1860]; exact rfl) ?_
                  refine AL_nil ?_
                  refine thenA_n ?_
                  refine awp_ret ?_
                  refine thenA_ret ?_
                  refine blockA_ret ?_
                  refine thenA_ret ?_
                  cases h
                  refine ⟨rfl, ?_⟩
                  refine retQ_ret (by simp only [Try.results42]; simp only [go_sem, seval, hb_1854T, hb_1859T, hb_1860]; exact rfl) ?_
                  simp only [go_sem, seval, hb_1854T, hb_1859T, hb_1860]
                  all_goals ((repeat' refine And.intro ?_ ?_) <;> first | rfl | (simp; done) | (simp; rfl) | (simp [*]; done) | (simp [*]; rfl))
                · rw [if_neg hb_1860] at h
                  have hb_1860F := Bool.eq_false_iff.2 hb_1860
                  refine awp_cf (by simp only [go_sem, seval, hb_1854T, hb_1859T, hb_1860F]) ?_
                  refine awp_skip ?_
                  refine thenA_n ?_
                  refine awp_seq ?_
                  refine awp_region ?_
                  refine AL_upto (by exact rfl) (by simp only [go_sem, seval, hb_1854T, hb_1859T, hb_1860F]; exact rfl) ?_
                  obtain ⟨r_1861, hr_1862, h⟩ := Option.bind_eq_some_iff.1 h
                  refine AL_con' rfl (guard_none rfl) rfl (by simp only [go_sem, seval, hb_1854T, hb_1859T, hb_1860F]; exact rfl) (by simp only [go_sem, seval, hb_1854T, hb_1859T, hb_1860F]; all_goals ((repeat' refine And.intro ?_ ?_) <;> first | rfl | (simp; done) | (simp; rfl) | (simp [*]; done) | (simp [*]; rfl))) (drossref01_Valids_con x_1857.Values _ hr_1862) (.inr rfl) rfl ?_
                  refine AL_upto (by exact rfl) (by simp only [go_sem, seval, hb_1854T, hb_1859T, hb_1860F]; exact rfl) ?_
                  refine AL_nil ?_
                  refine thenA_n ?_
                  by_cases hb_1863 : r_1861 = true
                  · rw [if_pos hb_1863] at h
                    refine awp_cf (by simp only [go_sem, seval, hb_1854T, hb_1859T, hb_1860F, hb_1863]) ?_
                    refine awp_skip ?_
                    refine blockA_n ?_
                    refine thenA_n ?_
                    refine awp_region ?_
                    refine AL_upto (by exact rfl) (by simp only [go_sem, seval, hb_1854T, hb_1859T, hb_1860F, hb_1863]; exact rfl) ?_
                    refine AL_nil ?_
                    cases h
                    refine ⟨rfl, ?_⟩
                    simp only [go_sem, seval, hb_1854T, hb_1859T, hb_1860F, hb_1863]
                    all_goals ((repeat' refine And.intro ?_ ?_) <;> first | rfl | (simp; done) | (simp; rfl) | (simp [*]; done) | (simp [*]; rfl))
                  · rw [if_neg hb_1863] at h
                    have hb_1863F := Bool.eq_false_iff.2 hb_1863
                    refine awp_ct (by simp only [go_sem, seval, hb_1854T, hb_1859T, hb_1860F, hb_1863F]) ?_
                    refine awp_seq ?_
                    refine awp_region ?_
                    refine AL_upto (by exact rfl) (by simp only [go_sem, seval, hb_1854T, hb_1859T, hb_1860F, hb_1863F]; exact rfl) ?_
                    refine AL_nil ?_
                    refine thenA_n ?_
                    refine awp_ret ?_
                    refine blockA_ret ?_
                    refine thenA_ret ?_
                    cases h
                    refine ⟨rfl, ?_⟩
                    refine retQ_ret (by simp only [Try.results42]; simp only [go_sem, seval, hb_1854T, hb_1859T, hb_1860F, hb_1863F]; exact rfl) ?_
                    simp only [go_sem, seval, hb_1854T, hb_1859T, hb_1860F, hb_1863F]
                    all_goals ((repeat' refine And.intro ?_ ?_) <;> first | rfl | (simp; done) | (simp; rfl) | (simp [*]; done) | (simp [*]; rfl))
            · rw [if_neg hb_1854] at h
              have hb_1854T := eq_false hb_1854
              refine awp_cf (by simp only [go_sem, seval, hb_1854T]) ?_
              refine awp_exit ?_
              refine thenA_exit ?_
              cases h
              refine ⟨rfl, ?_⟩
              simp only [go_sem, seval, hb_1854T]
              all_goals ((repeat' refine And.intro ?_ ?_) <;> first | rfl | (simp; done) | (simp; rfl) | (simp [*]; done) | (simp [*]; rfl))
          · intro e s' hT
            rcases o_1864 with ⟨⟩ | r_1866
            · try simp only at h
              try simp only at hT
              obtain ⟨rfl, hle⟩ := hT
              refine Wk.to hle ?_
              clear hle
              refine blockA_here ?_
              refine thenA_n ?_
              refine awp_seq ?_
              refine awp_region ?_
              refine AL_upto (by exact rfl) (by simp only [go_sem, seval, hb_1826, hb_1827T, hb_1828T, hb_1831]; exact rfl) ?_
              refine AL_nil ?_
              refine thenA_n ?_
              refine awp_ret ?_
              cases h
              refine retQ_ret (by simp only [Try.results42]; simp only [go_sem, seval, hb_1826, hb_1827T, hb_1828T, hb_1831]; exact rfl) ?_
              simp only [go_sem, seval, hb_1826, hb_1827T, hb_1828T, hb_1831]
              all_goals ((repeat' refine And.intro ?_ ?_) <;> first | rfl | (simp; done) | (simp; rfl) | (simp [*]; done) | (simp [*]; rfl))
            · try simp only at h
              try simp only at hT
              obtain ⟨rfl, hq⟩ := hT
              refine Wk.now ?_
              refine blockA_ret ?_
              refine thenA_ret ?_
              cases h
              exact hq
        · rw [if_neg hb_1831] at h
          have hb_1831F := Bool.eq_false_iff.2 hb_1831
          refine awp_ct (by simp only [go_sem, seval, hb_1826, hb_1827T, hb_1828T, hb_1831F]) ?_
          refine awp_seq ?_
          refine awp_region ?_
          refine AL_upto (by exact rfl) (by simp only [go_sem, seval, hb_1826, hb_1827T, hb_1828T, hb_1831F]; exact rfl) ?_
          refine AL_nil ?_
          refine thenA_n ?_
          refine awp_ret ?_
          refine thenA_ret ?_
          cases h
          refine retQ_ret (by simp only [Try.results42]; simp only [go_sem, seval, hb_1826, hb_1827T, hb_1828T, hb_1831F]; exact rfl) ?_
          simp only [go_sem, seval, hb_1826, hb_1827T, hb_1828T, hb_1831F]
          all_goals ((repeat' refine And.intro ?_ ?_) <;> first | rfl | (simp; done) | (simp; rfl) | (simp [*]; done) | (simp [*]; rfl))
  · rw [if_neg hb_1826] at h
    have hb_1826F := Bool.eq_false_iff.2 hb_1826
    refine awp_ct (by simp only [go_sem, seval, hb_1826F]) ?_
    refine awp_seq ?_
    refine awp_region ?_
    refine AL_upto (by exact rfl) (by simp only [go_sem, seval, hb_1826F]; exact rfl) ?_
    refine AL_nil ?_
    refine thenA_n ?_
    refine awp_ret ?_
    refine thenA_ret ?_
    cases h
    refine retQ_ret (by simp only [Try.results42]; simp only [go_sem, seval, hb_1826F]; exact rfl) ?_
    simp only [go_sem, seval, hb_1826F]
    all_goals ((repeat' refine And.intro ?_ ?_) <;> first | rfl | (simp; done) | (simp; rfl) | (simp [*]; done) | (simp [*]; rfl))
end Go.Proofs.Ytdmddoljldjjeaa
set_option linter.unusedVariables false
set_option linter.unusedSimpArgs false
namespace Go.Proofs.Ytdmddoljldjjeaa
open Go Go.Ab
set_option maxHeartbeats 4000000 in
theorem drossref03_Has_con (l_1870 : List Int) (id_1871 : Int) (r_1890 : Bool) (h : drossref03_Has l_1870 id_1871 = some r_1890) : Con Try.prog 44 [(.slc (List.map (PV.int .i64) l_1870)), (.int .i64 id_1871)] (.bool r_1890) := by
  refine ⟨Try.call44, ?_⟩
  refine pure_of_awp Try.func44 rfl Try.ntmps44 (by simp) fun X w => ?_
  show AWp _ _ _ ⟨[(0, .p (.slc (List.map (PV.int .i64) l_1870))), (1, .p (.int .i64 id_1871))], []⟩
  simp only [drossref03_Has] at h
  refine awp_seq ?_
  refine awp_region ?_
  refine AL_upto (by exact rfl) (by simp only [go_sem, seval]; exact rfl) ?_
  refine AL_nil ?_
  refine thenA_n ?_
  refine awp_seq ?_
  refine awp_seq ?_
  refine awp_region ?_
  refine AL_upto (by exact rfl) (by simp only [go_sem, seval]; exact rfl) ?_
  refine AL_nil ?_
  refine thenA_n ?_
  refine awp_block ?_
  obtain ⟨o_1885, hL_1886, h⟩ := Option.bind_eq_some_iff.1 h
  refine awp_loop_L (fun (s : Int) => ⟨[(0, .p (.slc (List.map (PV.int .i64) l_1870))), (1, .p (.int .i64 id_1871)), (5, .p (.int .i64 s))], []⟩) (fun (o : (Unit) ⊕ (Bool)) (e : Exit) (s' : St) => match o with | .inl o_1888 => e = (.exit 0) ∧ Le ⟨Try.prog, Try.f44.ntmps, 0, X, [], fun _ => none, w⟩ s' ⟨[], []⟩ | .inr o_1889 => e = .ret ∧ retQ Try.prog Try.f44 (.bool o_1889) .ret s') (by intro o s hT; rcases o with _ | _ <;> (have hh := hT.1; cases hh)) hL_1886 (by simp only [go_sem, seval]; all_goals ((repeat' refine And.intro ?_ ?_) <;> first | rfl | (simp; done) | (simp; rfl) | (simp [*]; done) | (simp [*]; rfl))) ?_ ?_
  · clear h
    intro i_1876 x h
    simp only [drossref03_Has_l1] at h
    show AWp _ _ _ ⟨[(0, .p (.slc (List.map (PV.int .i64) l_1870))), (1, .p (.int .i64 id_1871)), (5, .p (.int .i64 i_1876))], []⟩
    refine awp_seq ?_
    refine awp_seq ?_
    refine awp_region ?_
    refine AL_upto (by exact rfl) (by simp only [go_sem, seval]; exact rfl) ?_
    refine AL_nil ?_
    refine thenA_n ?_
    by_cases hb_1881 : i_1876 < (l_1870.length : Int)
    · rw [if_pos hb_1881] at h
      have hb_1881T := eq_true hb_1881
      refine awp_ct (by simp only [go_sem, seval, hb_1881T]) ?_
      refine awp_skip ?_
      refine thenA_n ?_
      refine awp_seq ?_
      refine awp_block ?_
      refine awp_seq ?_
      refine awp_region ?_
      obtain ⟨x_1882, hx_1883, h⟩ := Option.bind_eq_some_iff.1 h
      obtain ⟨hx_1883a, hx_1883, hx_1883b⟩ := idx_some hx_1883
      have hx_1883A := eq_true hx_1883a
      have hx_1883B := eq_true hx_1883b
      refine AL_upto (by exact rfl) (by simp only [go_sem, seval, hb_1881T, hx_1883, hx_1883A, hx_1883B]; exact rfl) ?_
      refine AL_nil ?_
      refine thenA_n ?_
      by_cases hb_1884 : (x_1882 == id_1871) = true
      · rw [if_pos hb_1884] at h
        refine awp_ct (by simp only [go_sem, seval, hb_1881T, hb_1884]) ?_
        refine awp_seq ?_
        refine awp_region ?_
        refine AL_upto (by exact rfl) (by simp only [go_sem, seval, hb_1881T, hb_1884]; exact rfl) ?_
        refine AL_nil ?_
        refine thenA_n ?_
        refine awp_ret ?_
        refine blockA_ret ?_
        refine thenA_ret ?_
        cases h
        refine ⟨rfl, ?_⟩
        refine retQ_ret (by simp only [Try.results44]; simp only [go_sem, seval, hb_1881T, hb_1884]; exact rfl) ?_
        simp only [go_sem, seval, hb_1881T, hb_1884]
        all_goals ((repeat' refine And.intro ?_ ?_) <;> first | rfl | (simp; done) | (simp; rfl) | (simp [*]; done) | (simp [*]; rfl))
      · rw [if_neg hb_1884] at h
        have hb_1884F := Bool.eq_false_iff.2 hb_1884
        refine awp_cf (by simp only [go_sem, seval, hb_1881T, hb_1884F]) ?_
        refine awp_skip ?_
        refine blockA_n ?_
        refine thenA_n ?_
        refine awp_region ?_
        refine AL_upto (by exact rfl) (by simp only [go_sem, seval, hb_1881T, hb_1884F]; exact rfl) ?_
        refine AL_nil ?_
        cases h
        refine ⟨rfl, ?_⟩
        simp only [go_sem, seval, hb_1881T, hb_1884F]
        all_goals ((repeat' refine And.intro ?_ ?_) <;> first | rfl | (simp; done) | (simp; rfl) | (simp [*]; done) | (simp [*]; rfl))
    · rw [if_neg hb_1881] at h
      have hb_1881T := eq_false hb_1881
      refine awp_cf (by simp only [go_sem, seval, hb_1881T]) ?_
      refine awp_exit ?_
      refine thenA_exit ?_
      cases h
      refine ⟨rfl, ?_⟩
      simp only [go_sem, seval, hb_1881T]
      all_goals ((repeat' refine And.intro ?_ ?_) <;> first | rfl | (simp; done) | (simp; rfl) | (simp [*]; done) | (simp [*]; rfl))
  · intro e s' hT
    rcases o_1885 with ⟨⟩ | r_1887
    · try simp only at h
      try simp only at hT
      obtain ⟨rfl, hle⟩ := hT
      refine Wk.to hle ?_
      clear hle
      refine blockA_here ?_
      refine thenA_n ?_
      refine awp_seq ?_
      refine awp_region ?_
      refine AL_upto (by exact rfl) (by simp only [go_sem, seval]; exact rfl) ?_
      refine AL_nil ?_
      refine thenA_n ?_
      refine awp_ret ?_
      cases h
      refine retQ_ret (by simp only [Try.results44]; simp only [go_sem, seval]; exact rfl) ?_
      simp only [go_sem, seval]
      all_goals ((repeat' refine And.intro ?_ ?_) <;> first | rfl | (simp; done) | (simp; rfl) | (simp [*]; done) | (simp [*]; rfl))
    · try simp only at h
      try simp only at hT
      obtain ⟨rfl, hq⟩ := hT
      refine Wk.now ?_
      refine blockA_ret ?_
      refine thenA_ret ?_
      cases h
      exact hq
end Go.Proofs.Ytdmddoljldjjeaa
set_option linter.unusedVariables false
set_option linter.unusedSimpArgs false
namespace Go.Proofs.Ytdmddoljldjjeaa
open Go Go.Ab
set_option maxHeartbeats 4000000 in
theorem drossref55_Cluster_con (l_1891 : List Int) (r_1916 : Bool) (h : drossref55_Cluster l_1891 = some r_1916) : Con Try.prog 83 [(.slc (List.map (PV.int .i64) l_1891))] (.bool r_1916) := by
  refine ⟨Try.call83, ?_⟩
  refine pure_of_awp Try.func83 rfl Try.ntmps83 (by simp) fun X w => ?_
  show AWp _ _ _ ⟨[(0, .p (.slc (List.map (PV.int .i64) l_1891)))], []⟩
  simp only [drossref55_Cluster] at h
  refine awp_seq ?_
  refine awp_region ?_
  refine AL_upto (by exact rfl) (by simp only [go_sem, seval]; exact rfl) ?_
  refine AL_nil ?_
  refine thenA_n ?_
  refine awp_seq ?_
  refine awp_seq ?_
  refine awp_region ?_
  refine AL_upto (by exact rfl) (by simp only [go_sem, seval]; exact rfl) ?_
  refine AL_nil ?_
  refine thenA_n ?_
  refine awp_block ?_
  obtain ⟨o_1911, hL_1912, h⟩ := Option.bind_eq_some_iff.1 h
  refine awp_loop_L (fun (s : Int) => ⟨[(0, .p (.slc (List.map (PV.int .i64) l_1891))), (3, .p (.int .i64 s))], []⟩) (fun (o : (Unit) ⊕ (Bool)) (e : Exit) (s' : St) => match o with | .inl o_1914 => e = (.exit 0) ∧ Le ⟨Try.prog, Try.f83.ntmps, 0, X, [], fun _ => none, w⟩ s' ⟨[(0, .p (.slc (List.map (PV.int .i64) l_1891)))], []⟩ | .inr o_1915 => e = .ret ∧ retQ Try.prog Try.f83 (.bool o_1915) .ret s') (by intro o s hT; rcases o with _ | _ <;> (have hh := hT.1; cases hh)) hL_1912 (by simp only [go_sem, seval]; all_goals ((repeat' refine And.intro ?_ ?_) <;> first | rfl | (simp; done) | (simp; rfl) | (simp [*]; done) | (simp [*]; rfl))) ?_ ?_
  · clear h
    intro i_1898 x h
    simp only [drossref55_Cluster_l1] at h
    show AWp _ _ _ ⟨[(0, .p (.slc (List.map (PV.int .i64) l_1891))), (3, .p (.int .i64 i_1898))], []⟩
    refine awp_seq ?_
    refine awp_seq ?_
    refine awp_region ?_
    refine AL_upto (by exact rfl) (by simp only [go_sem, seval]; exact rfl) ?_
    refine AL_nil ?_
    refine thenA_n ?_
    by_cases hb_1905 : i_1898 < (l_1891.length : Int)
    · rw [if_pos hb_1905] at h
      have hb_1905T := eq_true hb_1905
      refine awp_ct (by simp only [go_sem, seval, hb_1905T]) ?_
      refine awp_skip ?_
      refine thenA_n ?_
      refine awp_seq ?_
      refine awp_block ?_
      refine awp_seq ?_
      refine awp_drawn_walk mixed (by decide) ?_
      obtain ⟨x_1906, hx_1907, h⟩ := Option.bind_eq_some_iff.1 h
      obtain ⟨hx_1907a, hx_1907, hx_1907b⟩ := idx_some hx_1907
      have hx_1907A := eq_true hx_1907a
      have hx_1907B := eq_true hx_1907b
      obtain ⟨x_1908, hx_1909, h⟩ := Option.bind_eq_some_iff.1 h
      obtain ⟨hx_1909a, hx_1909, hx_1909b⟩ := idx_some hx_1909
      have hx_1909A := eq_true hx_1909a
      have hx_1909B := eq_true hx_1909b
      refine DGo.upto (by exact rfl) (by simp only [go_sem, seval, hb_1905T, hx_1907, hx_1907A, hx_1907B, hx_1909, hx_1909A, hx_1909B]; exact ⟨rfl, rfl⟩) ?_
      refine DGo.fin rfl ?_
      refine thenA_n ?_
      by_cases hb_1910 : x_1906 ≤ x_1908
      · rw [if_pos hb_1910] at h
        have hb_1910T := eq_true hb_1910
        refine awp_ct (by simp only [go_sem, seval, hb_1905T, hb_1910T]) ?_
        refine awp_seq ?_
        refine awp_region ?_
        refine AL_upto (by exact rfl) (by simp only [go_sem, seval, hb_1905T, hb_1910T]; exact rfl) ?_
        refine AL_nil ?_
        refine thenA_n ?_
        refine awp_ret ?_
        refine blockA_ret ?_
        refine thenA_ret ?_
        cases h
        refine ⟨rfl, ?_⟩
        refine retQ_ret (by simp only [Try.results83]; simp only [go_sem, seval, hb_1905T, hb_1910T]; exact rfl) ?_
        simp only [go_sem, seval, hb_1905T, hb_1910T]
        all_goals ((repeat' refine And.intro ?_ ?_) <;> first | rfl | (simp; done) | (simp; rfl) | (simp [*]; done) | (simp [*]; rfl))
      · rw [if_neg hb_1910] at h
        have hb_1910T := eq_false hb_1910
        refine awp_cf (by simp only [go_sem, seval, hb_1905T, hb_1910T]) ?_
        refine awp_skip ?_
        refine blockA_n ?_
        refine thenA_n ?_
        refine awp_region ?_
        refine AL_upto (by exact rfl) (by simp only [go_sem, seval, hb_1905T, hb_1910T]; exact rfl) ?_
        refine AL_nil ?_
        cases h
        refine ⟨rfl, ?_⟩
        simp only [go_sem, seval, hb_1905T, hb_1910T]
        all_goals ((repeat' refine And.intro ?_ ?_) <;> first | rfl | (simp; done) | (simp; rfl) | (simp [*]; done) | (simp [*]; rfl))
    · rw [if_neg hb_1905] at h
      have hb_1905T := eq_false hb_1905
      refine awp_cf (by simp only [go_sem, seval, hb_1905T]) ?_
      refine awp_exit ?_
      refine thenA_exit ?_
      cases h
      refine ⟨rfl, ?_⟩
      simp only [go_sem, seval, hb_1905T]
      all_goals ((repeat' refine And.intro ?_ ?_) <;> first | rfl | (simp; done) | (simp; rfl) | (simp [*]; done) | (simp [*]; rfl))
  · intro e s' hT
    rcases o_1911 with ⟨⟩ | r_1913
    · try simp only at h
      try simp only at hT
      obtain ⟨rfl, hle⟩ := hT
      refine Wk.to hle ?_
      clear hle
      refine blockA_here ?_
      refine thenA_n ?_
      refine awp_seq ?_
      refine awp_region ?_
      refine AL_upto (by exact rfl) (by simp only [go_sem, seval]; exact rfl) ?_
      refine AL_nil ?_
      refine thenA_n ?_
      refine awp_ret ?_
      cases h
      refine retQ_ret (by simp only [Try.results83]; simp only [go_sem, seval]; exact rfl) ?_
      simp only [go_sem, seval]
      all_goals ((repeat' refine And.intro ?_ ?_) <;> first | rfl | (simp; done) | (simp; rfl) | (simp [*]; done) | (simp [*]; rfl))
    · try simp only at h
      try simp only at hT
      obtain ⟨rfl, hq⟩ := hT
      refine Wk.now ?_
      refine blockA_ret ?_
      refine thenA_ret ?_
      cases h
      exact hq
end Go.Proofs.Ytdmddoljldjjeaa
set_option linter.unusedVariables false
set_option linter.unusedSimpArgs false
namespace Go.Proofs.Ytdmddoljldjjeaa
open Go Go.Ab
set_option maxHeartbeats 4000000 in
theorem drossref55_once_con (l_1917 : List (List Int)) (r_2036 : Bool) (h : drossref55_once l_1917 = some r_2036) : Con Try.prog 63 [(.slc (List.map (encL (PV.int .i64)) l_1917))] (.bool r_2036) := by
  refine ⟨Try.call63, ?_⟩
  refine pure_of_awp Try.func63 rfl Try.ntmps63 (by simp) fun X w => ?_
  show AWp _ _ _ ⟨[(0, .p (.slc (List.map (encL (PV.int .i64)) l_1917)))], []⟩
  simp only [drossref55_once] at h
  refine awp_seq ?_
  refine awp_region ?_
  refine AL_upto (by exact rfl) (by simp only [go_sem, seval]; exact rfl) ?_
  refine AL_nil ?_
  refine thenA_n ?_
  refine awp_seq ?_
  refine awp_region ?_
  refine AL_upto (by exact rfl) (by simp only [go_sem, seval]; exact rfl) ?_
  refine AL_nil ?_
  refine thenA_n ?_
  refine awp_seq ?_
  refine awp_seq ?_
  refine awp_region ?_
  refine AL_upto (by exact rfl) (by simp only [go_sem, seval]; exact rfl) ?_
  refine AL_nil ?_
  refine thenA_n ?_
  refine awp_block ?_
  obtain ⟨o_2031, hL_2032, h⟩ := Option.bind_eq_some_iff.1 h
  refine awp_loop_L (fun (s : List Int × Int) => ⟨[(0, .p (.slc (List.map (encL (PV.int .i64)) l_1917))), (3, .own 41 1 0 s.1.length), (4, .p (.int .i64 s.2))], [(41, .arr 2 1 1 (List.map AV.p (List.map (PV.int .i64) s.1)))]⟩) (fun (o : (Unit) ⊕ (Bool)) (e : Exit) (s' : St) => match o with | .inl o_2034 => e = (.exit 0) ∧ Le ⟨Try.prog, Try.f63.ntmps, 0, X, [], fun _ => none, w⟩ s' ⟨[], []⟩ | .inr o_2035 => e = .ret ∧ retQ Try.prog Try.f63 (.bool o_2035) .ret s') (by intro o s hT; rcases o with _ | _ <;> (have hh := hT.1; cases hh)) hL_2032 (by simp only [go_sem, seval]; all_goals ((repeat' refine And.intro ?_ ?_) <;> first | rfl | (simp; done) | (simp; rfl) | (simp [*]; done) | (simp [*]; rfl))) ?_ ?_
  · clear h
    intro s x h
    obtain ⟨all_1955, i_1956⟩ := s
    simp only [drossref55_once_l4] at h
    show AWp _ _ _ ⟨[(0, .p (.slc (List.map (encL (PV.int .i64)) l_1917))), (3, .own 41 1 0 all_1955.length), (4, .p (.int .i64 i_1956))], [(41, .arr 2 1 1 (List.map AV.p (List.map (PV.int .i64) all_1955)))]⟩
    refine awp_seq ?_
    refine awp_seq ?_
    refine awp_region ?_
    refine AL_upto (by exact rfl) (by simp only [go_sem, seval]; exact rfl) ?_
    refine AL_nil ?_
    refine thenA_n ?_
    by_cases hb_1994 : i_1956 < (l_1917.length : Int)
    · rw [if_pos hb_1994] at h
      have hb_1994T := eq_true hb_1994
      refine awp_ct (by simp only [go_sem, seval, hb_1994T]) ?_
      refine awp_skip ?_
      refine thenA_n ?_
      refine awp_seq ?_
      refine awp_block ?_
      refine awp_seq ?_
      refine awp_seq ?_
      refine awp_region ?_
      obtain ⟨x_1995, hx_1996, h⟩ := Option.bind_eq_some_iff.1 h
      obtain ⟨hx_1996a, hx_1996, hx_1996b⟩ := idx_some hx_1996
      have hx_1996A := eq_true hx_1996a
      have hx_1996B := eq_true hx_1996b
      refine AL_upto (by exact rfl) (by simp only [go_sem, seval, hb_1994T, hx_1996, hx_1996A, hx_1996B]; exact rfl) ?_
      obtain ⟨r_1997, hr_1998, h⟩ := Option.bind_eq_some_iff.1 h
      refine AL_con' rfl (guard_none rfl) rfl (by simp only [go_sem, seval, hb_1994T]; exact rfl) (by simp only [go_sem, seval, hb_1994T]; all_goals ((repeat' refine And.intro ?_ ?_) <;> first | rfl | (simp; done) | (simp; rfl) | (simp [*]; done) | (simp [*]; rfl))) (drossref55_Cluster_con x_1995 _ hr_1998) (.inr rfl) rfl ?_
      refine AL_upto (by exact rfl) (by simp only [go_sem, seval, hb_1994T]; exact rfl) ?_
      refine AL_nil ?_
      refine thenA_n ?_
      by_cases hb_1999 : r_1997 = true
      · rw [if_pos hb_1999] at h
        refine awp_cf (by simp only [go_sem, seval, hb_1994T, hb_1999]) ?_
        refine awp_skip ?_
        refine thenA_n ?_
        refine awp_seq ?_
        refine awp_seq ?_
        refine awp_region ?_
        refine AL_upto (by exact rfl) (by simp only [go_sem, seval, hb_1994T, hb_1999]; exact rfl) ?_
        refine AL_nil ?_
        refine thenA_n ?_
        refine awp_block ?_
        obtain ⟨o_2025, hL_2026, h⟩ := Option.bind_eq_some_iff.1 h
        refine awp_loop_L (fun (s : Int) => ⟨[(0, .p (.slc (List.map (encL (PV.int .i64)) l_1917))), (3, .own 41 1 0 all_1955.length), (4, .p (.int .i64 i_1956)), (5, .p (.int .i64 s))], [(41, .arr 2 1 1 (List.map AV.p (List.map (PV.int .i64) all_1955)))]⟩) (fun (o : (Unit) ⊕ (Bool)) (e : Exit) (s' : St) => match o with | .inl o_2029 => e = (.exit 2) ∧ Le ⟨Try.prog, Try.f63.ntmps, 0, X, [], fun _ => none, w⟩ s' ⟨[(0, .p (.slc (List.map (encL (PV.int .i64)) l_1917))), (3, .own 41 1 0 all_1955.length), (4, .p (.int .i64 i_1956))], [(41, .arr 2 1 1 (List.map AV.p (List.map (PV.int .i64) all_1955)))]⟩ | .inr o_2030 => e = .ret ∧ retQ Try.prog Try.f63 (.bool o_2030) .ret s') (by intro o s hT; rcases o with _ | _ <;> (have hh := hT.1; cases hh)) hL_2026 (by simp only [go_sem, seval, hb_1994T, hb_1999]; all_goals ((repeat' refine And.intro ?_ ?_) <;> first | rfl | (simp; done) | (simp; rfl) | (simp [*]; done) | (simp [*]; rfl))) ?_ ?_
        · clear h
          intro k_2008 x h
          simp only [drossref55_once_l3] at h
          show AWp _ _ _ ⟨[(0, .p (.slc (List.map (encL (PV.int .i64)) l_1917))), (3, .own 41 1 0 all_1955.length), (4, .p (.int .i64 i_1956)), (5, .p (.int .i64 k_2008))], [(41, .arr 2 1 1 (List.map AV.p (List.map (PV.int .i64) all_1955)))]⟩
          refine awp_seq ?_
          refine awp_seq ?_
          refine awp_region ?_
          obtain ⟨x_2017, hx_2018, h⟩ := Option.bind_eq_some_iff.1 h
          obtain ⟨hx_2018a, hx_2018, hx_2018b⟩ := idx_some hx_2018
          have hx_2018A := eq_true hx_2018a
          have hx_2018B := eq_true hx_2018b
          refine AL_upto (by exact rfl) (by simp only [go_sem, seval, hx_2018, hx_2018A, hx_2018B]; exact rfl) ?_
          refine AL_nil ?_
          refine thenA_n ?_
          by_cases hb_2019 : k_2008 < (x_2017.length : Int)
          · rw [if_pos hb_2019] at h
            have hb_2019T := eq_true hb_2019
            refine awp_ct (by simp only [go_sem, seval, hb_2019T]) ?_
            refine awp_skip ?_
            refine thenA_n ?_
            refine awp_seq ?_
            refine awp_block ?_
            refine awp_seq ?_
            refine awp_region ?_
            obtain ⟨x_2020, hx_2021, h⟩ := Option.bind_eq_some_iff.1 h
            obtain ⟨hx_2021a, hx_2021, hx_2021b⟩ := idx_some hx_2021
            have hx_2021A := eq_true hx_2021a
            have hx_2021B := eq_true hx_2021b
            refine AL_upto (by exact rfl) (by simp only [go_sem, seval, hb_2019T, hx_2018, hx_2018A, hx_2018B, hx_2021, hx_2021A, hx_2021B]; exact rfl) ?_
            obtain ⟨r_2022, hr_2023, h⟩ := Option.bind_eq_some_iff.1 h
            refine AL_con' rfl (guard_none rfl) rfl (by simp only [go_sem, seval, hb_2019T]; exact rfl) (by simp only [go_sem, seval, hb_2019T]; all_goals ((repeat' refine And.intro ?_ ?_) <;> first | rfl | (simp; done) | (simp; rfl) | (simp [*]; done) | (simp [*]; rfl))) (drossref03_Has_con all_1955 x_2020 _ hr_2023) (.inr rfl) rfl ?_
            refine AL_nil ?_
            refine thenA_n ?_
            by_cases hb_2024 : r_2022 = true
            · rw [if_pos hb_2024] at h
              refine awp_ct (by simp only [go_sem, seval, hb_2019T, hb_2024]) ?_
              refine awp_seq ?_
              refine awp_region ?_
              refine AL_upto (by exact rfl) (by simp only [go_sem, seval, hb_2019T, hb_2024]; exact rfl) ?_
              refine AL_nil ?_
              refine thenA_n ?_
              refine awp_ret ?_
              refine blockA_ret ?_
              refine thenA_ret ?_
              cases h
              refine ⟨rfl, ?_⟩
              refine retQ_ret (by simp only [Try.results63]; simp only [go_sem, seval, hb_2019T, hb_2024]; exact rfl) ?_
              simp only [go_sem, seval, hb_2019T, hb_2024]
              all_goals ((repeat' refine And.intro ?_ ?_) <;> first | rfl | (simp; done) | (simp; rfl) | (simp [*]; done) | (simp [*]; rfl))
            · rw [if_neg hb_2024] at h
              have hb_2024F := Bool.eq_false_iff.2 hb_2024
              refine awp_cf (by simp only [go_sem, seval, hb_2019T, hb_2024F]) ?_
              refine awp_skip ?_
              refine blockA_n ?_
              refine thenA_n ?_
              refine awp_region ?_
              refine AL_upto (by exact rfl) (by simp only [go_sem, seval, hb_2019T, hb_2024F]; exact rfl) ?_
              refine AL_nil ?_
              cases h
              refine ⟨rfl, ?_⟩
              simp only [go_sem, seval, hb_2019T, hb_2024F]
              all_goals ((repeat' refine And.intro ?_ ?_) <;> first | rfl | (simp; done) | (simp; rfl) | (simp [*]; done) | (simp [*]; rfl))
          · rw [if_neg hb_2019] at h
            have hb_2019T := eq_false hb_2019
            refine awp_cf (by simp only [go_sem, seval, hb_2019T]) ?_
            refine awp_exit ?_
            refine thenA_exit ?_
            cases h
            refine ⟨rfl, ?_⟩
            simp only [go_sem, seval, hb_2019T]
            all_goals ((repeat' refine And.intro ?_ ?_) <;> first | rfl | (simp; done) | (simp; rfl) | (simp [*]; done) | (simp [*]; rfl))
        · intro e s' hT
          rcases o_2025 with ⟨⟩ | r_2028
          · try simp only at h
            try simp only at hT
            obtain ⟨rfl, hle⟩ := hT
            refine Wk.to hle ?_
            clear hle
            refine blockA_here ?_
            refine thenA_n ?_
            refine awp_region ?_
            obtain ⟨hc_2027, h⟩ := ite_some h
            refine AL_upto (by exact rfl) (by simp only [go_sem, seval, hb_1994T, hb_1999, hx_1996, hx_1996A, hx_1996B, hc_2027]; exact rfl) ?_
            refine AL_nil ?_
            refine blockA_n ?_
            refine thenA_n ?_
            refine awp_region ?_
            refine AL_upto (by exact rfl) (by simp only [go_sem, seval, hb_1994T, hb_1999]; exact rfl) ?_
            refine AL_nil ?_
            cases h
            refine ⟨rfl, ?_⟩
            simp only [go_sem, seval, hb_1994T, hb_1999]
            all_goals ((repeat' refine And.intro ?_ ?_) <;> first | rfl | (simp; done) | (simp; rfl) | (simp [*]; done) | (simp [*]; rfl))
          · try simp only at h
            try simp only at hT
            obtain ⟨rfl, hq⟩ := hT
            refine Wk.now ?_
            refine blockA_ret ?_
            refine thenA_ret ?_
            refine blockA_ret ?_
            refine thenA_ret ?_
            cases h
            refine ⟨rfl, ?_⟩
            exact hq
      · rw [if_neg hb_1999] at h
        have hb_1999F := Bool.eq_false_iff.2 hb_1999
        refine awp_ct (by simp only [go_sem, seval, hb_1994T, hb_1999F]) ?_
        refine awp_seq ?_
        refine awp_region ?_
        refine AL_upto (by exact rfl) (by simp only [go_sem, seval, hb_1994T, hb_1999F]; exact rfl) ?_
        refine AL_nil ?_
        refine thenA_n ?_
        refine awp_ret ?_
        refine thenA_ret ?_
        refine blockA_ret ?_
        refine thenA_ret ?_
        cases h
        refine ⟨rfl, ?_⟩
        refine retQ_ret (by simp only [Try.results63]; simp only [go_sem, seval, hb_1994T, hb_1999F]; exact rfl) ?_
        simp only [go_sem, seval, hb_1994T, hb_1999F]
        all_goals ((repeat' refine And.intro ?_ ?_) <;> first | rfl | (simp; done) | (simp; rfl) | (simp [*]; done) | (simp [*]; rfl))
    · rw [if_neg hb_1994] at h
      have hb_1994T := eq_false hb_1994
      refine awp_cf (by simp only [go_sem, seval, hb_1994T]) ?_
      refine awp_exit ?_
      refine thenA_exit ?_
      cases h
      refine ⟨rfl, ?_⟩
      simp only [go_sem, seval, hb_1994T]
      all_goals ((repeat' refine And.intro ?_ ?_) <;> first | rfl | (simp; done) | (simp; rfl) | (simp [*]; done) | (simp [*]; rfl))
  · intro e s' hT
    rcases o_2031 with ⟨⟩ | r_2033
    · try simp only at h
      try simp only at hT
      obtain ⟨rfl, hle⟩ := hT
      refine Wk.to hle ?_
      clear hle
      refine blockA_here ?_
      refine thenA_n ?_
      refine awp_seq ?_
      refine awp_region ?_
      refine AL_upto (by exact rfl) (by simp only [go_sem, seval]; exact rfl) ?_
      refine AL_nil ?_
      refine thenA_n ?_
      refine awp_ret ?_
      cases h
      refine retQ_ret (by simp only [Try.results63]; simp only [go_sem, seval]; exact rfl) ?_
      simp only [go_sem, seval]
      all_goals ((repeat' refine And.intro ?_ ?_) <;> first | rfl | (simp; done) | (simp; rfl) | (simp [*]; done) | (simp [*]; rfl))
    · try simp only at h
      try simp only at hT
      obtain ⟨rfl, hq⟩ := hT
      refine Wk.now ?_
      refine blockA_ret ?_
      refine thenA_ret ?_
      cases h
      exact hq
end Go.Proofs.Ytdmddoljldjjeaa
