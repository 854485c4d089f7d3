/- Each function of the program computes what its Lean function says, where that has a value. -/
import Derived.Test.YtdmddoljldjjeaaW1
set_option linter.unusedVariables false
set_option linter.unusedSimpArgs false
namespace Go.Proofs.Ytdmddoljldjjeaa
open Go Go.Ab
set_option maxHeartbeats 4000000 in
theorem survivor_ascending_con (l_1373 : List Int) (r_1398 : Bool) (h : survivor_ascending l_1373 = some r_1398) : Con Try.prog 80 [(.slc (List.map (PV.int .i64) l_1373))] (.bool r_1398) := by
  refine ⟨Try.call80, ?_⟩
  refine pure_of_awp Try.func80 rfl Try.ntmps80 (by simp) fun X w => ?_
  show AWp _ _ _ ⟨[(0, .p (.slc (List.map (PV.int .i64) l_1373)))], []⟩
  simp only [survivor_ascending] at h
  refine awp_seq ?_
  refine awp_region ?_
  refine AL_upto (by exact rfl) (by simp only [go_sem, seval]; exact rfl) ?_
  refine AL_nil ?_
  refine thenA_n ?_
  refine awp_seq ?_
  refine awp_seq ?_
  refine awp_region ?_
  refine AL_upto (by exact rfl) (by simp only [go_sem, seval]; exact rfl) ?_
  refine AL_nil ?_
  refine thenA_n ?_
  refine awp_block ?_
  obtain ⟨o_1393, hL_1394, h⟩ := Option.bind_eq_some_iff.1 h
  refine awp_loop_L (fun (s : Int) => ⟨[(0, .p (.slc (List.map (PV.int .i64) l_1373))), (3, .p (.int .i64 s))], []⟩) (fun (o : (Unit) ⊕ (Bool)) (e : Exit) (s' : St) => match o with | .inl o_1396 => e = (.exit 0) ∧ Le ⟨Try.prog, Try.f80.ntmps, 0, X, [], fun _ => none, w⟩ s' ⟨[(0, .p (.slc (List.map (PV.int .i64) l_1373)))], []⟩ | .inr o_1397 => e = .ret ∧ retQ Try.prog Try.f80 (.bool o_1397) .ret s') (by intro o s hT; rcases o with _ | _ <;> (have hh := hT.1; cases hh)) hL_1394 (by simp only [go_sem, seval]; all_goals ((repeat' refine And.intro ?_ ?_) <;> first | rfl | (simp; done) | (simp; rfl) | (simp [*]; done) | (simp [*]; rfl))) ?_ ?_
  · clear h
    intro i_1380 x h
    simp only [survivor_ascending_l1] at h
    show AWp _ _ _ ⟨[(0, .p (.slc (List.map (PV.int .i64) l_1373))), (3, .p (.int .i64 i_1380))], []⟩
    refine awp_seq ?_
    refine awp_seq ?_
    refine awp_region ?_
    refine AL_upto (by exact rfl) (by simp only [go_sem, seval]; exact rfl) ?_
    refine AL_nil ?_
    refine thenA_n ?_
    by_cases hb_1387 : i_1380 < (l_1373.length : Int)
    · rw [if_pos hb_1387] at h
      have hb_1387T := eq_true hb_1387
      refine awp_ct (by simp only [go_sem, seval, hb_1387T]) ?_
      refine awp_skip ?_
      refine thenA_n ?_
      refine awp_seq ?_
      refine awp_block ?_
      refine awp_seq ?_
      refine awp_drawn_walk mixed (by decide) ?_
      obtain ⟨x_1388, hx_1389, h⟩ := Option.bind_eq_some_iff.1 h
      obtain ⟨hx_1389a, hx_1389, hx_1389b⟩ := idx_some hx_1389
      have hx_1389A := eq_true hx_1389a
      have hx_1389B := eq_true hx_1389b
      obtain ⟨x_1390, hx_1391, h⟩ := Option.bind_eq_some_iff.1 h
      obtain ⟨hx_1391a, hx_1391, hx_1391b⟩ := idx_some hx_1391
      have hx_1391A := eq_true hx_1391a
      have hx_1391B := eq_true hx_1391b
      refine DGo.upto (by exact rfl) (by simp only [go_sem, seval, hb_1387T, hx_1389, hx_1389A, hx_1389B, hx_1391, hx_1391A, hx_1391B]; exact ⟨rfl, rfl⟩) ?_
      refine DGo.fin rfl ?_
      refine thenA_n ?_
      by_cases hb_1392 : x_1388 ≤ x_1390
      · rw [if_pos hb_1392] at h
        have hb_1392T := eq_true hb_1392
        refine awp_ct (by simp only [go_sem, seval, hb_1387T, hb_1392T]) ?_
        refine awp_seq ?_
        refine awp_region ?_
        refine AL_upto (by exact rfl) (by simp only [go_sem, seval, hb_1387T, hb_1392T]; exact rfl) ?_
        refine AL_nil ?_
        refine thenA_n ?_
        refine awp_ret ?_
        refine blockA_ret ?_
        refine thenA_ret ?_
        cases h
        refine ⟨rfl, ?_⟩
        refine retQ_ret (by simp only [Try.results80]; simp only [go_sem, seval, hb_1387T, hb_1392T]; exact rfl) ?_
        simp only [go_sem, seval, hb_1387T, hb_1392T]
        all_goals ((repeat' refine And.intro ?_ ?_) <;> first | rfl | (simp; done) | (simp; rfl) | (simp [*]; done) | (simp [*]; rfl))
      · rw [if_neg hb_1392] at h
        have hb_1392T := eq_false hb_1392
        refine awp_cf (by simp only [go_sem, seval, hb_1387T, hb_1392T]) ?_
        refine awp_skip ?_
        refine blockA_n ?_
        refine thenA_n ?_
        refine awp_region ?_
        refine AL_upto (by exact rfl) (by simp only [go_sem, seval, hb_1387T, hb_1392T]; exact rfl) ?_
        refine AL_nil ?_
        cases h
        refine ⟨rfl, ?_⟩
        simp only [go_sem, seval, hb_1387T, hb_1392T]
        all_goals ((repeat' refine And.intro ?_ ?_) <;> first | rfl | (simp; done) | (simp; rfl) | (simp [*]; done) | (simp [*]; rfl))
    · rw [if_neg hb_1387] at h
      have hb_1387T := eq_false hb_1387
      refine awp_cf (by simp only [go_sem, seval, hb_1387T]) ?_
      refine awp_exit ?_
      refine thenA_exit ?_
      cases h
      refine ⟨rfl, ?_⟩
      simp only [go_sem, seval, hb_1387T]
      all_goals ((repeat' refine And.intro ?_ ?_) <;> first | rfl | (simp; done) | (simp; rfl) | (simp [*]; done) | (simp [*]; rfl))
  · intro e s' hT
    rcases o_1393 with ⟨⟩ | r_1395
    · try simp only at h
      try simp only at hT
      obtain ⟨rfl, hle⟩ := hT
      refine Wk.to hle ?_
      clear hle
      refine blockA_here ?_
      refine thenA_n ?_
      refine awp_seq ?_
      refine awp_region ?_
      refine AL_upto (by exact rfl) (by simp only [go_sem, seval]; exact rfl) ?_
      refine AL_nil ?_
      refine thenA_n ?_
      refine awp_ret ?_
      cases h
      refine retQ_ret (by simp only [Try.results80]; simp only [go_sem, seval]; exact rfl) ?_
      simp only [go_sem, seval]
      all_goals ((repeat' refine And.intro ?_ ?_) <;> first | rfl | (simp; done) | (simp; rfl) | (simp [*]; done) | (simp [*]; rfl))
    · try simp only at h
      try simp only at hT
      obtain ⟨rfl, hq⟩ := hT
      refine Wk.now ?_
      refine blockA_ret ?_
      refine thenA_ret ?_
      cases h
      exact hq
end Go.Proofs.Ytdmddoljldjjeaa
set_option linter.unusedVariables false
set_option linter.unusedSimpArgs false
namespace Go.Proofs.Ytdmddoljldjjeaa
open Go Go.Ab
set_option maxHeartbeats 4000000 in
theorem survivor_disjoint_con (clusters_1399 : List (List Int)) (r_1522 : (List (Int × Bool)) × Bool) (h : survivor_disjoint clusters_1399 = some r_1522) : Con Try.prog 58 [(.slc (List.map (encL (PV.int .i64)) clusters_1399))] (.tup [(.mapv (encK (PV.int .i64) r_1522.1) (encW PV.bool r_1522.1)), (.bool r_1522.2)]) := by
  refine ⟨Try.call58, ?_⟩
  refine pure_of_awp Try.func58 rfl Try.ntmps58 (by simp) fun X w => ?_
  show AWp _ _ _ ⟨[(0, .p (.slc (List.map (encL (PV.int .i64)) clusters_1399)))], []⟩
  simp only [survivor_disjoint] at h
  refine awp_seq ?_
  refine awp_region ?_
  refine AL_upto (by exact rfl) (by simp only [go_sem, seval]; exact rfl) ?_
  refine AL_nil ?_
  refine thenA_n ?_
  refine awp_seq ?_
  refine awp_region ?_
  refine AL_upto (by exact rfl) (by simp only [go_sem, seval]; exact rfl) ?_
  refine AL_nil ?_
  refine thenA_n ?_
  refine awp_seq ?_
  refine awp_seq ?_
  refine awp_region ?_
  refine AL_upto (by exact rfl) (by simp only [go_sem, seval]; exact rfl) ?_
  refine AL_nil ?_
  refine thenA_n ?_
  refine awp_block ?_
  obtain ⟨o_1517, hL_1518, h⟩ := Option.bind_eq_some_iff.1 h
  refine awp_loop_L (fun (s : (List (Int × Bool)) × Int) => ⟨[(4, .mapo 9 1), (10, .p (.slc (List.map (encL (PV.int .i64)) clusters_1399))), (11, .p (.int .i64 (clusters_1399.length : Int))), (12, .p (.int .i64 s.2))], [(9, .map 1 (List.map AV.p (encK (PV.int .i64) s.1)) (List.map AV.p (encW PV.bool s.1)))]⟩) (fun (o : ((List (Int × Bool))) ⊕ ((List (Int × Bool)) × Bool)) (e : Exit) (s' : St) => match o with | .inl o_1520 => e = (.exit 0) ∧ Le ⟨Try.prog, Try.f58.ntmps, 0, X, [], fun _ => none, w⟩ s' ⟨[(4, .mapo 9 1)], [(9, .map 1 (List.map AV.p (encK (PV.int .i64) o_1520)) (List.map AV.p (encW PV.bool o_1520)))]⟩ | .inr o_1521 => e = .ret ∧ retQ Try.prog Try.f58 (.tup [(.mapv (encK (PV.int .i64) o_1521.1) (encW PV.bool o_1521.1)), (.bool o_1521.2)]) .ret s') (by intro o s hT; rcases o with _ | _ <;> (have hh := hT.1; cases hh)) hL_1518 (by simp only [go_sem, seval]; all_goals ((repeat' refine And.intro ?_ ?_) <;> first | rfl | (simp; done) | (simp; rfl) | (simp [*]; done) | (simp [*]; rfl))) ?_ ?_
  · clear h
    intro s x h
    obtain ⟨seen_1438, t12_1439⟩ := s
    simp only [survivor_disjoint_l4] at h
    show AWp _ _ _ ⟨[(4, .mapo 9 1), (10, .p (.slc (List.map (encL (PV.int .i64)) clusters_1399))), (11, .p (.int .i64 (clusters_1399.length : Int))), (12, .p (.int .i64 t12_1439))], [(9, .map 1 (List.map AV.p (encK (PV.int .i64) seen_1438)) (List.map AV.p (encW PV.bool seen_1438)))]⟩
    refine awp_seq ?_
    refine awp_region ?_
    refine AL_upto (by exact rfl) (by simp only [go_sem, seval]; exact rfl) ?_
    refine AL_nil ?_
    refine thenA_n ?_
    refine awp_seq ?_
    by_cases hb_1480 : t12_1439 < (clusters_1399.length : Int)
    · rw [if_pos hb_1480] at h
      have hb_1480T := eq_true hb_1480
      refine awp_ct (by simp only [go_sem, seval, hb_1480T]) ?_
      refine awp_skip ?_
      refine thenA_n ?_
      refine awp_seq ?_
      refine awp_block ?_
      refine awp_seq ?_
      refine awp_region ?_
      obtain ⟨x_1483, hx_1484, h⟩ := Option.bind_eq_some_iff.1 h
      obtain ⟨hx_1484a, hx_1484, hx_1484b⟩ := idx_some hx_1484
      have hx_1484A := eq_true hx_1484a
      have hx_1484B := eq_true hx_1484b
      refine AL_upto (by exact rfl) (by simp only [go_sem, seval, hb_1480T, hx_1484, hx_1484A, hx_1484B]; exact rfl) ?_
      refine AL_nil ?_
      refine thenA_n ?_
      refine awp_seq ?_
      refine awp_seq ?_
      refine awp_region ?_
      refine AL_upto (by exact rfl) (by simp only [go_sem, seval, hb_1480T]; exact rfl) ?_
      obtain ⟨r_1485, hr_1486, h⟩ := Option.bind_eq_some_iff.1 h
      refine AL_con' rfl (guard_none rfl) rfl (by simp only [go_sem, seval, hb_1480T]; exact rfl) (by simp only [go_sem, seval, hb_1480T]; all_goals ((repeat' refine And.intro ?_ ?_) <;> first | rfl | (simp; done) | (simp; rfl) | (simp [*]; done) | (simp [*]; rfl))) (survivor_ascending_con x_1483 _ hr_1486) (.inr rfl) rfl ?_
      refine AL_upto (by exact rfl) (by simp only [go_sem, seval, hb_1480T]; exact rfl) ?_
      refine AL_nil ?_
      refine thenA_n ?_
      by_cases hb_1487 : r_1485 = true
      · rw [if_pos hb_1487] at h
        refine awp_cf (by simp only [go_sem, seval, hb_1480T, hb_1487]) ?_
        refine awp_skip ?_
        refine thenA_n ?_
        refine awp_seq ?_
        refine awp_region ?_
        refine AL_upto (by exact rfl) (by simp only [go_sem, seval, hb_1480T, hb_1487]; exact rfl) ?_
        refine AL_nil ?_
        refine thenA_n ?_
        refine awp_block ?_
        obtain ⟨o_1512, hL_1513, h⟩ := Option.bind_eq_some_iff.1 h
        refine awp_loop_L (fun (s : (List (Int × Bool)) × Int) => ⟨[(4, .mapo 9 1), (10, .p (.slc (List.map (encL (PV.int .i64)) clusters_1399))), (11, .p (.int .i64 (clusters_1399.length : Int))), (12, .p (.int .i64 t12_1439)), (19, .p (.slc (List.map (PV.int .i64) x_1483))), (20, .p (.int .i64 (x_1483.length : Int))), (21, .p (.int .i64 s.2))], [(9, .map 1 (List.map AV.p (encK (PV.int .i64) s.1)) (List.map AV.p (encW PV.bool s.1)))]⟩) (fun (o : ((List (Int × Bool))) ⊕ ((List (Int × Bool)) × Bool)) (e : Exit) (s' : St) => match o with | .inl o_1515 => e = (.exit 2) ∧ Le ⟨Try.prog, Try.f58.ntmps, 0, X, [], fun _ => none, w⟩ s' ⟨[(4, .mapo 9 1), (10, .p (.slc (List.map (encL (PV.int .i64)) clusters_1399))), (11, .p (.int .i64 (clusters_1399.length : Int))), (12, .p (.int .i64 t12_1439))], [(9, .map 1 (List.map AV.p (encK (PV.int .i64) o_1515)) (List.map AV.p (encW PV.bool o_1515)))]⟩ | .inr o_1516 => e = .ret ∧ retQ Try.prog Try.f58 (.tup [(.mapv (encK (PV.int .i64) o_1516.1) (encW PV.bool o_1516.1)), (.bool o_1516.2)]) .ret s') (by intro o s hT; rcases o with _ | _ <;> (have hh := hT.1; cases hh)) hL_1513 (by simp only [go_sem, seval, hb_1480T, hb_1487]; all_goals ((repeat' refine And.intro ?_ ?_) <;> first | rfl | (simp; done) | (simp; rfl) | (simp [*]; done) | (simp [*]; rfl))) ?_ ?_
        · clear h
          intro s x h
          obtain ⟨seen_1495, t21_1496⟩ := s
          simp only [survivor_disjoint_l3] at h
          show AWp _ _ _ ⟨[(4, .mapo 9 1), (10, .p (.slc (List.map (encL (PV.int .i64)) clusters_1399))), (11, .p (.int .i64 (clusters_1399.length : Int))), (12, .p (.int .i64 t12_1439)), (19, .p (.slc (List.map (PV.int .i64) x_1483))), (20, .p (.int .i64 (x_1483.length : Int))), (21, .p (.int .i64 t21_1496))], [(9, .map 1 (List.map AV.p (encK (PV.int .i64) seen_1495)) (List.map AV.p (encW PV.bool seen_1495)))]⟩
          refine awp_seq ?_
          refine awp_region ?_
          refine AL_upto (by exact rfl) (by simp only [go_sem, seval]; exact rfl) ?_
          refine AL_nil ?_
          refine thenA_n ?_
          refine awp_seq ?_
          by_cases hb_1506 : t21_1496 < (x_1483.length : Int)
          · rw [if_pos hb_1506] at h
            have hb_1506T := eq_true hb_1506
            refine awp_ct (by simp only [go_sem, seval, hb_1506T]) ?_
            refine awp_skip ?_
            refine thenA_n ?_
            refine awp_seq ?_
            refine awp_block ?_
            refine awp_seq ?_
            refine awp_region ?_
            obtain ⟨x_1509, hx_1510, h⟩ := Option.bind_eq_some_iff.1 h
            obtain ⟨hx_1510a, hx_1510, hx_1510b⟩ := idx_some hx_1510
            have hx_1510A := eq_true hx_1510a
            have hx_1510B := eq_true hx_1510b
            refine AL_upto (by exact rfl) (by simp only [go_sem, seval, hb_1506T, hx_1510, hx_1510A, hx_1510B]; exact rfl) ?_
            refine AL_nil ?_
            refine thenA_n ?_
            refine awp_seq ?_
            refine awp_seq ?_
            refine awp_region ?_
            refine AL_upto (by exact rfl) (by simp only [go_sem, seval, hb_1506T]; exact rfl) ?_
            refine AL_nil ?_
            refine thenA_n ?_
            by_cases hb_1511 : ((mget seen_1495 x_1509).getD false) = true
            · rw [if_pos hb_1511] at h
              refine awp_ct (by simp only [go_sem, seval, hb_1506T, hb_1511]) ?_
              refine awp_seq ?_
              refine awp_region ?_
              refine AL_upto (by exact rfl) (by simp only [go_sem, seval, hb_1506T, hb_1511]; exact rfl) ?_
              refine AL_nil ?_
              refine thenA_n ?_
              refine awp_ret ?_
              refine thenA_ret ?_
              refine blockA_ret ?_
              refine thenA_ret ?_
              cases h
              refine ⟨rfl, ?_⟩
              refine retQ_ret (by simp only [Try.results58]; simp only [go_sem, seval, hb_1506T, hb_1511]; exact rfl) ?_
              simp only [go_sem, seval, hb_1506T, hb_1511]
              all_goals ((repeat' refine And.intro ?_ ?_) <;> first | rfl | (simp; done) | (simp; rfl) | (simp [*]; done) | (simp [*]; rfl))
            · rw [if_neg hb_1511] at h
              have hb_1511F := Bool.eq_false_iff.2 hb_1511
              refine awp_cf (by simp only [go_sem, seval, hb_1506T, hb_1511F]) ?_
              refine awp_skip ?_
              refine thenA_n ?_
              refine awp_region ?_
              refine AL_upto (by exact rfl) (by simp only [go_sem, seval, hb_1506T, hb_1511F]; exact rfl) ?_
              refine AL_nil ?_
              refine blockA_n ?_
              refine thenA_n ?_
              refine awp_region ?_
              refine AL_upto (by exact rfl) (by simp only [go_sem, seval, hb_1506T, hb_1511F]; exact rfl) ?_
              refine AL_nil ?_
              cases h
              refine ⟨rfl, ?_⟩
              simp only [go_sem, seval, hb_1506T, hb_1511F]
              all_goals ((repeat' refine And.intro ?_ ?_) <;> first | rfl | (simp; done) | (simp; rfl) | (simp [*]; done) | (simp [*]; rfl))
          · rw [if_neg hb_1506] at h
            have hb_1506T := eq_false hb_1506
            refine awp_cf (by simp only [go_sem, seval, hb_1506T]) ?_
            refine awp_exit ?_
            refine thenA_exit ?_
            cases h
            refine ⟨rfl, ?_⟩
            simp only [go_sem, seval, hb_1506T]
            all_goals ((repeat' refine And.intro ?_ ?_) <;> first | rfl | (simp; done) | (simp; rfl) | (simp [*]; done) | (simp [*]; rfl))
        · intro e s' hT
          rcases o_1512 with seen_1504 | r_1514
          · try simp only at h
            try simp only at hT
            obtain ⟨rfl, hle⟩ := hT
            refine Wk.to hle ?_
            clear hle
            refine blockA_here ?_
            refine blockA_n ?_
            refine thenA_n ?_
            refine awp_region ?_
            refine AL_upto (by exact rfl) (by simp only [go_sem, seval, hb_1480T, hb_1487]; exact rfl) ?_
            refine AL_nil ?_
            cases h
            refine ⟨rfl, ?_⟩
            simp only [go_sem, seval, hb_1480T, hb_1487]
            all_goals ((repeat' refine And.intro ?_ ?_) <;> first | rfl | (simp; done) | (simp; rfl) | (simp [*]; done) | (simp [*]; rfl))
          · try simp only at h
            try simp only at hT
            obtain ⟨rfl, hq⟩ := hT
            refine Wk.now ?_
            refine blockA_ret ?_
            refine blockA_ret ?_
            refine thenA_ret ?_
            cases h
            refine ⟨rfl, ?_⟩
            exact hq
      · rw [if_neg hb_1487] at h
        have hb_1487F := Bool.eq_false_iff.2 hb_1487
        refine awp_ct (by simp only [go_sem, seval, hb_1480T, hb_1487F]) ?_
        refine awp_seq ?_
        refine awp_region ?_
        refine AL_upto (by exact rfl) (by simp only [go_sem, seval, hb_1480T, hb_1487F]; exact rfl) ?_
        refine AL_nil ?_
        refine thenA_n ?_
        refine awp_ret ?_
        refine thenA_ret ?_
        refine blockA_ret ?_
        refine thenA_ret ?_
        cases h
        refine ⟨rfl, ?_⟩
        refine retQ_ret (by simp only [Try.results58]; simp only [go_sem, seval, hb_1480T, hb_1487F]; exact rfl) ?_
        simp only [go_sem, seval, hb_1480T, hb_1487F]
        all_goals ((repeat' refine And.intro ?_ ?_) <;> first | rfl | (simp; done) | (simp; rfl) | (simp [*]; done) | (simp [*]; rfl))
    · rw [if_neg hb_1480] at h
      have hb_1480T := eq_false hb_1480
      refine awp_cf (by simp only [go_sem, seval, hb_1480T]) ?_
      refine awp_exit ?_
      refine thenA_exit ?_
      cases h
      refine ⟨rfl, ?_⟩
      simp only [go_sem, seval, hb_1480T]
      all_goals ((repeat' refine And.intro ?_ ?_) <;> first | rfl | (simp; done) | (simp; rfl) | (simp [*]; done) | (simp [*]; rfl))
  · intro e s' hT
    rcases o_1517 with seen_1478 | r_1519
    · try simp only at h
      try simp only at hT
      obtain ⟨rfl, hle⟩ := hT
      refine Wk.to hle ?_
      clear hle
      refine blockA_here ?_
      refine thenA_n ?_
      refine awp_seq ?_
      refine awp_region ?_
      refine AL_upto (by exact rfl) (by simp only [go_sem, seval]; exact rfl) ?_
      refine AL_nil ?_
      refine thenA_n ?_
      refine awp_ret ?_
      cases h
      refine retQ_ret (by simp only [Try.results58]; simp only [go_sem, seval]; exact rfl) ?_
      simp only [go_sem, seval]
      all_goals ((repeat' refine And.intro ?_ ?_) <;> first | rfl | (simp; done) | (simp; rfl) | (simp [*]; done) | (simp [*]; rfl))
    · try simp only at h
      try simp only at hT
      obtain ⟨rfl, hq⟩ := hT
      refine Wk.now ?_
      refine blockA_ret ?_
      refine thenA_ret ?_
      cases h
      exact hq
end Go.Proofs.Ytdmddoljldjjeaa
set_option linter.unusedVariables false
set_option linter.unusedSimpArgs false
namespace Go.Proofs.Ytdmddoljldjjeaa
open Go Go.Ab
set_option maxHeartbeats 4000000 in
theorem slices_IndexFunc_int64_con (s_1523 : List Int) (f_1524 : Int → Option (Bool)) (f_1524_k : FuncId) (f_1524_cs : List PV) (f_1524_h : ∀ (y_1525 : Int) (r_1526 : Bool), f_1524 y_1525 = some r_1526 → Con Try.prog f_1524_k ((.int .i64 y_1525) :: f_1524_cs) (.bool r_1526)) (r_1554 : Int) (h : slices_IndexFunc_int64 s_1523 f_1524 = some r_1554) : Con Try.prog 81 [(.slc (List.map (PV.int .i64) s_1523)), .func (.func f_1524_k) f_1524_cs] (.int .i64 r_1554) := by
  refine ⟨Try.call81, ?_⟩
  refine pure_of_awp Try.func81 rfl Try.ntmps81 (by simp) fun X w => ?_
  show AWp _ _ _ ⟨[(0, .p (.slc (List.map (PV.int .i64) s_1523))), (1, .p (.func (.func f_1524_k) f_1524_cs))], []⟩
  simp only [slices_IndexFunc_int64] at h
  refine awp_seq ?_
  refine awp_region ?_
  refine AL_upto (by exact rfl) (by simp only [go_sem, seval]; exact rfl) ?_
  refine AL_nil ?_
  refine thenA_n ?_
  refine awp_seq ?_
  refine awp_seq ?_
  refine awp_region ?_
  refine AL_upto (by exact rfl) (by simp only [go_sem, seval]; exact rfl) ?_
  refine AL_nil ?_
  refine thenA_n ?_
  refine awp_block ?_
  obtain ⟨o_1549, hL_1550, h⟩ := Option.bind_eq_some_iff.1 h
  refine awp_loop_L (fun (s : Int) => ⟨[(0, .p (.slc (List.map (PV.int .i64) s_1523))), (1, .p (.func (.func f_1524_k) f_1524_cs)), (7, .p (.int .i64 (s_1523.length : Int))), (8, .p (.int .i64 s))], []⟩) (fun (o : (Unit) ⊕ (Int)) (e : Exit) (s' : St) => match o with | .inl o_1552 => e = (.exit 0) ∧ Le ⟨Try.prog, Try.f81.ntmps, 0, X, [], fun _ => none, w⟩ s' ⟨[], []⟩ | .inr o_1553 => e = .ret ∧ retQ Try.prog Try.f81 (.int .i64 o_1553) .ret s') (by intro o s hT; rcases o with _ | _ <;> (have hh := hT.1; cases hh)) hL_1550 (by simp only [go_sem, seval]; all_goals ((repeat' refine And.intro ?_ ?_) <;> first | rfl | (simp; done) | (simp; rfl) | (simp [*]; done) | (simp [*]; rfl))) ?_ ?_
  · clear h
    intro t8_1534 x h
    simp only [slices_IndexFunc_int64_l1] at h
    show AWp _ _ _ ⟨[(0, .p (.slc (List.map (PV.int .i64) s_1523))), (1, .p (.func (.func f_1524_k) f_1524_cs)), (7, .p (.int .i64 (s_1523.length : Int))), (8, .p (.int .i64 t8_1534))], []⟩
    refine awp_seq ?_
    refine awp_region ?_
    refine AL_upto (by exact rfl) (by simp only [go_sem, seval]; exact rfl) ?_
    refine AL_nil ?_
    refine thenA_n ?_
    refine awp_seq ?_
    by_cases hb_1543 : t8_1534 < (s_1523.length : Int)
    · rw [if_pos hb_1543] at h
      have hb_1543T := eq_true hb_1543
      refine awp_ct (by simp only [go_sem, seval, hb_1543T]) ?_
      refine awp_skip ?_
      refine thenA_n ?_
      refine awp_seq ?_
      refine awp_block ?_
      refine awp_seq ?_
      refine awp_region ?_
      refine AL_upto (by exact rfl) (by simp only [go_sem, seval, hb_1543T]; exact rfl) ?_
      refine AL_nil ?_
      refine thenA_n ?_
      refine awp_seq ?_
      refine awp_region ?_
      obtain ⟨x_1544, hx_1545, h⟩ := Option.bind_eq_some_iff.1 h
      obtain ⟨hx_1545a, hx_1545, hx_1545b⟩ := idx_some hx_1545
      have hx_1545A := eq_true hx_1545a
      have hx_1545B := eq_true hx_1545b
      refine AL_upto (by exact rfl) (by simp only [go_sem, seval, hb_1543T, hx_1545, hx_1545A, hx_1545B]; exact rfl) ?_
      obtain ⟨r_1546, hr_1547, h⟩ := Option.bind_eq_some_iff.1 h
      refine AL_con' rfl (guard_none rfl) rfl (by simp only [go_sem, seval, hb_1543T]; exact rfl) (by simp only [go_sem, seval, hb_1543T]; all_goals ((repeat' refine And.intro ?_ ?_) <;> first | rfl | (simp; done) | (simp; rfl) | (simp [*]; done) | (simp [*]; rfl))) (f_1524_h x_1544 _ hr_1547) (.inr rfl) rfl ?_
      refine AL_nil ?_
      refine thenA_n ?_
      by_cases hb_1548 : r_1546 = true
      · rw [if_pos hb_1548] at h
        refine awp_ct (by simp only [go_sem, seval, hb_1543T, hb_1548]) ?_
        refine awp_seq ?_
        refine awp_region ?_
        refine AL_upto (by exact rfl) (by simp only [go_sem, seval, hb_1543T, hb_1548]; exact rfl) ?_
        refine AL_nil ?_
        refine thenA_n ?_
        refine awp_ret ?_
        refine blockA_ret ?_
        refine thenA_ret ?_
        cases h
        refine ⟨rfl, ?_⟩
        refine retQ_ret (by simp only [Try.results81]; simp only [go_sem, seval, hb_1543T, hb_1548]; exact rfl) ?_
        simp only [go_sem, seval, hb_1543T, hb_1548]
        all_goals ((repeat' refine And.intro ?_ ?_) <;> first | rfl | (simp; done) | (simp; rfl) | (simp [*]; done) | (simp [*]; rfl))
      · rw [if_neg hb_1548] at h
        have hb_1548F := Bool.eq_false_iff.2 hb_1548
        refine awp_cf (by simp only [go_sem, seval, hb_1543T, hb_1548F]) ?_
        refine awp_skip ?_
        refine blockA_n ?_
        refine thenA_n ?_
        refine awp_region ?_
        refine AL_upto (by exact rfl) (by simp only [go_sem, seval, hb_1543T, hb_1548F]; exact rfl) ?_
        refine AL_nil ?_
        cases h
        refine ⟨rfl, ?_⟩
        simp only [go_sem, seval, hb_1543T, hb_1548F]
        all_goals ((repeat' refine And.intro ?_ ?_) <;> first | rfl | (simp; done) | (simp; rfl) | (simp [*]; done) | (simp [*]; rfl))
    · rw [if_neg hb_1543] at h
      have hb_1543T := eq_false hb_1543
      refine awp_cf (by simp only [go_sem, seval, hb_1543T]) ?_
      refine awp_exit ?_
      refine thenA_exit ?_
      cases h
      refine ⟨rfl, ?_⟩
      simp only [go_sem, seval, hb_1543T]
      all_goals ((repeat' refine And.intro ?_ ?_) <;> first | rfl | (simp; done) | (simp; rfl) | (simp [*]; done) | (simp [*]; rfl))
  · intro e s' hT
    rcases o_1549 with ⟨⟩ | r_1551
    · try simp only at h
      try simp only at hT
      obtain ⟨rfl, hle⟩ := hT
      refine Wk.to hle ?_
      clear hle
      refine blockA_here ?_
      refine thenA_n ?_
      refine awp_seq ?_
      refine awp_region ?_
      refine AL_upto (by exact rfl) (by simp only [go_sem, seval]; exact rfl) ?_
      refine AL_nil ?_
      refine thenA_n ?_
      refine awp_ret ?_
      cases h
      refine retQ_ret (by simp only [Try.results81]; simp only [go_sem, seval]; exact rfl) ?_
      simp only [go_sem, seval]
      all_goals ((repeat' refine And.intro ?_ ?_) <;> first | rfl | (simp; done) | (simp; rfl) | (simp [*]; done) | (simp [*]; rfl))
    · try simp only at h
      try simp only at hT
      obtain ⟨rfl, hq⟩ := hT
      refine Wk.now ?_
      refine blockA_ret ?_
      refine thenA_ret ?_
      cases h
      exact hq
end Go.Proofs.Ytdmddoljldjjeaa
set_option linter.unusedVariables false
set_option linter.unusedSimpArgs false
namespace Go.Proofs.Ytdmddoljldjjeaa
open Go Go.Ab
set_option maxHeartbeats 4000000 in
theorem slices_ContainsFunc_int64_con (s_1555 : List Int) (f_1556 : Int → Option (Bool)) (f_1556_k : FuncId) (f_1556_cs : List PV) (f_1556_h : ∀ (y_1557 : Int) (r_1558 : Bool), f_1556 y_1557 = some r_1558 → Con Try.prog f_1556_k ((.int .i64 y_1557) :: f_1556_cs) (.bool r_1558)) (r_1561 : Bool) (h : slices_ContainsFunc_int64 s_1555 f_1556 = some r_1561) : Con Try.prog 59 [(.slc (List.map (PV.int .i64) s_1555)), .func (.func f_1556_k) f_1556_cs] (.bool r_1561) := by
  refine ⟨Try.call59, ?_⟩
  refine pure_of_awp Try.func59 rfl Try.ntmps59 (by simp) fun X w => ?_
  show AWp _ _ _ ⟨[(0, .p (.slc (List.map (PV.int .i64) s_1555))), (1, .p (.func (.func f_1556_k) f_1556_cs))], []⟩
  simp only [slices_ContainsFunc_int64] at h
  refine awp_seq ?_
  refine awp_region ?_
  refine AL_upto (by exact rfl) (by simp only [go_sem, seval]; exact rfl) ?_
  refine AL_nil ?_
  refine thenA_n ?_
  refine awp_seq ?_
  refine awp_region ?_
  refine AL_upto (by exact rfl) (by simp only [go_sem, seval]; exact rfl) ?_
  obtain ⟨r_1559, hr_1560, h⟩ := Option.bind_eq_some_iff.1 h
  refine AL_con' rfl (guard_none rfl) rfl (by simp only [go_sem, seval]; exact rfl) (by simp only [go_sem, seval]; all_goals ((repeat' refine And.intro ?_ ?_) <;> first | rfl | (simp; done) | (simp; rfl) | (simp [*]; done) | (simp [*]; rfl))) (slices_IndexFunc_int64_con s_1555 f_1556 f_1556_k f_1556_cs f_1556_h _ hr_1560) (.inr rfl) rfl ?_
  refine AL_upto (by exact rfl) (by simp only [go_sem, seval]; exact rfl) ?_
  refine AL_nil ?_
  refine thenA_n ?_
  refine awp_ret ?_
  cases h
  refine retQ_ret (by simp only [Try.results59]; simp only [go_sem, seval]; exact rfl) ?_
  simp only [go_sem, seval]
  all_goals ((repeat' refine And.intro ?_ ?_) <;> first | rfl | (simp; done) | (simp; rfl) | (simp [*]; done) | (simp [*]; rfl))
end Go.Proofs.Ytdmddoljldjjeaa
set_option linter.unusedVariables false
set_option linter.unusedSimpArgs false
namespace Go.Proofs.Ytdmddoljldjjeaa
open Go Go.Ab
set_option maxHeartbeats 4000000 in
theorem slices_Index_int64_con (s_1562 : List Int) (v_1563 : Int) (r_1585 : Int) (h : slices_Index_int64 s_1562 v_1563 = some r_1585) : Con Try.prog 82 [(.slc (List.map (PV.int .i64) s_1562)), (.int .i64 v_1563)] (.int .i64 r_1585) := by
  refine ⟨Try.call82, ?_⟩
  refine pure_of_awp Try.func82 rfl Try.ntmps82 (by simp) fun X w => ?_
  show AWp _ _ _ ⟨[(0, .p (.slc (List.map (PV.int .i64) s_1562))), (1, .p (.int .i64 v_1563))], []⟩
  simp only [slices_Index_int64] at h
  refine awp_seq ?_
  refine awp_region ?_
  refine AL_upto (by exact rfl) (by simp only [go_sem, seval]; exact rfl) ?_
  refine AL_nil ?_
  refine thenA_n ?_
  refine awp_seq ?_
  refine awp_seq ?_
  refine awp_region ?_
  refine AL_upto (by exact rfl) (by simp only [go_sem, seval]; exact rfl) ?_
  refine AL_nil ?_
  refine thenA_n ?_
  refine awp_block ?_
  obtain ⟨o_1580, hL_1581, h⟩ := Option.bind_eq_some_iff.1 h
  refine awp_loop_L (fun (s : Int) => ⟨[(0, .p (.slc (List.map (PV.int .i64) s_1562))), (1, .p (.int .i64 v_1563)), (7, .p (.int .i64 (s_1562.length : Int))), (8, .p (.int .i64 s))], []⟩) (fun (o : (Unit) ⊕ (Int)) (e : Exit) (s' : St) => match o with | .inl o_1583 => e = (.exit 0) ∧ Le ⟨Try.prog, Try.f82.ntmps, 0, X, [], fun _ => none, w⟩ s' ⟨[], []⟩ | .inr o_1584 => e = .ret ∧ retQ Try.prog Try.f82 (.int .i64 o_1584) .ret s') (by intro o s hT; rcases o with _ | _ <;> (have hh := hT.1; cases hh)) hL_1581 (by simp only [go_sem, seval]; all_goals ((repeat' refine And.intro ?_ ?_) <;> first | rfl | (simp; done) | (simp; rfl) | (simp [*]; done) | (simp [*]; rfl))) ?_ ?_
  · clear h
    intro t8_1569 x h
    simp only [slices_Index_int64_l1] at h
    show AWp _ _ _ ⟨[(0, .p (.slc (List.map (PV.int .i64) s_1562))), (1, .p (.int .i64 v_1563)), (7, .p (.int .i64 (s_1562.length : Int))), (8, .p (.int .i64 t8_1569))], []⟩
    refine awp_seq ?_
    refine awp_region ?_
    refine AL_upto (by exact rfl) (by simp only [go_sem, seval]; exact rfl) ?_
    refine AL_nil ?_
    refine thenA_n ?_
    refine awp_seq ?_
    by_cases hb_1576 : t8_1569 < (s_1562.length : Int)
    · rw [if_pos hb_1576] at h
      have hb_1576T := eq_true hb_1576
      refine awp_ct (by simp only [go_sem, seval, hb_1576T]) ?_
      refine awp_skip ?_
      refine thenA_n ?_
      refine awp_seq ?_
      refine awp_block ?_
      refine awp_seq ?_
      refine awp_region ?_
      refine AL_upto (by exact rfl) (by simp only [go_sem, seval, hb_1576T]; exact rfl) ?_
      refine AL_nil ?_
      refine thenA_n ?_
      refine awp_seq ?_
      refine awp_region ?_
      obtain ⟨x_1577, hx_1578, h⟩ := Option.bind_eq_some_iff.1 h
      obtain ⟨hx_1578a, hx_1578, hx_1578b⟩ := idx_some hx_1578
      have hx_1578A := eq_true hx_1578a
      have hx_1578B := eq_true hx_1578b
      refine AL_upto (by exact rfl) (by simp only [go_sem, seval, hb_1576T, hx_1578, hx_1578A, hx_1578B]; exact rfl) ?_
      refine AL_nil ?_
      refine thenA_n ?_
      by_cases hb_1579 : (v_1563 == x_1577) = true
      · rw [if_pos hb_1579] at h
        refine awp_ct (by simp only [go_sem, seval, hb_1576T, hb_1579]) ?_
        refine awp_seq ?_
        refine awp_region ?_
        refine AL_upto (by exact rfl) (by simp only [go_sem, seval, hb_1576T, hb_1579]; exact rfl) ?_
        refine AL_nil ?_
        refine thenA_n ?_
        refine awp_ret ?_
        refine blockA_ret ?_
        refine thenA_ret ?_
        cases h
        refine ⟨rfl, ?_⟩
        refine retQ_ret (by simp only [Try.results82]; simp only [go_sem, seval, hb_1576T, hb_1579]; exact rfl) ?_
        simp only [go_sem, seval, hb_1576T, hb_1579]
        all_goals ((repeat' refine And.intro ?_ ?_) <;> first | rfl | (simp; done) | (simp; rfl) | (simp [*]; done) | (simp [*]; rfl))
      · rw [if_neg hb_1579] at h
        have hb_1579F := Bool.eq_false_iff.2 hb_1579
        refine awp_cf (by simp only [go_sem, seval, hb_1576T, hb_1579F]) ?_
        refine awp_skip ?_
        refine blockA_n ?_
        refine thenA_n ?_
        refine awp_region ?_
        refine AL_upto (by exact rfl) (by simp only [go_sem, seval, hb_1576T, hb_1579F]; exact rfl) ?_
        refine AL_nil ?_
        cases h
        refine ⟨rfl, ?_⟩
        simp only [go_sem, seval, hb_1576T, hb_1579F]
        all_goals ((repeat' refine And.intro ?_ ?_) <;> first | rfl | (simp; done) | (simp; rfl) | (simp [*]; done) | (simp [*]; rfl))
    · rw [if_neg hb_1576] at h
      have hb_1576T := eq_false hb_1576
      refine awp_cf (by simp only [go_sem, seval, hb_1576T]) ?_
      refine awp_exit ?_
      refine thenA_exit ?_
      cases h
      refine ⟨rfl, ?_⟩
      simp only [go_sem, seval, hb_1576T]
      all_goals ((repeat' refine And.intro ?_ ?_) <;> first | rfl | (simp; done) | (simp; rfl) | (simp [*]; done) | (simp [*]; rfl))
  · intro e s' hT
    rcases o_1580 with ⟨⟩ | r_1582
    · try simp only at h
      try simp only at hT
      obtain ⟨rfl, hle⟩ := hT
      refine Wk.to hle ?_
      clear hle
      refine blockA_here ?_
      refine thenA_n ?_
      refine awp_seq ?_
      refine awp_region ?_
      refine AL_upto (by exact rfl) (by simp only [go_sem, seval]; exact rfl) ?_
      refine AL_nil ?_
      refine thenA_n ?_
      refine awp_ret ?_
      cases h
      refine retQ_ret (by simp only [Try.results82]; simp only [go_sem, seval]; exact rfl) ?_
      simp only [go_sem, seval]
      all_goals ((repeat' refine And.intro ?_ ?_) <;> first | rfl | (simp; done) | (simp; rfl) | (simp [*]; done) | (simp [*]; rfl))
    · try simp only at h
      try simp only at hT
      obtain ⟨rfl, hq⟩ := hT
      refine Wk.now ?_
      refine blockA_ret ?_
      refine thenA_ret ?_
      cases h
      exact hq
end Go.Proofs.Ytdmddoljldjjeaa
set_option linter.unusedVariables false
set_option linter.unusedSimpArgs false
namespace Go.Proofs.Ytdmddoljldjjeaa
open Go Go.Ab
set_option maxHeartbeats 4000000 in
theorem slices_Contains_int64_con (s_1586 : List Int) (v_1587 : Int) (r_1590 : Bool) (h : slices_Contains_int64 s_1586 v_1587 = some r_1590) : Con Try.prog 61 [(.slc (List.map (PV.int .i64) s_1586)), (.int .i64 v_1587)] (.bool r_1590) := by
  refine ⟨Try.call61, ?_⟩
  refine pure_of_awp Try.func61 rfl Try.ntmps61 (by simp) fun X w => ?_
  show AWp _ _ _ ⟨[(0, .p (.slc (List.map (PV.int .i64) s_1586))), (1, .p (.int .i64 v_1587))], []⟩
  simp only [slices_Contains_int64] at h
  refine awp_seq ?_
  refine awp_region ?_
  refine AL_upto (by exact rfl) (by simp only [go_sem, seval]; exact rfl) ?_
  refine AL_nil ?_
  refine thenA_n ?_
  refine awp_seq ?_
  refine awp_region ?_
  refine AL_upto (by exact rfl) (by simp only [go_sem, seval]; exact rfl) ?_
  obtain ⟨r_1588, hr_1589, h⟩ := Option.bind_eq_some_iff.1 h
  refine AL_con' rfl (guard_none rfl) rfl (by simp only [go_sem, seval]; exact rfl) (by simp only [go_sem, seval]; all_goals ((repeat' refine And.intro ?_ ?_) <;> first | rfl | (simp; done) | (simp; rfl) | (simp [*]; done) | (simp [*]; rfl))) (slices_Index_int64_con s_1586 v_1587 _ hr_1589) (.inr rfl) rfl ?_
  refine AL_upto (by exact rfl) (by simp only [go_sem, seval]; exact rfl) ?_
  refine AL_nil ?_
  refine thenA_n ?_
  refine awp_ret ?_
  cases h
  refine retQ_ret (by simp only [Try.results61]; simp only [go_sem, seval]; exact rfl) ?_
  simp only [go_sem, seval]
  all_goals ((repeat' refine And.intro ?_ ?_) <;> first | rfl | (simp; done) | (simp; rfl) | (simp [*]; done) | (simp [*]; rfl))
end Go.Proofs.Ytdmddoljldjjeaa
set_option linter.unusedVariables false
set_option linter.unusedSimpArgs false
namespace Go.Proofs.Ytdmddoljldjjeaa
open Go Go.Ab
set_option maxHeartbeats 4000000 in
theorem survivor_wellFormed_1_con (id_1591 : Int) (c_1592 : Merged) (c_1593 : Int) (r_1598 : Bool) (h : survivor_wellFormed_1 id_1591 c_1592 c_1593 = some r_1598) : Con Try.prog 60 [(.int .i64 id_1591), .imm [.str c_1592.Table.Name, .slc (List.map PV.str c_1592.Table.Attrs), .slc (List.map encRow c_1592.Table.Rows), .slc (List.map (encL (PV.int .i64)) c_1592.Clusters), .slc (List.map (encL (PV.int .i64)) c_1592.Origins)], .imm [.int .i64 c_1593]] (.bool r_1598) := by
  refine ⟨Try.call60, ?_⟩
  refine pure_of_awp Try.func60 rfl Try.ntmps60 (by simp) fun X w => ?_
  show AWp _ _ _ ⟨[(0, .p (.int .i64 id_1591)), (1, .p (.imm [.str c_1592.Table.Name, .slc (List.map PV.str c_1592.Table.Attrs), .slc (List.map encRow c_1592.Table.Rows), .slc (List.map (encL (PV.int .i64)) c_1592.Clusters), .slc (List.map (encL (PV.int .i64)) c_1592.Origins)])), (2, .p (.imm [.int .i64 c_1593]))], []⟩
  simp only [survivor_wellFormed_1] at h
  refine awp_seq ?_
  refine awp_region ?_
  refine AL_upto (by exact rfl) (by simp only [go_sem, seval]; exact rfl) ?_
  refine AL_nil ?_
  refine thenA_n ?_
  refine awp_seq ?_
  refine awp_region ?_
  obtain ⟨x_1594, hx_1595, h⟩ := Option.bind_eq_some_iff.1 h
  obtain ⟨hx_1595a, hx_1595, hx_1595b⟩ := idx_some hx_1595
  have hx_1595A := eq_true hx_1595a
  have hx_1595B := eq_true hx_1595b
  refine AL_upto (by exact rfl) (by simp only [go_sem, seval, hx_1595, hx_1595A, hx_1595B]; exact rfl) ?_
  obtain ⟨r_1596, hr_1597, h⟩ := Option.bind_eq_some_iff.1 h
  refine AL_con' rfl (guard_none rfl) rfl (by simp only [go_sem, seval]; exact rfl) (by simp only [go_sem, seval]; all_goals ((repeat' refine And.intro ?_ ?_) <;> first | rfl | (simp; done) | (simp; rfl) | (simp [*]; done) | (simp [*]; rfl))) (slices_Contains_int64_con x_1594 id_1591 _ hr_1597) (.inr rfl) rfl ?_
  refine AL_upto (by exact rfl) (by simp only [go_sem, seval]; exact rfl) ?_
  refine AL_nil ?_
  refine thenA_n ?_
  refine awp_ret ?_
  cases h
  refine retQ_ret (by simp only [Try.results60]; simp only [go_sem, seval]; exact rfl) ?_
  simp only [go_sem, seval]
  all_goals ((repeat' refine And.intro ?_ ?_) <;> first | rfl | (simp; done) | (simp; rfl) | (simp [*]; done) | (simp [*]; rfl))
end Go.Proofs.Ytdmddoljldjjeaa
set_option linter.unusedVariables false
set_option linter.unusedSimpArgs false
namespace Go.Proofs.Ytdmddoljldjjeaa
open Go Go.Ab
set_option maxHeartbeats 4000000 in
theorem survivor_wellFormed_con (m_1599 : Merged) (r_1674 : Bool) (h : survivor_wellFormed m_1599 = some r_1674) : Con Try.prog 36 [(encMerged m_1599)] (.bool r_1674) := by
  refine ⟨Try.call36, ?_⟩
  refine pure_of_awp Try.func36 rfl Try.ntmps36 (by simp) fun X w => ?_
  show AWp _ _ _ ⟨[(0, .p (encMerged m_1599))], []⟩
  simp only [survivor_wellFormed] at h
  refine awp_seq ?_
  refine awp_region ?_
  refine AL_upto (by exact rfl) (by simp only [go_sem, seval]; exact rfl) ?_
  refine AL_nil ?_
  refine thenA_n ?_
  refine awp_seq ?_
  refine awp_seq ?_
  refine awp_region ?_
  refine AL_upto (by exact rfl) (by simp only [go_sem, seval]; exact rfl) ?_
  obtain ⟨r_1600, hr_1601, h⟩ := Option.bind_eq_some_iff.1 h
  refine AL_con' rfl (guard_none rfl) rfl (by simp only [go_sem, seval]; exact rfl) (by simp only [go_sem, seval]; all_goals ((repeat' refine And.intro ?_ ?_) <;> first | rfl | (simp; done) | (simp; rfl) | (simp [*]; done) | (simp [*]; rfl))) (table_Valid_con m_1599.Table _ hr_1601) (.inr rfl) rfl ?_
  refine AL_upto (by exact rfl) (by simp only [go_sem, seval]; exact rfl) ?_
  by_cases hb_1602 : (r_1600 != 0) = true
  · rw [if_pos hb_1602] at h
    refine AL_known (d := 11) (v := .p (.bool true)) (by simp only [go_sem, seval, hb_1602]) ?_
    refine AL_skips (by exact rfl) ?_
    refine AL_upto (by exact rfl) (by simp only [go_sem, seval, hb_1602]; exact rfl) ?_
    refine AL_skips (by exact rfl) ?_
    refine AL_upto (by exact rfl) (by simp only [go_sem, seval, hb_1602]; exact rfl) ?_
    refine AL_nil ?_
    refine thenA_n ?_
    refine awp_ct (by simp only [go_sem, seval, hb_1602]) ?_
    refine awp_seq ?_
    refine awp_region ?_
    refine AL_upto (by exact rfl) (by simp only [go_sem, seval, hb_1602]; exact rfl) ?_
    refine AL_nil ?_
    refine thenA_n ?_
    refine awp_ret ?_
    refine thenA_ret ?_
    cases h
    refine retQ_ret (by simp only [Try.results36]; simp only [go_sem, seval, hb_1602]; exact rfl) ?_
    simp only [go_sem, seval, hb_1602]
    all_goals ((repeat' refine And.intro ?_ ?_) <;> first | rfl | (simp; done) | (simp; rfl) | (simp [*]; done) | (simp [*]; rfl))
  · rw [if_neg hb_1602] at h
    have hb_1602F := Bool.eq_false_iff.2 hb_1602
    refine AL_known (d := 11) (v := .p (.bool false)) (by simp only [go_sem, seval, hb_1602F]) ?_
    refine AL_gt' (guard_true' rfl rfl (by exact rfl) (by exact rfl)) rfl (by simp only [go_sem, seval, hb_1602F]; exact rfl) ?_
    refine AL_gt' (guard_true' rfl rfl (by exact rfl) (by exact rfl)) rfl (by simp only [go_sem, seval, hb_1602F]; exact rfl) ?_
    refine AL_gt' (guard_true' rfl rfl (by exact rfl) (by exact rfl)) rfl (by simp only [go_sem, seval, hb_1602F]; exact rfl) ?_
    refine AL_gt' (guard_true' rfl rfl (by exact rfl) (by exact rfl)) rfl (by simp only [go_sem, seval, hb_1602F]; exact rfl) ?_
    refine AL_gt' (guard_true' rfl rfl (by exact rfl) (by exact rfl)) rfl (by simp only [go_sem, seval, hb_1602F]; exact rfl) ?_
    refine AL_gt' (guard_true' rfl rfl (by exact rfl) (by exact rfl)) rfl (by simp only [go_sem, seval, hb_1602F]; exact rfl) ?_
    refine AL_gt' (guard_true' rfl rfl (by exact rfl) (by exact rfl)) rfl (by simp only [go_sem, seval, hb_1602F]; exact rfl) ?_
    refine AL_gt' (guard_true' rfl rfl (by exact rfl) (by exact rfl)) rfl (by simp only [go_sem, seval, hb_1602F]; exact rfl) ?_
    refine AL_upto (by exact rfl) (by simp only [go_sem, seval, hb_1602F]; exact rfl) ?_
    by_cases hb_1603 : ((m_1599.Clusters.length : Int) != (m_1599.Table.Rows.length : Int)) = true
    · rw [if_pos hb_1603] at h
      refine AL_known (d := 21) (v := .p (.bool true)) (by simp only [go_sem, seval, hb_1602F, hb_1603]) ?_
      refine AL_skips (by exact rfl) ?_
      refine AL_upto (by exact rfl) (by simp only [go_sem, seval, hb_1602F, hb_1603]; exact rfl) ?_
      refine AL_nil ?_
      refine thenA_n ?_
      refine awp_ct (by simp only [go_sem, seval, hb_1602F, hb_1603]) ?_
      refine awp_seq ?_
      refine awp_region ?_
      refine AL_upto (by exact rfl) (by simp only [go_sem, seval, hb_1602F, hb_1603]; exact rfl) ?_
      refine AL_nil ?_
      refine thenA_n ?_
      refine awp_ret ?_
      refine thenA_ret ?_
      cases h
      refine retQ_ret (by simp only [Try.results36]; simp only [go_sem, seval, hb_1602F, hb_1603]; exact rfl) ?_
      simp only [go_sem, seval, hb_1602F, hb_1603]
      all_goals ((repeat' refine And.intro ?_ ?_) <;> first | rfl | (simp; done) | (simp; rfl) | (simp [*]; done) | (simp [*]; rfl))
    · rw [if_neg hb_1603] at h
      have hb_1603F := Bool.eq_false_iff.2 hb_1603
      refine AL_known (d := 21) (v := .p (.bool false)) (by simp only [go_sem, seval, hb_1602F, hb_1603F]) ?_
      refine AL_gt' (guard_true' rfl rfl (by exact rfl) (by exact rfl)) rfl (by simp only [go_sem, seval, hb_1602F, hb_1603F]; exact rfl) ?_
      refine AL_gt' (guard_true' rfl rfl (by exact rfl) (by exact rfl)) rfl (by simp only [go_sem, seval, hb_1602F, hb_1603F]; exact rfl) ?_
      refine AL_gt' (guard_true' rfl rfl (by exact rfl) (by exact rfl)) rfl (by simp only [go_sem, seval, hb_1602F, hb_1603F]; exact rfl) ?_
      refine AL_gt' (guard_true' rfl rfl (by exact rfl) (by exact rfl)) rfl (by simp only [go_sem, seval, hb_1602F, hb_1603F]; exact rfl) ?_
      refine AL_gt' (guard_true' rfl rfl (by exact rfl) (by exact rfl)) rfl (by simp only [go_sem, seval, hb_1602F, hb_1603F]; exact rfl) ?_
      refine AL_gt' (guard_true' rfl rfl (by exact rfl) (by exact rfl)) rfl (by simp only [go_sem, seval, hb_1602F, hb_1603F]; exact rfl) ?_
      refine AL_gt' (guard_true' rfl rfl (by exact rfl) (by exact rfl)) rfl (by simp only [go_sem, seval, hb_1602F, hb_1603F]; exact rfl) ?_
      refine AL_gt' (guard_true' rfl rfl (by exact rfl) (by exact rfl)) rfl (by simp only [go_sem, seval, hb_1602F, hb_1603F]; exact rfl) ?_
      refine AL_upto (by exact rfl) (by simp only [go_sem, seval, hb_1602F, hb_1603F]; exact rfl) ?_
      refine AL_nil ?_
      refine thenA_n ?_
      by_cases hb_1604 : ((m_1599.Origins.length : Int) != (m_1599.Table.Rows.length : Int)) = true
      · rw [if_pos hb_1604] at h
        refine awp_ct (by simp only [go_sem, seval, hb_1602F, hb_1603F, hb_1604]) ?_
        refine awp_seq ?_
        refine awp_region ?_
        refine AL_upto (by exact rfl) (by simp only [go_sem, seval, hb_1602F, hb_1603F, hb_1604]; exact rfl) ?_
        refine AL_nil ?_
        refine thenA_n ?_
        refine awp_ret ?_
        refine thenA_ret ?_
        cases h
        refine retQ_ret (by simp only [Try.results36]; simp only [go_sem, seval, hb_1602F, hb_1603F, hb_1604]; exact rfl) ?_
        simp only [go_sem, seval, hb_1602F, hb_1603F, hb_1604]
        all_goals ((repeat' refine And.intro ?_ ?_) <;> first | rfl | (simp; done) | (simp; rfl) | (simp [*]; done) | (simp [*]; rfl))
      · rw [if_neg hb_1604] at h
        have hb_1604F := Bool.eq_false_iff.2 hb_1604
        refine awp_cf (by simp only [go_sem, seval, hb_1602F, hb_1603F, hb_1604F]) ?_
        refine awp_skip ?_
        refine thenA_n ?_
        refine awp_seq ?_
        refine awp_seq ?_
        refine awp_region ?_
        refine AL_upto (by exact rfl) (by simp only [go_sem, seval, hb_1602F, hb_1603F, hb_1604F]; exact rfl) ?_
        obtain ⟨r_1605, hr_1606, h⟩ := Option.bind_eq_some_iff.1 h
        refine AL_con' rfl (guard_none rfl) rfl (by simp only [go_sem, seval, hb_1602F, hb_1603F, hb_1604F]; exact rfl) (by simp only [go_sem, seval, hb_1602F, hb_1603F, hb_1604F]; all_goals ((repeat' refine And.intro ?_ ?_) <;> first | rfl | (simp; done) | (simp; rfl) | (simp [*]; done) | (simp [*]; rfl))) (survivor_disjoint_con m_1599.Clusters _ hr_1606) (by first | exact .inl rfl | exact .inl (by simp only [go_sem])) rfl ?_
        refine AL_upto (by exact rfl) (by simp only [go_sem, seval, hb_1602F, hb_1603F, hb_1604F]; exact rfl) ?_
        refine AL_nil ?_
        refine thenA_n ?_
        refine awp_seq ?_
        refine awp_region ?_
        refine AL_upto (by exact rfl) (by simp only [go_sem, seval, hb_1602F, hb_1603F, hb_1604F]; exact rfl) ?_
        refine AL_nil ?_
        refine thenA_n ?_
        by_cases hb_1607 : r_1605.2 = true
        · rw [if_pos hb_1607] at h
          refine awp_cf (by simp only [go_sem, seval, hb_1602F, hb_1603F, hb_1604F, hb_1607]) ?_
          refine awp_skip ?_
          refine thenA_n ?_
          refine awp_seq ?_
          refine awp_seq ?_
          refine awp_region ?_
          refine AL_upto (by exact rfl) (by simp only [go_sem, seval, hb_1602F, hb_1603F, hb_1604F, hb_1607]; exact rfl) ?_
          refine AL_nil ?_
          refine thenA_n ?_
          refine awp_block ?_
          obtain ⟨o_1669, hL_1670, h⟩ := Option.bind_eq_some_iff.1 h
          refine awp_loop_L (fun (s : Int) => ⟨[(1, .loc 1 1 0 0), (41, .p (.slc (List.map encRow m_1599.Table.Rows))), (42, .p (.int .i64 (m_1599.Table.Rows.length : Int))), (43, .p (.int .i64 s))], [(1, .arr 55 5 1 [.p (encMerged m_1599)])]⟩) (fun (o : (Unit) ⊕ (Bool)) (e : Exit) (s' : St) => match o with | .inl o_1672 => e = (.exit 0) ∧ Le ⟨Try.prog, Try.f36.ntmps, 0, X, [], fun _ => none, w⟩ s' ⟨[], []⟩ | .inr o_1673 => e = .ret ∧ retQ Try.prog Try.f36 (.bool o_1673) .ret s') (by intro o s hT; rcases o with _ | _ <;> (have hh := hT.1; cases hh)) hL_1670 (by simp only [go_sem, seval, hb_1602F, hb_1603F, hb_1604F, hb_1607]; all_goals ((repeat' refine And.intro ?_ ?_) <;> first | rfl | (simp; done) | (simp; rfl) | (simp [*]; done) | (simp [*]; rfl))) ?_ ?_
          · clear h
            intro t43_1628 x h
            simp only [survivor_wellFormed_l1] at h
            show AWp _ _ _ ⟨[(1, .loc 1 1 0 0), (41, .p (.slc (List.map encRow m_1599.Table.Rows))), (42, .p (.int .i64 (m_1599.Table.Rows.length : Int))), (43, .p (.int .i64 t43_1628))], [(1, .arr 55 5 1 [.p (encMerged m_1599)])]⟩
            refine awp_seq ?_
            refine awp_region ?_
            refine AL_upto (by exact rfl) (by simp only [go_sem, seval]; exact rfl) ?_
            refine AL_nil ?_
            refine thenA_n ?_
            refine awp_seq ?_
            by_cases hb_1650 : t43_1628 < (m_1599.Table.Rows.length : Int)
            · rw [if_pos hb_1650] at h
              have hb_1650T := eq_true hb_1650
              refine awp_ct (by simp only [go_sem, seval, hb_1650T]) ?_
              refine awp_skip ?_
              refine thenA_n ?_
              refine awp_seq ?_
              refine awp_block ?_
              refine awp_seq ?_
              refine awp_region ?_
              obtain ⟨x_1653, hx_1654, h⟩ := Option.bind_eq_some_iff.1 h
              obtain ⟨hx_1654a, hx_1654, hx_1654b⟩ := idx_some hx_1654
              have hx_1654A := eq_true hx_1654a
              have hx_1654B := eq_true hx_1654b
              refine AL_upto (by exact rfl) (by simp only [go_sem, seval, hb_1650T, hx_1654, hx_1654A, hx_1654B]; exact rfl) ?_
              refine AL_nil ?_
              refine thenA_n ?_
              refine awp_seq ?_
              refine awp_drawn_walk mixed (by decide) ?_
              obtain ⟨x_1655, hx_1656, h⟩ := Option.bind_eq_some_iff.1 h
              obtain ⟨hx_1656a, hx_1656, hx_1656b⟩ := idx_some hx_1656
              have hx_1656A := eq_true hx_1656a
              have hx_1656B := eq_true hx_1656b
              obtain ⟨x_1657, hx_1658, h⟩ := Option.bind_eq_some_iff.1 h
              have hx_1658l := eq_true (lt_of_get hx_1658)
              have hx_1658L : ((0 : Int) < (x_1655.length : Int)) = True := eq_true (by have := lt_of_get hx_1658; omega)
              refine DGo.upto (by exact rfl) (by simp only [go_sem, seval, hb_1650T, hx_1656, hx_1656A, hx_1656B, hx_1658, hx_1658l, hx_1658L]; exact ⟨rfl, rfl⟩) ?_
              by_cases hb_1659 : (x_1653.ID != x_1657) = true
              · rw [if_pos hb_1659] at h
                refine DGo.known' (d := 58) (v := .p (.bool true)) (by simp only [go_sem, seval, hb_1650T, hb_1659]) ?_
                refine DGo.skips (by exact rfl) ?_
                refine DGo.upto (by exact rfl) (by simp only [go_sem, seval, hb_1650T, hb_1659]; exact ⟨rfl, rfl⟩) ?_
                refine DGo.skips (by exact rfl) ?_
                refine DGo.upto (by exact rfl) (by simp only [go_sem, seval, hb_1650T, hb_1659]; exact ⟨rfl, rfl⟩) ?_
                refine DGo.fin rfl ?_
                refine thenA_n ?_
                refine awp_ct (by simp only [go_sem, seval, hb_1650T, hb_1659]) ?_
                refine awp_seq ?_
                refine awp_region ?_
                refine AL_upto (by exact rfl) (by simp only [go_sem, seval, hb_1650T, hb_1659]; exact rfl) ?_
                refine AL_nil ?_
                refine thenA_n ?_
                refine awp_ret ?_
                refine blockA_ret ?_
                refine thenA_ret ?_
                cases h
                refine ⟨rfl, ?_⟩
                refine retQ_ret (by simp only [Try.results36]; simp only [go_sem, seval, hb_1650T, hb_1659]; exact rfl) ?_
                simp only [go_sem, seval, hb_1650T, hb_1659]
                all_goals ((repeat' refine And.intro ?_ ?_) <;> first | rfl | (simp; done) | (simp; rfl) | (simp [*]; done) | (simp [*]; rfl))
              · rw [if_neg hb_1659] at h
                have hb_1659F := Bool.eq_false_iff.2 hb_1659
                refine DGo.known' (d := 58) (v := .p (.bool false)) (by simp only [go_sem, seval, hb_1650T, hb_1659F]) ?_
                refine DGo.gt' (guard_true' rfl rfl (by exact rfl) (by exact rfl)) rfl (by simp only [go_sem, seval, hb_1650T, hb_1659F]; exact ⟨rfl, rfl⟩) ?_
                refine DGo.gt' (guard_true' rfl rfl (by exact rfl) (by exact rfl)) rfl (by simp only [go_sem, seval, hb_1650T, hb_1659F]; exact ⟨rfl, rfl⟩) ?_
                refine DGo.gt' (guard_true' rfl rfl (by exact rfl) (by exact rfl)) rfl (by simp only [go_sem, seval, hb_1650T, hb_1659F]; exact ⟨rfl, rfl⟩) ?_
                obtain ⟨x_1662, hx_1663, h⟩ := Option.bind_eq_some_iff.1 h
                obtain ⟨hx_1663a, hx_1663, hx_1663b⟩ := idx_some hx_1663
                have hx_1663A := eq_true hx_1663a
                have hx_1663B := eq_true hx_1663b
                refine DGo.gt' (guard_true' rfl rfl (by exact rfl) (by exact rfl)) rfl (by simp only [go_sem, seval, hb_1650T, hb_1659F, hx_1663, hx_1663A, hx_1663B]; exact ⟨rfl, rfl⟩) ?_
                refine DGo.gt' (guard_true' rfl rfl (by exact rfl) (by exact rfl)) rfl (by simp only [go_sem, seval, hb_1650T, hb_1659F]; exact ⟨rfl, rfl⟩) ?_
                refine DGo.gt' (guard_true' rfl rfl (by exact rfl) (by exact rfl)) rfl (by simp only [go_sem, seval, hb_1650T, hb_1659F]; exact ⟨rfl, rfl⟩) ?_
                refine DGo.gt' (guard_true' rfl rfl (by exact rfl) (by exact rfl)) rfl (by simp only [go_sem, seval, hb_1650T, hb_1659F]; exact ⟨rfl, rfl⟩) ?_
                refine DGo.gt' (guard_true' rfl rfl (by exact rfl) (by exact rfl)) rfl (by simp only [go_sem, seval, hb_1650T, hb_1659F]; exact ⟨rfl, rfl⟩) ?_
                refine DGo.gt' (guard_true' rfl rfl (by exact rfl) (by exact rfl)) rfl (by simp only [go_sem, seval, hb_1650T, hb_1659F]; exact ⟨rfl, rfl⟩) ?_
                refine DGo.gt' (guard_true' rfl rfl (by exact rfl) (by exact rfl)) rfl (by simp only [go_sem, seval, hb_1650T, hb_1659F]; exact ⟨rfl, rfl⟩) ?_
                refine DGo.gt' (guard_true' rfl rfl (by exact rfl) (by exact rfl)) rfl (by simp only [go_sem, seval, hb_1650T, hb_1659F]; exact ⟨rfl, rfl⟩) ?_
                refine DGo.upto (by exact rfl) (by simp only [go_sem, seval, hb_1650T, hb_1659F]; exact ⟨rfl, rfl⟩) ?_
                by_cases hb_1664 : ((x_1662.length : Int) != (m_1599.Table.Attrs.length : Int)) = true
                · rw [if_pos hb_1664] at h
                  refine DGo.known' (d := 71) (v := .p (.bool true)) (by simp only [go_sem, seval, hb_1650T, hb_1659F, hb_1664]) ?_
                  refine DGo.skips (by exact rfl) ?_
                  refine DGo.upto (by exact rfl) (by simp only [go_sem, seval, hb_1650T, hb_1659F, hb_1664]; exact ⟨rfl, rfl⟩) ?_
                  refine DGo.fin rfl ?_
                  refine thenA_n ?_
                  refine awp_ct (by simp only [go_sem, seval, hb_1650T, hb_1659F, hb_1664]) ?_
                  refine awp_seq ?_
                  refine awp_region ?_
                  refine AL_upto (by exact rfl) (by simp only [go_sem, seval, hb_1650T, hb_1659F, hb_1664]; exact rfl) ?_
                  refine AL_nil ?_
                  refine thenA_n ?_
                  refine awp_ret ?_
                  refine blockA_ret ?_
                  refine thenA_ret ?_
                  cases h
                  refine ⟨rfl, ?_⟩
                  refine retQ_ret (by simp only [Try.results36]; simp only [go_sem, seval, hb_1650T, hb_1659F, hb_1664]; exact rfl) ?_
                  simp only [go_sem, seval, hb_1650T, hb_1659F, hb_1664]
                  all_goals ((repeat' refine And.intro ?_ ?_) <;> first | rfl | (simp; done) | (simp; rfl) | (simp [*]; done) | (simp [*]; rfl))
                · rw [if_neg hb_1664] at h
                  have hb_1664F := Bool.eq_false_iff.2 hb_1664
                  refine DGo.known' (d := 71) (v := .p (.bool false)) (by simp only [go_sem, seval, hb_1650T, hb_1659F, hb_1664F]) ?_
                  refine DGo.gt' (guard_true' rfl rfl (by exact rfl) (by exact rfl)) rfl (by simp only [go_sem, seval, hb_1650T, hb_1659F, hb_1664F]; exact ⟨rfl, rfl⟩) ?_
                  refine DGo.gt' (guard_true' rfl rfl (by exact rfl) (by exact rfl)) rfl (by simp only [go_sem, seval, hb_1650T, hb_1659F, hb_1664F]; exact ⟨rfl, rfl⟩) ?_
                  refine DGo.gt' (guard_true' rfl rfl (by exact rfl) (by exact rfl)) rfl (by simp only [go_sem, seval, hb_1650T, hb_1659F, hb_1664F]; exact ⟨rfl, rfl⟩) ?_
                  refine DGo.gt' (guard_true' rfl rfl (by exact rfl) (by exact rfl)) rfl (by simp only [go_sem, seval, hb_1650T, hb_1659F, hb_1664F, hx_1663, hx_1663A, hx_1663B]; exact ⟨rfl, rfl⟩) ?_
                  refine DGo.gt' (guard_true' rfl rfl (by exact rfl) (by exact rfl)) rfl (by simp only [go_sem, seval, hb_1650T, hb_1659F, hb_1664F]; exact ⟨rfl, rfl⟩) ?_
                  refine DGo.gt' (guard_true' rfl rfl (by exact rfl) (by exact rfl)) rfl (by simp only [go_sem, seval, hb_1650T, hb_1659F, hb_1664F]; exact ⟨rfl, rfl⟩) ?_
                  obtain ⟨r_1666, hr_1667, h⟩ := Option.bind_eq_some_iff.1 h
                  refine DGo.con' rfl (guard_true' rfl rfl (by exact rfl) (by exact rfl)) rfl (by simp only [go_sem, seval, hb_1650T, hb_1659F, hb_1664F]; exact rfl) (by simp only [go_sem, seval, hb_1650T, hb_1659F, hb_1664F]; all_goals ((repeat' refine And.intro ?_ ?_) <;> first | rfl | (simp; done) | (simp; rfl) | (simp [*]; done) | (simp [*]; rfl))) (by simp only [go_sem, seval, hb_1650T, hb_1659F, hb_1664F]; exact rfl) (slices_ContainsFunc_int64_con x_1662 (fun (y_1665 : Int) => survivor_wellFormed_1 y_1665 m_1599 t43_1628) 60 [.imm [.str m_1599.Table.Name, .slc (List.map PV.str m_1599.Table.Attrs), .slc (List.map encRow m_1599.Table.Rows), .slc (List.map (encL (PV.int .i64)) m_1599.Clusters), .slc (List.map (encL (PV.int .i64)) m_1599.Origins)], .imm [.int .i64 t43_1628]] (fun y_1665 r h => survivor_wellFormed_1_con y_1665 m_1599 t43_1628 r h) _ hr_1667) (.inr rfl) rfl ?_
                  refine DGo.upto (by exact rfl) (by simp only [go_sem, seval, hb_1650T, hb_1659F, hb_1664F]; exact ⟨rfl, rfl⟩) ?_
                  refine DGo.fin rfl ?_
                  refine thenA_n ?_
                  by_cases hb_1668 : r_1666 = true
                  · rw [if_pos hb_1668] at h
                    refine awp_ct (by simp only [go_sem, seval, hb_1650T, hb_1659F, hb_1664F, hb_1668]) ?_
                    refine awp_seq ?_
                    refine awp_region ?_
                    refine AL_upto (by exact rfl) (by simp only [go_sem, seval, hb_1650T, hb_1659F, hb_1664F, hb_1668]; exact rfl) ?_
                    refine AL_nil ?_
                    refine thenA_n ?_
                    refine awp_ret ?_
                    refine blockA_ret ?_
                    refine thenA_ret ?_
                    cases h
                    refine ⟨rfl, ?_⟩
                    refine retQ_ret (by simp only [Try.results36]; simp only [go_sem, seval, hb_1650T, hb_1659F, hb_1664F, hb_1668]; exact rfl) ?_
                    simp only [go_sem, seval, hb_1650T, hb_1659F, hb_1664F, hb_1668]
                    all_goals ((repeat' refine And.intro ?_ ?_) <;> first | rfl | (simp; done) | (simp; rfl) | (simp [*]; done) | (simp [*]; rfl))
                  · rw [if_neg hb_1668] at h
                    have hb_1668F := Bool.eq_false_iff.2 hb_1668
                    refine awp_cf (by simp only [go_sem, seval, hb_1650T, hb_1659F, hb_1664F, hb_1668F]) ?_
                    refine awp_skip ?_
                    refine blockA_n ?_
                    refine thenA_n ?_
                    refine awp_region ?_
                    refine AL_upto (by exact rfl) (by simp only [go_sem, seval, hb_1650T, hb_1659F, hb_1664F, hb_1668F]; exact rfl) ?_
                    refine AL_nil ?_
                    cases h
                    refine ⟨rfl, ?_⟩
                    simp only [go_sem, seval, hb_1650T, hb_1659F, hb_1664F, hb_1668F]
                    all_goals ((repeat' refine And.intro ?_ ?_) <;> first | rfl | (simp; done) | (simp; rfl) | (simp [*]; done) | (simp [*]; rfl))
            · rw [if_neg hb_1650] at h
              have hb_1650T := eq_false hb_1650
              refine awp_cf (by simp only [go_sem, seval, hb_1650T]) ?_
              refine awp_exit ?_
              refine thenA_exit ?_
              cases h
              refine ⟨rfl, ?_⟩
              simp only [go_sem, seval, hb_1650T]
              all_goals ((repeat' refine And.intro ?_ ?_) <;> first | rfl | (simp; done) | (simp; rfl) | (simp [*]; done) | (simp [*]; rfl))
          · intro e s' hT
            rcases o_1669 with ⟨⟩ | r_1671
            · try simp only at h
              try simp only at hT
              obtain ⟨rfl, hle⟩ := hT
              refine Wk.to hle ?_
              clear hle
              refine blockA_here ?_
              refine thenA_n ?_
              refine awp_seq ?_
              refine awp_region ?_
              refine AL_upto (by exact rfl) (by simp only [go_sem, seval, hb_1602F, hb_1603F, hb_1604F, hb_1607]; exact rfl) ?_
              refine AL_nil ?_
              refine thenA_n ?_
              refine awp_ret ?_
              cases h
              refine retQ_ret (by simp only [Try.results36]; simp only [go_sem, seval, hb_1602F, hb_1603F, hb_1604F, hb_1607]; exact rfl) ?_
              simp only [go_sem, seval, hb_1602F, hb_1603F, hb_1604F, hb_1607]
              all_goals ((repeat' refine And.intro ?_ ?_) <;> first | rfl | (simp; done) | (simp; rfl) | (simp [*]; done) | (simp [*]; rfl))
            · try simp only at h
              try simp only at hT
              obtain ⟨rfl, hq⟩ := hT
              refine Wk.now ?_
              refine blockA_ret ?_
              refine thenA_ret ?_
              cases h
              exact hq
        · rw [if_neg hb_1607] at h
          have hb_1607F := Bool.eq_false_iff.2 hb_1607
          refine awp_ct (by simp only [go_sem, seval, hb_1602F, hb_1603F, hb_1604F, hb_1607F]) ?_
          refine awp_seq ?_
          refine awp_region ?_
          refine AL_upto (by exact rfl) (by simp only [go_sem, seval, hb_1602F, hb_1603F, hb_1604F, hb_1607F]; exact rfl) ?_
          refine AL_nil ?_
          refine thenA_n ?_
          refine awp_ret ?_
          refine thenA_ret ?_
          cases h
          refine retQ_ret (by simp only [Try.results36]; simp only [go_sem, seval, hb_1602F, hb_1603F, hb_1604F, hb_1607F]; exact rfl) ?_
          simp only [go_sem, seval, hb_1602F, hb_1603F, hb_1604F, hb_1607F]
          all_goals ((repeat' refine And.intro ?_ ?_) <;> first | rfl | (simp; done) | (simp; rfl) | (simp [*]; done) | (simp [*]; rfl))
end Go.Proofs.Ytdmddoljldjjeaa
set_option linter.unusedVariables false
set_option linter.unusedSimpArgs false
namespace Go.Proofs.Ytdmddoljldjjeaa
open Go Go.Ab
set_option maxHeartbeats 4000000 in
theorem table_Find_1_con (r_1675 : Row) (c_1676 : Int) (r_1677 : Bool) (h : table_Find_1 r_1675 c_1676 = some r_1677) : Con Try.prog 62 [(encRow r_1675), .imm [.int .i64 c_1676]] (.bool r_1677) := by
  refine ⟨Try.call62, ?_⟩
  refine pure_of_awp Try.func62 rfl Try.ntmps62 (by simp) fun X w => ?_
  show AWp _ _ _ ⟨[(0, .p (encRow r_1675)), (1, .p (.imm [.int .i64 c_1676]))], []⟩
  simp only [table_Find_1] at h
  refine awp_seq ?_
  refine awp_region ?_
  refine AL_upto (by exact rfl) (by simp only [go_sem, seval]; exact rfl) ?_
  refine AL_nil ?_
  refine thenA_n ?_
  refine awp_seq ?_
  refine awp_region ?_
  refine AL_upto (by exact rfl) (by simp only [go_sem, seval]; exact rfl) ?_
  refine AL_nil ?_
  refine thenA_n ?_
  refine awp_ret ?_
  cases h
  refine retQ_ret (by simp only [Try.results62]; simp only [go_sem, seval]; exact rfl) ?_
  simp only [go_sem, seval]
  all_goals ((repeat' refine And.intro ?_ ?_) <;> first | rfl | (simp; done) | (simp; rfl) | (simp [*]; done) | (simp [*]; rfl))
end Go.Proofs.Ytdmddoljldjjeaa
set_option linter.unusedVariables false
set_option linter.unusedSimpArgs false
namespace Go.Proofs.Ytdmddoljldjjeaa
open Go Go.Ab
set_option maxHeartbeats 4000000 in
theorem table_Find_con (t_1678 : Table) (id_1679 : Int) (r_1686 : Int × Bool) (h : table_Find t_1678 id_1679 = some r_1686) : Con Try.prog 37 [(encTable t_1678), (.int .i64 id_1679)] (.tup [(.int .i64 r_1686.1), (.bool r_1686.2)]) := by
  refine ⟨Try.call37, ?_⟩
  refine pure_of_awp Try.func37 rfl Try.ntmps37 (by simp) fun X w => ?_
  show AWp _ _ _ ⟨[(0, .p (encTable t_1678)), (1, .p (.int .i64 id_1679))], []⟩
  simp only [table_Find] at h
  refine awp_seq ?_
  refine awp_region ?_
  refine AL_upto (by exact rfl) (by simp only [go_sem, seval]; exact rfl) ?_
  refine AL_nil ?_
  refine thenA_n ?_
  refine awp_seq ?_
  refine awp_region ?_
  refine AL_upto (by exact rfl) (by simp only [go_sem, seval]; exact rfl) ?_
  obtain ⟨r_1684, hr_1685, h⟩ := Option.bind_eq_some_iff.1 h
  refine AL_con' rfl (guard_none rfl) rfl (by simp only [go_sem, seval]; exact rfl) (by simp only [go_sem, seval]; all_goals ((repeat' refine And.intro ?_ ?_) <;> first | rfl | (simp; done) | (simp; rfl) | (simp [*]; done) | (simp [*]; rfl))) (slices_IndexFunc_Row_con t_1678.Rows (fun (y_1683 : Row) => table_Find_1 y_1683 id_1679) 62 [.imm [.int .i64 id_1679]] (fun y_1683 r h => table_Find_1_con y_1683 id_1679 r h) _ hr_1685) (.inr rfl) rfl ?_
  refine AL_upto (by exact rfl) (by simp only [go_sem, seval]; exact rfl) ?_
  refine AL_nil ?_
  refine thenA_n ?_
  refine awp_seq ?_
  refine awp_region ?_
  refine AL_upto (by exact rfl) (by simp only [go_sem, seval]; exact rfl) ?_
  refine AL_nil ?_
  refine thenA_n ?_
  refine awp_ret ?_
  cases h
  refine retQ_ret (by simp only [Try.results37]; simp only [go_sem, seval]; exact rfl) ?_
  simp only [go_sem, seval]
  all_goals ((repeat' refine And.intro ?_ ?_) <;> first | rfl | (simp; done) | (simp; rfl) | (simp [*]; done) | (simp [*]; rfl))
end Go.Proofs.Ytdmddoljldjjeaa
set_option linter.unusedVariables false
set_option linter.unusedSimpArgs false
namespace Go.Proofs.Ytdmddoljldjjeaa
open Go Go.Ab
set_option maxHeartbeats 4000000 in
theorem survivor_Source_con (m_1687 : Merged) (c_1688 : CellRef) (r_1706 : CellRef × Int) (h : survivor_Source m_1687 c_1688 = some r_1706) : Con Try.prog 17 [(encMerged m_1687), (encCellRef c_1688)] (.tup [(encCellRef r_1706.1), (.int .i64 r_1706.2)]) := by
  refine ⟨Try.call17, ?_⟩
  refine pure_of_awp Try.func17 rfl Try.ntmps17 (by simp) fun X w => ?_
  show AWp _ _ _ ⟨[(0, .p (encMerged m_1687)), (1, .p (encCellRef c_1688))], []⟩
  simp only [survivor_Source] at h
  refine awp_seq ?_
  refine awp_region ?_
  refine AL_upto (by exact rfl) (by simp only [go_sem, seval]; exact rfl) ?_
  refine AL_nil ?_
  refine thenA_n ?_
  refine awp_seq ?_
  refine awp_seq ?_
  refine awp_region ?_
  refine AL_upto (by exact rfl) (by simp only [go_sem, seval]; exact rfl) ?_
  obtain ⟨r_1689, hr_1690, h⟩ := Option.bind_eq_some_iff.1 h
  refine AL_con' rfl (guard_none rfl) rfl (by simp only [go_sem, seval]; exact rfl) (by simp only [go_sem, seval]; all_goals ((repeat' refine And.intro ?_ ?_) <;> first | rfl | (simp; done) | (simp; rfl) | (simp [*]; done) | (simp [*]; rfl))) (survivor_wellFormed_con m_1687 _ hr_1690) (.inr rfl) rfl ?_
  refine AL_upto (by exact rfl) (by simp only [go_sem, seval]; exact rfl) ?_
  refine AL_nil ?_
  refine thenA_n ?_
  by_cases hb_1691 : r_1689 = true
  · rw [if_pos hb_1691] at h
    refine awp_cf (by simp only [go_sem, seval, hb_1691]) ?_
    refine awp_skip ?_
    refine thenA_n ?_
    refine awp_seq ?_
    refine awp_region ?_
    refine AL_upto (by exact rfl) (by simp only [go_sem, seval, hb_1691]; exact rfl) ?_
    obtain ⟨r_1694, hr_1695, h⟩ := Option.bind_eq_some_iff.1 h
    refine AL_con' rfl (guard_none rfl) rfl (by simp only [go_sem, seval, hb_1691]; exact rfl) (by simp only [go_sem, seval, hb_1691]; all_goals ((repeat' refine And.intro ?_ ?_) <;> first | rfl | (simp; done) | (simp; rfl) | (simp [*]; done) | (simp [*]; rfl))) (table_Find_con m_1687.Table c_1688.ID _ hr_1695) (.inr rfl) rfl ?_
    refine AL_upto (by exact rfl) (by simp only [go_sem, seval, hb_1691]; exact rfl) ?_
    refine AL_nil ?_
    refine thenA_n ?_
    refine awp_seq ?_
    refine awp_block ?_
    refine awp_seq ?_
    refine awp_region ?_
    refine AL_upto (by exact rfl) (by simp only [go_sem, seval, hb_1691]; exact rfl) ?_
    refine AL_nil ?_
    refine thenA_n ?_
    by_cases hb_1699 : r_1694.2 = true
    · rw [if_pos hb_1699] at h
      refine awp_cf (by simp only [go_sem, seval, hb_1691, hb_1699]) ?_
      refine awp_seq ?_
      refine awp_region ?_
      refine AL_upto (by exact rfl) (by simp only [go_sem, seval, hb_1691, hb_1699]; exact rfl) ?_
      by_cases hb_1700 : c_1688.Attr < 0
      · rw [if_pos hb_1700] at h
        have hb_1700T := eq_true hb_1700
        refine AL_known (d := 28) (v := .p (.bool true)) (by simp only [go_sem, seval, hb_1691, hb_1699, hb_1700T]) ?_
        refine AL_skips (by exact rfl) ?_
        refine AL_upto (by exact rfl) (by simp only [go_sem, seval, hb_1691, hb_1699, hb_1700T]; exact rfl) ?_
        refine AL_nil ?_
        refine thenA_n ?_
        refine awp_ct (by simp only [go_sem, seval, hb_1691, hb_1699, hb_1700T]) ?_
        refine awp_seq ?_
        refine awp_region ?_
        refine AL_upto (by exact rfl) (by simp only [go_sem, seval, hb_1691, hb_1699, hb_1700T]; exact rfl) ?_
        refine AL_nil ?_
        refine thenA_n ?_
        refine awp_ret ?_
        refine blockA_ret ?_
        refine thenA_ret ?_
        cases h
        refine retQ_ret (by simp only [Try.results17]; simp only [go_sem, seval, hb_1691, hb_1699, hb_1700T]; exact rfl) ?_
        simp only [go_sem, seval, hb_1691, hb_1699, hb_1700T]
        all_goals ((repeat' refine And.intro ?_ ?_) <;> first | rfl | (simp; done) | (simp; rfl) | (simp [*]; done) | (simp [*]; rfl))
      · rw [if_neg hb_1700] at h
        have hb_1700T := eq_false hb_1700
        refine AL_known (d := 28) (v := .p (.bool false)) (by simp only [go_sem, seval, hb_1691, hb_1699, hb_1700T]) ?_
        refine AL_gt' (guard_true' rfl rfl (by exact rfl) (by exact rfl)) rfl (by simp only [go_sem, seval, hb_1691, hb_1699, hb_1700T]; exact rfl) ?_
        refine AL_gt' (guard_true' rfl rfl (by exact rfl) (by exact rfl)) rfl (by simp only [go_sem, seval, hb_1691, hb_1699, hb_1700T]; exact rfl) ?_
        refine AL_gt' (guard_true' rfl rfl (by exact rfl) (by exact rfl)) rfl (by simp only [go_sem, seval, hb_1691, hb_1699, hb_1700T]; exact rfl) ?_
        refine AL_gt' (guard_true' rfl rfl (by exact rfl) (by exact rfl)) rfl (by simp only [go_sem, seval, hb_1691, hb_1699, hb_1700T]; exact rfl) ?_
        refine AL_gt' (guard_true' rfl rfl (by exact rfl) (by exact rfl)) rfl (by simp only [go_sem, seval, hb_1691, hb_1699, hb_1700T]; exact rfl) ?_
        refine AL_gt' (guard_true' rfl rfl (by exact rfl) (by exact rfl)) rfl (by simp only [go_sem, seval, hb_1691, hb_1699, hb_1700T]; exact rfl) ?_
        refine AL_gt' (guard_true' rfl rfl (by exact rfl) (by exact rfl)) rfl (by simp only [go_sem, seval, hb_1691, hb_1699, hb_1700T]; exact rfl) ?_
        refine AL_upto (by exact rfl) (by simp only [go_sem, seval, hb_1691, hb_1699, hb_1700T]; exact rfl) ?_
        refine AL_nil ?_
        refine thenA_n ?_
        by_cases hb_1701 : c_1688.Attr ≥ (m_1687.Table.Attrs.length : Int)
        · rw [if_pos hb_1701] at h
          have hb_1701T := eq_true hb_1701
          refine awp_ct (by simp only [go_sem, seval, hb_1691, hb_1699, hb_1700T, hb_1701T]) ?_
          refine awp_seq ?_
          refine awp_region ?_
          refine AL_upto (by exact rfl) (by simp only [go_sem, seval, hb_1691, hb_1699, hb_1700T, hb_1701T]; exact rfl) ?_
          refine AL_nil ?_
          refine thenA_n ?_
          refine awp_ret ?_
          refine blockA_ret ?_
          refine thenA_ret ?_
          cases h
          refine retQ_ret (by simp only [Try.results17]; simp only [go_sem, seval, hb_1691, hb_1699, hb_1700T, hb_1701T]; exact rfl) ?_
          simp only [go_sem, seval, hb_1691, hb_1699, hb_1700T, hb_1701T]
          all_goals ((repeat' refine And.intro ?_ ?_) <;> first | rfl | (simp; done) | (simp; rfl) | (simp [*]; done) | (simp [*]; rfl))
        · rw [if_neg hb_1701] at h
          have hb_1701T := eq_false hb_1701
          refine awp_cf (by simp only [go_sem, seval, hb_1691, hb_1699, hb_1700T, hb_1701T]) ?_
          refine awp_skip ?_
          refine blockA_n ?_
          refine thenA_n ?_
          refine awp_seq ?_
          refine awp_drawn_walk mixed (by decide) ?_
          obtain ⟨x_1702, hx_1703, h⟩ := Option.bind_eq_some_iff.1 h
          obtain ⟨hx_1703a, hx_1703, hx_1703b⟩ := idx_some hx_1703
          have hx_1703A := eq_true hx_1703a
          have hx_1703B := eq_true hx_1703b
          obtain ⟨x_1704, hx_1705, h⟩ := Option.bind_eq_some_iff.1 h
          obtain ⟨hx_1705a, hx_1705, hx_1705b⟩ := idx_some hx_1705
          have hx_1705A := eq_true hx_1705a
          have hx_1705B := eq_true hx_1705b
          refine DGo.upto (by exact rfl) (by simp only [go_sem, seval, hb_1691, hb_1699, hb_1700T, hb_1701T, hx_1703, hx_1703A, hx_1703B, hx_1705, hx_1705A, hx_1705B]; exact ⟨rfl, rfl⟩) ?_
          refine DGo.fin rfl ?_
          refine thenA_n ?_
          refine awp_ret ?_
          cases h
          refine retQ_ret (by simp only [Try.results17]; simp only [go_sem, seval, hb_1691, hb_1699, hb_1700T, hb_1701T]; exact rfl) ?_
          simp only [go_sem, seval, hb_1691, hb_1699, hb_1700T, hb_1701T]
          all_goals ((repeat' refine And.intro ?_ ?_) <;> first | rfl | (simp; done) | (simp; rfl) | (simp [*]; done) | (simp [*]; rfl))
    · rw [if_neg hb_1699] at h
      have hb_1699F := Bool.eq_false_iff.2 hb_1699
      refine awp_ct (by simp only [go_sem, seval, hb_1691, hb_1699F]) ?_
      refine awp_seq ?_
      refine awp_region ?_
      refine AL_upto (by exact rfl) (by simp only [go_sem, seval, hb_1691, hb_1699F]; exact rfl) ?_
      refine AL_nil ?_
      refine thenA_n ?_
      refine awp_ret ?_
      refine blockA_ret ?_
      refine thenA_ret ?_
      cases h
      refine retQ_ret (by simp only [Try.results17]; simp only [go_sem, seval, hb_1691, hb_1699F]; exact rfl) ?_
      simp only [go_sem, seval, hb_1691, hb_1699F]
      all_goals ((repeat' refine And.intro ?_ ?_) <;> first | rfl | (simp; done) | (simp; rfl) | (simp [*]; done) | (simp [*]; rfl))
  · rw [if_neg hb_1691] at h
    have hb_1691F := Bool.eq_false_iff.2 hb_1691
    refine awp_ct (by simp only [go_sem, seval, hb_1691F]) ?_
    refine awp_seq ?_
    refine awp_region ?_
    refine AL_upto (by exact rfl) (by simp only [go_sem, seval, hb_1691F]; exact rfl) ?_
    refine AL_nil ?_
    refine thenA_n ?_
    refine awp_ret ?_
    refine thenA_ret ?_
    cases h
    refine retQ_ret (by simp only [Try.results17]; simp only [go_sem, seval, hb_1691F]; exact rfl) ?_
    simp only [go_sem, seval, hb_1691F]
    all_goals ((repeat' refine And.intro ?_ ?_) <;> first | rfl | (simp; done) | (simp; rfl) | (simp [*]; done) | (simp [*]; rfl))
end Go.Proofs.Ytdmddoljldjjeaa
set_option linter.unusedVariables false
set_option linter.unusedSimpArgs false
namespace Go.Proofs.Ytdmddoljldjjeaa
open Go Go.Ab
set_option maxHeartbeats 4000000 in
theorem drossref01_Valid_con (v_646 : Value) (r_654 : Bool) (h : drossref01_Valid v_646 = some r_654) : Con Try.prog 78 [(encValue v_646)] (.bool r_654) := by
  refine ⟨Try.call78, ?_⟩
  refine pure_of_awp Try.func78 rfl Try.ntmps78 (by simp) fun X w => ?_
  show AWp _ _ _ ⟨[(0, .p (encValue v_646))], []⟩
  simp only [drossref01_Valid] at h
  refine awp_seq ?_
  refine awp_region ?_
  refine AL_upto (by exact rfl) (by simp only [go_sem, seval]; exact rfl) ?_
  refine AL_nil ?_
  refine thenA_n ?_
  refine awp_seq ?_
  refine awp_seq ?_
  refine awp_region ?_
  refine AL_upto (by exact rfl) (by simp only [go_sem, seval]; exact rfl) ?_
  refine AL_nil ?_
  refine thenA_n ?_
  refine awp_block ?_
  refine awp_seq ?_
  refine awp_region ?_
  refine AL_upto (by exact rfl) (by simp only [go_sem, seval]; exact rfl) ?_
  refine AL_nil ?_
  refine thenA_n ?_
  by_cases hb_647 : (v_646.Kind == 0) = true
  · rw [if_pos hb_647] at h
    refine awp_ct (by simp only [go_sem, seval, hb_647]) ?_
    refine awp_seq ?_
    refine awp_region ?_
    refine AL_upto (by exact rfl) (by simp only [go_sem, seval, hb_647]; exact rfl) ?_
    by_cases hb_648 : (v_646.Num == 0) = true
    · rw [if_pos hb_648] at h
      refine AL_known (d := 10) (v := .p (.bool true)) (by simp only [go_sem, seval, hb_647, hb_648]) ?_
      refine AL_gt' (guard_true' rfl rfl (by exact rfl) (by exact rfl)) rfl (by simp only [go_sem, seval, hb_647, hb_648]; exact rfl) ?_
      refine AL_gt' (guard_true' rfl rfl (by exact rfl) (by exact rfl)) rfl (by simp only [go_sem, seval, hb_647, hb_648]; exact rfl) ?_
      refine AL_gt' (guard_true' rfl rfl (by exact rfl) (by exact rfl)) rfl (by simp only [go_sem, seval, hb_647, hb_648]; exact rfl) ?_
      refine AL_upto (by exact rfl) (by simp only [go_sem, seval, hb_647, hb_648]; exact rfl) ?_
      refine AL_nil ?_
      refine thenA_n ?_
      refine awp_ret ?_
      refine blockA_ret ?_
      refine thenA_ret ?_
      cases h
      refine retQ_ret (by simp only [Try.results78]; simp only [go_sem, seval, hb_647, hb_648]; exact rfl) ?_
      simp only [go_sem, seval, hb_647, hb_648]
      all_goals ((repeat' refine And.intro ?_ ?_) <;> first | rfl | (simp; done) | (simp; rfl) | (simp [*]; done) | (simp [*]; rfl))
    · rw [if_neg hb_648] at h
      have hb_648F := Bool.eq_false_iff.2 hb_648
      refine AL_known (d := 10) (v := .p (.bool false)) (by simp only [go_sem, seval, hb_647, hb_648F]) ?_
      refine AL_skips (by exact rfl) ?_
      refine AL_upto (by exact rfl) (by simp only [go_sem, seval, hb_647, hb_648F]; exact rfl) ?_
      refine AL_nil ?_
      refine thenA_n ?_
      refine awp_ret ?_
      refine blockA_ret ?_
      refine thenA_ret ?_
      cases h
      refine retQ_ret (by simp only [Try.results78]; simp only [go_sem, seval, hb_647, hb_648F]; exact rfl) ?_
      simp only [go_sem, seval, hb_647, hb_648F]
      all_goals ((repeat' refine And.intro ?_ ?_) <;> first | rfl | (simp; done) | (simp; rfl) | (simp [*]; done) | (simp [*]; rfl))
  · rw [if_neg hb_647] at h
    have hb_647F := Bool.eq_false_iff.2 hb_647
    refine awp_cf (by simp only [go_sem, seval, hb_647F]) ?_
    refine awp_seq ?_
    refine awp_region ?_
    refine AL_upto (by exact rfl) (by simp only [go_sem, seval, hb_647F]; exact rfl) ?_
    refine AL_nil ?_
    refine thenA_n ?_
    by_cases hb_649 : (v_646.Kind == 1) = true
    · rw [if_pos hb_649] at h
      refine awp_ct (by simp only [go_sem, seval, hb_647F, hb_649]) ?_
      refine awp_seq ?_
      refine awp_region ?_
      refine AL_upto (by exact rfl) (by simp only [go_sem, seval, hb_647F, hb_649]; exact rfl) ?_
      refine AL_nil ?_
      refine thenA_n ?_
      refine awp_ret ?_
      refine blockA_ret ?_
      refine thenA_ret ?_
      cases h
      refine retQ_ret (by simp only [Try.results78]; simp only [go_sem, seval, hb_647F, hb_649]; exact rfl) ?_
      simp only [go_sem, seval, hb_647F, hb_649]
      all_goals ((repeat' refine And.intro ?_ ?_) <;> first | rfl | (simp; done) | (simp; rfl) | (simp [*]; done) | (simp [*]; rfl))
    · rw [if_neg hb_649] at h
      have hb_649F := Bool.eq_false_iff.2 hb_649
      refine awp_cf (by simp only [go_sem, seval, hb_647F, hb_649F]) ?_
      refine awp_seq ?_
      refine awp_region ?_
      refine AL_upto (by exact rfl) (by simp only [go_sem, seval, hb_647F, hb_649F]; exact rfl) ?_
      refine AL_nil ?_
      refine thenA_n ?_
      by_cases hb_650 : (v_646.Kind == 2) = true
      · rw [if_pos hb_650] at h
        refine awp_ct (by simp only [go_sem, seval, hb_647F, hb_649F, hb_650]) ?_
        refine awp_seq ?_
        refine awp_region ?_
        refine AL_upto (by exact rfl) (by simp only [go_sem, seval, hb_647F, hb_649F, hb_650]; exact rfl) ?_
        by_cases hb_651 : (v_646.Num == 0) = true
        · rw [if_pos hb_651] at h
          refine AL_known (d := 25) (v := .p (.bool true)) (by simp only [go_sem, seval, hb_647F, hb_649F, hb_650, hb_651]) ?_
          refine AL_gt' (guard_true' rfl rfl (by exact rfl) (by exact rfl)) rfl (by simp only [go_sem, seval, hb_647F, hb_649F, hb_650, hb_651]; exact rfl) ?_
          refine AL_gt' (guard_true' rfl rfl (by exact rfl) (by exact rfl)) rfl (by simp only [go_sem, seval, hb_647F, hb_649F, hb_650, hb_651]; exact rfl) ?_
          refine AL_gt' (guard_true' rfl rfl (by exact rfl) (by exact rfl)) rfl (by simp only [go_sem, seval, hb_647F, hb_649F, hb_650, hb_651]; exact rfl) ?_
          refine AL_gt' (guard_true' rfl rfl (by exact rfl) (by exact rfl)) rfl (by simp only [go_sem, seval, hb_647F, hb_649F, hb_650, hb_651]; exact rfl) ?_
          refine AL_upto (by exact rfl) (by simp only [go_sem, seval, hb_647F, hb_649F, hb_650, hb_651]; exact rfl) ?_
          refine AL_nil ?_
          refine thenA_n ?_
          refine awp_ret ?_
          refine blockA_ret ?_
          refine thenA_ret ?_
          cases h
          refine retQ_ret (by simp only [Try.results78]; simp only [go_sem, seval, hb_647F, hb_649F, hb_650, hb_651]; exact rfl) ?_
          simp only [go_sem, seval, hb_647F, hb_649F, hb_650, hb_651]
          all_goals ((repeat' refine And.intro ?_ ?_) <;> first | rfl | (simp; done) | (simp; rfl) | (simp [*]; done) | (simp [*]; rfl))
        · rw [if_neg hb_651] at h
          have hb_651F := Bool.eq_false_iff.2 hb_651
          refine AL_known (d := 25) (v := .p (.bool false)) (by simp only [go_sem, seval, hb_647F, hb_649F, hb_650, hb_651F]) ?_
          refine AL_skips (by exact rfl) ?_
          refine AL_upto (by exact rfl) (by simp only [go_sem, seval, hb_647F, hb_649F, hb_650, hb_651F]; exact rfl) ?_
          refine AL_nil ?_
          refine thenA_n ?_
          refine awp_ret ?_
          refine blockA_ret ?_
          refine thenA_ret ?_
          cases h
          refine retQ_ret (by simp only [Try.results78]; simp only [go_sem, seval, hb_647F, hb_649F, hb_650, hb_651F]; exact rfl) ?_
          simp only [go_sem, seval, hb_647F, hb_649F, hb_650, hb_651F]
          all_goals ((repeat' refine And.intro ?_ ?_) <;> first | rfl | (simp; done) | (simp; rfl) | (simp [*]; done) | (simp [*]; rfl))
      · rw [if_neg hb_650] at h
        have hb_650F := Bool.eq_false_iff.2 hb_650
        refine awp_cf (by simp only [go_sem, seval, hb_647F, hb_649F, hb_650F]) ?_
        refine awp_skip ?_
        refine blockA_n ?_
        refine thenA_n ?_
        refine awp_seq ?_
        refine awp_region ?_
        refine AL_upto (by exact rfl) (by simp only [go_sem, seval, hb_647F, hb_649F, hb_650F]; exact rfl) ?_
        by_cases hb_652 : (v_646.Kind == 3) = true
        · rw [if_pos hb_652] at h
          refine AL_known (d := 34) (v := .p (.bool true)) (by simp only [go_sem, seval, hb_647F, hb_649F, hb_650F, hb_652]) ?_
          refine AL_gt' (guard_true' rfl rfl (by exact rfl) (by exact rfl)) rfl (by simp only [go_sem, seval, hb_647F, hb_649F, hb_650F, hb_652]; exact rfl) ?_
          refine AL_gt' (guard_true' rfl rfl (by exact rfl) (by exact rfl)) rfl (by simp only [go_sem, seval, hb_647F, hb_649F, hb_650F, hb_652]; exact rfl) ?_
          refine AL_gt' (guard_true' rfl rfl (by exact rfl) (by exact rfl)) rfl (by simp only [go_sem, seval, hb_647F, hb_649F, hb_650F, hb_652]; exact rfl) ?_
          refine AL_upto (by exact rfl) (by simp only [go_sem, seval, hb_647F, hb_649F, hb_650F, hb_652]; exact rfl) ?_
          by_cases hb_653 : v_646.Num ≥ 1
          · rw [if_pos hb_653] at h
            have hb_653T := eq_true hb_653
            refine AL_known (d := 39) (v := .p (.bool true)) (by simp only [go_sem, seval, hb_647F, hb_649F, hb_650F, hb_652, hb_653T]) ?_
            refine AL_gt' (guard_true' rfl rfl (by exact rfl) (by exact rfl)) rfl (by simp only [go_sem, seval, hb_647F, hb_649F, hb_650F, hb_652, hb_653T]; exact rfl) ?_
            refine AL_gt' (guard_true' rfl rfl (by exact rfl) (by exact rfl)) rfl (by simp only [go_sem, seval, hb_647F, hb_649F, hb_650F, hb_652, hb_653T]; exact rfl) ?_
            refine AL_gt' (guard_true' rfl rfl (by exact rfl) (by exact rfl)) rfl (by simp only [go_sem, seval, hb_647F, hb_649F, hb_650F, hb_652, hb_653T]; exact rfl) ?_
            refine AL_upto (by exact rfl) (by simp only [go_sem, seval, hb_647F, hb_649F, hb_650F, hb_652, hb_653T]; exact rfl) ?_
            refine AL_nil ?_
            refine thenA_n ?_
            refine awp_ret ?_
            cases h
            refine retQ_ret (by simp only [Try.results78]; simp only [go_sem, seval, hb_647F, hb_649F, hb_650F, hb_652, hb_653T]; exact rfl) ?_
            simp only [go_sem, seval, hb_647F, hb_649F, hb_650F, hb_652, hb_653T]
            all_goals ((repeat' refine And.intro ?_ ?_) <;> first | rfl | (simp; done) | (simp; rfl) | (simp [*]; done) | (simp [*]; rfl))
          · rw [if_neg hb_653] at h
            have hb_653T := eq_false hb_653
            refine AL_known (d := 39) (v := .p (.bool false)) (by simp only [go_sem, seval, hb_647F, hb_649F, hb_650F, hb_652, hb_653T]) ?_
            refine AL_skips (by exact rfl) ?_
            refine AL_upto (by exact rfl) (by simp only [go_sem, seval, hb_647F, hb_649F, hb_650F, hb_652, hb_653T]; exact rfl) ?_
            refine AL_nil ?_
            refine thenA_n ?_
            refine awp_ret ?_
            cases h
            refine retQ_ret (by simp only [Try.results78]; simp only [go_sem, seval, hb_647F, hb_649F, hb_650F, hb_652, hb_653T]; exact rfl) ?_
            simp only [go_sem, seval, hb_647F, hb_649F, hb_650F, hb_652, hb_653T]
            all_goals ((repeat' refine And.intro ?_ ?_) <;> first | rfl | (simp; done) | (simp; rfl) | (simp [*]; done) | (simp [*]; rfl))
        · rw [if_neg hb_652] at h
          have hb_652F := Bool.eq_false_iff.2 hb_652
          refine AL_known (d := 34) (v := .p (.bool false)) (by simp only [go_sem, seval, hb_647F, hb_649F, hb_650F, hb_652F]) ?_
          refine AL_skips (by exact rfl) ?_
          refine AL_upto (by exact rfl) (by simp only [go_sem, seval, hb_647F, hb_649F, hb_650F, hb_652F]; exact rfl) ?_
          refine AL_skips (by exact rfl) ?_
          refine AL_upto (by exact rfl) (by simp only [go_sem, seval, hb_647F, hb_649F, hb_650F, hb_652F]; exact rfl) ?_
          refine AL_nil ?_
          refine thenA_n ?_
          refine awp_ret ?_
          cases h
          refine retQ_ret (by simp only [Try.results78]; simp only [go_sem, seval, hb_647F, hb_649F, hb_650F, hb_652F]; exact rfl) ?_
          simp only [go_sem, seval, hb_647F, hb_649F, hb_650F, hb_652F]
          all_goals ((repeat' refine And.intro ?_ ?_) <;> first | rfl | (simp; done) | (simp; rfl) | (simp [*]; done) | (simp [*]; rfl))
end Go.Proofs.Ytdmddoljldjjeaa
set_option linter.unusedVariables false
set_option linter.unusedSimpArgs false
namespace Go.Proofs.Ytdmddoljldjjeaa
open Go Go.Ab
set_option maxHeartbeats 4000000 in
theorem drossref01_Valids_con (l_655 : List Value) (r_680 : Bool) (h : drossref01_Valids l_655 = some r_680) : Con Try.prog 54 [(.slc (List.map encValue l_655))] (.bool r_680) := by
  refine ⟨Try.call54, ?_⟩
  refine pure_of_awp Try.func54 rfl Try.ntmps54 (by simp) fun X w => ?_
  show AWp _ _ _ ⟨[(0, .p (.slc (List.map encValue l_655)))], []⟩
  simp only [drossref01_Valids] at h
  refine awp_seq ?_
  refine awp_region ?_
  refine AL_upto (by exact rfl) (by simp only [go_sem, seval]; exact rfl) ?_
  refine AL_nil ?_
  refine thenA_n ?_
  refine awp_seq ?_
  refine awp_seq ?_
  refine awp_region ?_
  refine AL_upto (by exact rfl) (by simp only [go_sem, seval]; exact rfl) ?_
  refine AL_nil ?_
  refine thenA_n ?_
  refine awp_block ?_
  obtain ⟨o_675, hL_676, h⟩ := Option.bind_eq_some_iff.1 h
  refine awp_loop_L (fun (s : Int) => ⟨[(0, .p (.slc (List.map encValue l_655))), (3, .p (.int .i64 s))], []⟩) (fun (o : (Unit) ⊕ (Bool)) (e : Exit) (s' : St) => match o with | .inl o_678 => e = (.exit 0) ∧ Le ⟨Try.prog, Try.f54.ntmps, 0, X, [], fun _ => none, w⟩ s' ⟨[], []⟩ | .inr o_679 => e = .ret ∧ retQ Try.prog Try.f54 (.bool o_679) .ret s') (by intro o s hT; rcases o with _ | _ <;> (have hh := hT.1; cases hh)) hL_676 (by simp only [go_sem, seval]; all_goals ((repeat' refine And.intro ?_ ?_) <;> first | rfl | (simp; done) | (simp; rfl) | (simp [*]; done) | (simp [*]; rfl))) ?_ ?_
  · clear h
    intro i_662 x h
    simp only [drossref01_Valids_l1] at h
    show AWp _ _ _ ⟨[(0, .p (.slc (List.map encValue l_655))), (3, .p (.int .i64 i_662))], []⟩
    refine awp_seq ?_
    refine awp_seq ?_
    refine awp_region ?_
    refine AL_upto (by exact rfl) (by simp only [go_sem, seval]; exact rfl) ?_
    refine AL_nil ?_
    refine thenA_n ?_
    by_cases hb_669 : i_662 < (l_655.length : Int)
    · rw [if_pos hb_669] at h
      have hb_669T := eq_true hb_669
      refine awp_ct (by simp only [go_sem, seval, hb_669T]) ?_
      refine awp_skip ?_
      refine thenA_n ?_
      refine awp_seq ?_
      refine awp_block ?_
      refine awp_seq ?_
      refine awp_region ?_
      obtain ⟨x_670, hx_671, h⟩ := Option.bind_eq_some_iff.1 h
      obtain ⟨hx_671a, hx_671, hx_671b⟩ := idx_some hx_671
      have hx_671A := eq_true hx_671a
      have hx_671B := eq_true hx_671b
      refine AL_upto (by exact rfl) (by simp only [go_sem, seval, hb_669T, hx_671, hx_671A, hx_671B]; exact rfl) ?_
      obtain ⟨r_672, hr_673, h⟩ := Option.bind_eq_some_iff.1 h
      refine AL_con' rfl (guard_none rfl) rfl (by simp only [go_sem, seval, hb_669T]; exact rfl) (by simp only [go_sem, seval, hb_669T]; all_goals ((repeat' refine And.intro ?_ ?_) <;> first | rfl | (simp; done) | (simp; rfl) | (simp [*]; done) | (simp [*]; rfl))) (drossref01_Valid_con x_670 _ hr_673) (.inr rfl) rfl ?_
      refine AL_upto (by exact rfl) (by simp only [go_sem, seval, hb_669T]; exact rfl) ?_
      refine AL_nil ?_
      refine thenA_n ?_
      by_cases hb_674 : r_672 = true
      · rw [if_pos hb_674] at h
        refine awp_cf (by simp only [go_sem, seval, hb_669T, hb_674]) ?_
        refine awp_skip ?_
        refine blockA_n ?_
        refine thenA_n ?_
        refine awp_region ?_
        refine AL_upto (by exact rfl) (by simp only [go_sem, seval, hb_669T, hb_674]; exact rfl) ?_
        refine AL_nil ?_
        cases h
        refine ⟨rfl, ?_⟩
        simp only [go_sem, seval, hb_669T, hb_674]
        all_goals ((repeat' refine And.intro ?_ ?_) <;> first | rfl | (simp; done) | (simp; rfl) | (simp [*]; done) | (simp [*]; rfl))
      · rw [if_neg hb_674] at h
        have hb_674F := Bool.eq_false_iff.2 hb_674
        refine awp_ct (by simp only [go_sem, seval, hb_669T, hb_674F]) ?_
        refine awp_seq ?_
        refine awp_region ?_
        refine AL_upto (by exact rfl) (by simp only [go_sem, seval, hb_669T, hb_674F]; exact rfl) ?_
        refine AL_nil ?_
        refine thenA_n ?_
        refine awp_ret ?_
        refine blockA_ret ?_
        refine thenA_ret ?_
        cases h
        refine ⟨rfl, ?_⟩
        refine retQ_ret (by simp only [Try.results54]; simp only [go_sem, seval, hb_669T, hb_674F]; exact rfl) ?_
        simp only [go_sem, seval, hb_669T, hb_674F]
        all_goals ((repeat' refine And.intro ?_ ?_) <;> first | rfl | (simp; done) | (simp; rfl) | (simp [*]; done) | (simp [*]; rfl))
    · rw [if_neg hb_669] at h
      have hb_669T := eq_false hb_669
      refine awp_cf (by simp only [go_sem, seval, hb_669T]) ?_
      refine awp_exit ?_
      refine thenA_exit ?_
      cases h
      refine ⟨rfl, ?_⟩
      simp only [go_sem, seval, hb_669T]
      all_goals ((repeat' refine And.intro ?_ ?_) <;> first | rfl | (simp; done) | (simp; rfl) | (simp [*]; done) | (simp [*]; rfl))
  · intro e s' hT
    rcases o_675 with ⟨⟩ | r_677
    · try simp only at h
      try simp only at hT
      obtain ⟨rfl, hle⟩ := hT
      refine Wk.to hle ?_
      clear hle
      refine blockA_here ?_
      refine thenA_n ?_
      refine awp_seq ?_
      refine awp_region ?_
      refine AL_upto (by exact rfl) (by simp only [go_sem, seval]; exact rfl) ?_
      refine AL_nil ?_
      refine thenA_n ?_
      refine awp_ret ?_
      cases h
      refine retQ_ret (by simp only [Try.results54]; simp only [go_sem, seval]; exact rfl) ?_
      simp only [go_sem, seval]
      all_goals ((repeat' refine And.intro ?_ ?_) <;> first | rfl | (simp; done) | (simp; rfl) | (simp [*]; done) | (simp [*]; rfl))
    · try simp only at h
      try simp only at hT
      obtain ⟨rfl, hq⟩ := hT
      refine Wk.now ?_
      refine blockA_ret ?_
      refine thenA_ret ?_
      cases h
      exact hq
end Go.Proofs.Ytdmddoljldjjeaa
set_option linter.unusedVariables false
set_option linter.unusedSimpArgs false
namespace Go.Proofs.Ytdmddoljldjjeaa
open Go Go.Ab
set_option maxHeartbeats 4000000 in
theorem drossref03_letter_con (c_1707 : Int) (r_1714 : Bool) (h : drossref03_letter c_1707 = some r_1714) : Con Try.prog 88 [(.int .u8 c_1707)] (.bool r_1714) := by
  refine ⟨Try.call88, ?_⟩
  refine pure_of_awp Try.func88 rfl Try.ntmps88 (by simp) fun X w => ?_
  show AWp _ _ _ ⟨[(0, .p (.int .u8 c_1707))], []⟩
  simp only [drossref03_letter] at h
  refine awp_seq ?_
  refine awp_region ?_
  refine AL_upto (by exact rfl) (by simp only [go_sem, seval]; exact rfl) ?_
  refine AL_nil ?_
  refine thenA_n ?_
  refine awp_seq ?_
  refine awp_region ?_
  refine AL_upto (by exact rfl) (by simp only [go_sem, seval]; exact rfl) ?_
  by_cases hb_1708 : c_1707 ≥ 97
  · rw [if_pos hb_1708] at h
    have hb_1708T := eq_true hb_1708
    refine AL_known (d := 5) (v := .p (.bool true)) (by simp only [go_sem, seval, hb_1708T]) ?_
    refine AL_gt' (guard_true' rfl rfl (by exact rfl) (by exact rfl)) rfl (by simp only [go_sem, seval, hb_1708T]; exact rfl) ?_
    refine AL_gt' (guard_true' rfl rfl (by exact rfl) (by exact rfl)) rfl (by simp only [go_sem, seval, hb_1708T]; exact rfl) ?_
    refine AL_upto (by exact rfl) (by simp only [go_sem, seval, hb_1708T]; exact rfl) ?_
    by_cases hb_1709 : c_1707 ≤ 122
    · rw [if_pos hb_1709] at h
      have hb_1709T := eq_true hb_1709
      refine AL_known (d := 9) (v := .p (.bool true)) (by simp only [go_sem, seval, hb_1708T, hb_1709T]) ?_
      refine AL_skips (by exact rfl) ?_
      refine AL_upto (by exact rfl) (by simp only [go_sem, seval, hb_1708T, hb_1709T]; exact rfl) ?_
      refine AL_skips (by exact rfl) ?_
      refine AL_upto (by exact rfl) (by simp only [go_sem, seval, hb_1708T, hb_1709T]; exact rfl) ?_
      refine AL_nil ?_
      refine thenA_n ?_
      refine awp_ret ?_
      cases h
      refine retQ_ret (by simp only [Try.results88]; simp only [go_sem, seval, hb_1708T, hb_1709T]; exact rfl) ?_
      simp only [go_sem, seval, hb_1708T, hb_1709T]
      all_goals ((repeat' refine And.intro ?_ ?_) <;> first | rfl | (simp; done) | (simp; rfl) | (simp [*]; done) | (simp [*]; rfl))
    · rw [if_neg hb_1709] at h
      have hb_1709T := eq_false hb_1709
      refine AL_known (d := 9) (v := .p (.bool false)) (by simp only [go_sem, seval, hb_1708T, hb_1709T]) ?_
      refine AL_gt' (guard_true' rfl rfl (by exact rfl) (by exact rfl)) rfl (by simp only [go_sem, seval, hb_1708T, hb_1709T]; exact rfl) ?_
      refine AL_gt' (guard_true' rfl rfl (by exact rfl) (by exact rfl)) rfl (by simp only [go_sem, seval, hb_1708T, hb_1709T]; exact rfl) ?_
      refine AL_gt' (guard_true' rfl rfl (by exact rfl) (by exact rfl)) rfl (by simp only [go_sem, seval, hb_1708T, hb_1709T]; exact rfl) ?_
      by_cases hb_1710 : c_1707 ≥ 65
      · rw [if_pos hb_1710] at h
        have hb_1710T := eq_true hb_1710
        refine AL_known (d := 12) (v := .p (.bool true)) (by simp only [go_sem, seval, hb_1708T, hb_1709T, hb_1710T]) ?_
        refine AL_gt' (guard_true' rfl rfl (by exact rfl) (by exact rfl)) rfl (by simp only [go_sem, seval, hb_1708T, hb_1709T, hb_1710T]; exact rfl) ?_
        refine AL_gt' (guard_true' rfl rfl (by exact rfl) (by exact rfl)) rfl (by simp only [go_sem, seval, hb_1708T, hb_1709T, hb_1710T]; exact rfl) ?_
        refine AL_gt' (guard_true' rfl rfl (by exact rfl) (by exact rfl)) rfl (by simp only [go_sem, seval, hb_1708T, hb_1709T, hb_1710T]; exact rfl) ?_
        refine AL_upto (by exact rfl) (by simp only [go_sem, seval, hb_1708T, hb_1709T, hb_1710T]; exact rfl) ?_
        by_cases hb_1711 : c_1707 ≤ 90
        · rw [if_pos hb_1711] at h
          have hb_1711T := eq_true hb_1711
          refine AL_known (d := 17) (v := .p (.bool true)) (by simp only [go_sem, seval, hb_1708T, hb_1709T, hb_1710T, hb_1711T]) ?_
          refine AL_skips (by exact rfl) ?_
          refine AL_upto (by exact rfl) (by simp only [go_sem, seval, hb_1708T, hb_1709T, hb_1710T, hb_1711T]; exact rfl) ?_
          refine AL_nil ?_
          refine thenA_n ?_
          refine awp_ret ?_
          cases h
          refine retQ_ret (by simp only [Try.results88]; simp only [go_sem, seval, hb_1708T, hb_1709T, hb_1710T, hb_1711T]; exact rfl) ?_
          simp only [go_sem, seval, hb_1708T, hb_1709T, hb_1710T, hb_1711T]
          all_goals ((repeat' refine And.intro ?_ ?_) <;> first | rfl | (simp; done) | (simp; rfl) | (simp [*]; done) | (simp [*]; rfl))
        · rw [if_neg hb_1711] at h
          have hb_1711T := eq_false hb_1711
          refine AL_known (d := 17) (v := .p (.bool false)) (by simp only [go_sem, seval, hb_1708T, hb_1709T, hb_1710T, hb_1711T]) ?_
          refine AL_gt' (guard_true' rfl rfl (by exact rfl) (by exact rfl)) rfl (by simp only [go_sem, seval, hb_1708T, hb_1709T, hb_1710T, hb_1711T]; exact rfl) ?_
          refine AL_gt' (guard_true' rfl rfl (by exact rfl) (by exact rfl)) rfl (by simp only [go_sem, seval, hb_1708T, hb_1709T, hb_1710T, hb_1711T]; exact rfl) ?_
          refine AL_upto (by exact rfl) (by simp only [go_sem, seval, hb_1708T, hb_1709T, hb_1710T, hb_1711T]; exact rfl) ?_
          refine AL_nil ?_
          refine thenA_n ?_
          refine awp_ret ?_
          cases h
          refine retQ_ret (by simp only [Try.results88]; simp only [go_sem, seval, hb_1708T, hb_1709T, hb_1710T, hb_1711T]; exact rfl) ?_
          simp only [go_sem, seval, hb_1708T, hb_1709T, hb_1710T, hb_1711T]
          all_goals ((repeat' refine And.intro ?_ ?_) <;> first | rfl | (simp; done) | (simp; rfl) | (simp [*]; done) | (simp [*]; rfl))
      · rw [if_neg hb_1710] at h
        have hb_1710T := eq_false hb_1710
        refine AL_known (d := 12) (v := .p (.bool false)) (by simp only [go_sem, seval, hb_1708T, hb_1709T, hb_1710T]) ?_
        refine AL_skips (by exact rfl) ?_
        refine AL_gt' (guard_true' rfl rfl (by exact rfl) (by exact rfl)) rfl (by simp only [go_sem, seval, hb_1708T, hb_1709T, hb_1710T]; exact rfl) ?_
        refine AL_upto (by exact rfl) (by simp only [go_sem, seval, hb_1708T, hb_1709T, hb_1710T]; exact rfl) ?_
        refine AL_gt' (guard_true' rfl rfl (by exact rfl) (by exact rfl)) rfl (by simp only [go_sem, seval, hb_1708T, hb_1709T, hb_1710T]; exact rfl) ?_
        refine AL_gt' (guard_true' rfl rfl (by exact rfl) (by exact rfl)) rfl (by simp only [go_sem, seval, hb_1708T, hb_1709T, hb_1710T]; exact rfl) ?_
        refine AL_upto (by exact rfl) (by simp only [go_sem, seval, hb_1708T, hb_1709T, hb_1710T]; exact rfl) ?_
        refine AL_nil ?_
        refine thenA_n ?_
        refine awp_ret ?_
        cases h
        refine retQ_ret (by simp only [Try.results88]; simp only [go_sem, seval, hb_1708T, hb_1709T, hb_1710T]; exact rfl) ?_
        simp only [go_sem, seval, hb_1708T, hb_1709T, hb_1710T]
        all_goals ((repeat' refine And.intro ?_ ?_) <;> first | rfl | (simp; done) | (simp; rfl) | (simp [*]; done) | (simp [*]; rfl))
  · rw [if_neg hb_1708] at h
    have hb_1708T := eq_false hb_1708
    refine AL_known (d := 5) (v := .p (.bool false)) (by simp only [go_sem, seval, hb_1708T]) ?_
    refine AL_skips (by exact rfl) ?_
    refine AL_upto (by exact rfl) (by simp only [go_sem, seval, hb_1708T]; exact rfl) ?_
    refine AL_gt' (guard_true' rfl rfl (by exact rfl) (by exact rfl)) rfl (by simp only [go_sem, seval, hb_1708T]; exact rfl) ?_
    refine AL_gt' (guard_true' rfl rfl (by exact rfl) (by exact rfl)) rfl (by simp only [go_sem, seval, hb_1708T]; exact rfl) ?_
    refine AL_gt' (guard_true' rfl rfl (by exact rfl) (by exact rfl)) rfl (by simp only [go_sem, seval, hb_1708T]; exact rfl) ?_
    by_cases hb_1712 : c_1707 ≥ 65
    · rw [if_pos hb_1712] at h
      have hb_1712T := eq_true hb_1712
      refine AL_known (d := 12) (v := .p (.bool true)) (by simp only [go_sem, seval, hb_1708T, hb_1712T]) ?_
      refine AL_gt' (guard_true' rfl rfl (by exact rfl) (by exact rfl)) rfl (by simp only [go_sem, seval, hb_1708T, hb_1712T]; exact rfl) ?_
      refine AL_gt' (guard_true' rfl rfl (by exact rfl) (by exact rfl)) rfl (by simp only [go_sem, seval, hb_1708T, hb_1712T]; exact rfl) ?_
      refine AL_gt' (guard_true' rfl rfl (by exact rfl) (by exact rfl)) rfl (by simp only [go_sem, seval, hb_1708T, hb_1712T]; exact rfl) ?_
      refine AL_upto (by exact rfl) (by simp only [go_sem, seval, hb_1708T, hb_1712T]; exact rfl) ?_
      by_cases hb_1713 : c_1707 ≤ 90
      · rw [if_pos hb_1713] at h
        have hb_1713T := eq_true hb_1713
        refine AL_known (d := 17) (v := .p (.bool true)) (by simp only [go_sem, seval, hb_1708T, hb_1712T, hb_1713T]) ?_
        refine AL_skips (by exact rfl) ?_
        refine AL_upto (by exact rfl) (by simp only [go_sem, seval, hb_1708T, hb_1712T, hb_1713T]; exact rfl) ?_
        refine AL_nil ?_
        refine thenA_n ?_
        refine awp_ret ?_
        cases h
        refine retQ_ret (by simp only [Try.results88]; simp only [go_sem, seval, hb_1708T, hb_1712T, hb_1713T]; exact rfl) ?_
        simp only [go_sem, seval, hb_1708T, hb_1712T, hb_1713T]
        all_goals ((repeat' refine And.intro ?_ ?_) <;> first | rfl | (simp; done) | (simp; rfl) | (simp [*]; done) | (simp [*]; rfl))
      · rw [if_neg hb_1713] at h
        have hb_1713T := eq_false hb_1713
        refine AL_known (d := 17) (v := .p (.bool false)) (by simp only [go_sem, seval, hb_1708T, hb_1712T, hb_1713T]) ?_
        refine AL_gt' (guard_true' rfl rfl (by exact rfl) (by exact rfl)) rfl (by simp only [go_sem, seval, hb_1708T, hb_1712T, hb_1713T]; exact rfl) ?_
        refine AL_gt' (guard_true' rfl rfl (by exact rfl) (by exact rfl)) rfl (by simp only [go_sem, seval, hb_1708T, hb_1712T, hb_1713T]; exact rfl) ?_
        refine AL_upto (by exact rfl) (by simp only [go_sem, seval, hb_1708T, hb_1712T, hb_1713T]; exact rfl) ?_
        refine AL_nil ?_
        refine thenA_n ?_
        refine awp_ret ?_
        cases h
        refine retQ_ret (by simp only [Try.results88]; simp only [go_sem, seval, hb_1708T, hb_1712T, hb_1713T]; exact rfl) ?_
        simp only [go_sem, seval, hb_1708T, hb_1712T, hb_1713T]
        all_goals ((repeat' refine And.intro ?_ ?_) <;> first | rfl | (simp; done) | (simp; rfl) | (simp [*]; done) | (simp [*]; rfl))
    · rw [if_neg hb_1712] at h
      have hb_1712T := eq_false hb_1712
      refine AL_known (d := 12) (v := .p (.bool false)) (by simp only [go_sem, seval, hb_1708T, hb_1712T]) ?_
      refine AL_skips (by exact rfl) ?_
      refine AL_gt' (guard_true' rfl rfl (by exact rfl) (by exact rfl)) rfl (by simp only [go_sem, seval, hb_1708T, hb_1712T]; exact rfl) ?_
      refine AL_upto (by exact rfl) (by simp only [go_sem, seval, hb_1708T, hb_1712T]; exact rfl) ?_
      refine AL_gt' (guard_true' rfl rfl (by exact rfl) (by exact rfl)) rfl (by simp only [go_sem, seval, hb_1708T, hb_1712T]; exact rfl) ?_
      refine AL_gt' (guard_true' rfl rfl (by exact rfl) (by exact rfl)) rfl (by simp only [go_sem, seval, hb_1708T, hb_1712T]; exact rfl) ?_
      refine AL_upto (by exact rfl) (by simp only [go_sem, seval, hb_1708T, hb_1712T]; exact rfl) ?_
      refine AL_nil ?_
      refine thenA_n ?_
      refine awp_ret ?_
      cases h
      refine retQ_ret (by simp only [Try.results88]; simp only [go_sem, seval, hb_1708T, hb_1712T]; exact rfl) ?_
      simp only [go_sem, seval, hb_1708T, hb_1712T]
      all_goals ((repeat' refine And.intro ?_ ?_) <;> first | rfl | (simp; done) | (simp; rfl) | (simp [*]; done) | (simp [*]; rfl))
end Go.Proofs.Ytdmddoljldjjeaa
set_option linter.unusedVariables false
set_option linter.unusedSimpArgs false
namespace Go.Proofs.Ytdmddoljldjjeaa
open Go Go.Ab
set_option maxHeartbeats 4000000 in
theorem drossref03_Name_con (s_1715 : List UInt8) (r_1756 : Bool) (h : drossref03_Name s_1715 = some r_1756) : Con Try.prog 69 [(.str s_1715)] (.bool r_1756) := by
  refine ⟨Try.call69, ?_⟩
  refine pure_of_awp Try.func69 rfl Try.ntmps69 (by simp) fun X w => ?_
  show AWp _ _ _ ⟨[(0, .p (.str s_1715))], []⟩
  simp only [drossref03_Name] at h
  refine awp_seq ?_
  refine awp_region ?_
  refine AL_upto (by exact rfl) (by simp only [go_sem, seval]; exact rfl) ?_
  refine AL_nil ?_
  refine thenA_n ?_
  refine awp_seq ?_
  refine awp_seq ?_
  refine awp_region ?_
  refine AL_upto (by exact rfl) (by simp only [go_sem, seval]; exact rfl) ?_
  by_cases hb_1716 : ((s_1715.length : Int) == 0) = true
  · rw [if_pos hb_1716] at h
    refine AL_known (d := 7) (v := .p (.bool true)) (by simp only [go_sem, seval, hb_1716]) ?_
    refine AL_skips (by exact rfl) ?_
    refine AL_upto (by exact rfl) (by simp only [go_sem, seval, hb_1716]; exact rfl) ?_
    refine AL_skips (by exact rfl) ?_
    refine AL_upto (by exact rfl) (by simp only [go_sem, seval, hb_1716]; exact rfl) ?_
    refine AL_skips (by exact rfl) ?_
    refine AL_upto (by exact rfl) (by simp only [go_sem, seval, hb_1716]; exact rfl) ?_
    refine AL_nil ?_
    refine thenA_n ?_
    refine awp_ct (by simp only [go_sem, seval, hb_1716]) ?_
    refine awp_seq ?_
    refine awp_region ?_
    refine AL_upto (by exact rfl) (by simp only [go_sem, seval, hb_1716]; exact rfl) ?_
    refine AL_nil ?_
    refine thenA_n ?_
    refine awp_ret ?_
    refine thenA_ret ?_
    cases h
    refine retQ_ret (by simp only [Try.results69]; simp only [go_sem, seval, hb_1716]; exact rfl) ?_
    simp only [go_sem, seval, hb_1716]
    all_goals ((repeat' refine And.intro ?_ ?_) <;> first | rfl | (simp; done) | (simp; rfl) | (simp [*]; done) | (simp [*]; rfl))
  · rw [if_neg hb_1716] at h
    have hb_1716F := Bool.eq_false_iff.2 hb_1716
    refine AL_known (d := 7) (v := .p (.bool false)) (by simp only [go_sem, seval, hb_1716F]) ?_
    refine AL_gt' (guard_true' rfl rfl (by exact rfl) (by exact rfl)) rfl (by simp only [go_sem, seval, hb_1716F]; exact rfl) ?_
    refine AL_gt' (guard_true' rfl rfl (by exact rfl) (by exact rfl)) rfl (by simp only [go_sem, seval, hb_1716F]; exact rfl) ?_
    refine AL_gt' (guard_true' rfl rfl (by exact rfl) (by exact rfl)) rfl (by simp only [go_sem, seval, hb_1716F]; exact rfl) ?_
    refine AL_upto (by exact rfl) (by simp only [go_sem, seval, hb_1716F]; exact rfl) ?_
    by_cases hb_1717 : (s_1715.length : Int) > 24
    · rw [if_pos hb_1717] at h
      have hb_1717T := eq_true hb_1717
      refine AL_known (d := 12) (v := .p (.bool true)) (by simp only [go_sem, seval, hb_1716F, hb_1717T]) ?_
      refine AL_skips (by exact rfl) ?_
      refine AL_upto (by exact rfl) (by simp only [go_sem, seval, hb_1716F, hb_1717T]; exact rfl) ?_
      refine AL_skips (by exact rfl) ?_
      refine AL_upto (by exact rfl) (by simp only [go_sem, seval, hb_1716F, hb_1717T]; exact rfl) ?_
      refine AL_nil ?_
      refine thenA_n ?_
      refine awp_ct (by simp only [go_sem, seval, hb_1716F, hb_1717T]) ?_
      refine awp_seq ?_
      refine awp_region ?_
      refine AL_upto (by exact rfl) (by simp only [go_sem, seval, hb_1716F, hb_1717T]; exact rfl) ?_
      refine AL_nil ?_
      refine thenA_n ?_
      refine awp_ret ?_
      refine thenA_ret ?_
      cases h
      refine retQ_ret (by simp only [Try.results69]; simp only [go_sem, seval, hb_1716F, hb_1717T]; exact rfl) ?_
      simp only [go_sem, seval, hb_1716F, hb_1717T]
      all_goals ((repeat' refine And.intro ?_ ?_) <;> first | rfl | (simp; done) | (simp; rfl) | (simp [*]; done) | (simp [*]; rfl))
    · rw [if_neg hb_1717] at h
      have hb_1717T := eq_false hb_1717
      refine AL_known (d := 12) (v := .p (.bool false)) (by simp only [go_sem, seval, hb_1716F, hb_1717T]) ?_
      refine AL_gt' (guard_true' rfl rfl (by exact rfl) (by exact rfl)) rfl (by simp only [go_sem, seval, hb_1716F, hb_1717T]; exact rfl) ?_
      obtain ⟨c_1720, hx_1721, h⟩ := Option.bind_eq_some_iff.1 h
      have hx_1721l := eq_true (lt_of_get hx_1721)
      have hx_1721L : ((0 : Int) < (s_1715.length : Int)) = True := eq_true (by have := lt_of_get hx_1721; omega)
      refine AL_gt' (guard_true' rfl rfl (by exact rfl) (by exact rfl)) rfl (by simp only [go_sem, seval, hb_1716F, hb_1717T, hx_1721, hx_1721l, hx_1721L]; exact rfl) ?_
      obtain ⟨r_1722, hr_1723, h⟩ := Option.bind_eq_some_iff.1 h
      refine AL_con' rfl (guard_true' rfl rfl (by exact rfl) (by exact rfl)) rfl (by simp only [go_sem, seval, hb_1716F, hb_1717T]; exact rfl) (by simp only [go_sem, seval, hb_1716F, hb_1717T]; all_goals ((repeat' refine And.intro ?_ ?_) <;> first | rfl | (simp; done) | (simp; rfl) | (simp [*]; done) | (simp [*]; rfl))) (drossref03_letter_con ((c_1720.toNat : Nat) : Int) _ hr_1723) (.inr rfl) rfl ?_
      refine AL_gt' (guard_true' rfl rfl (by exact rfl) (by exact rfl)) rfl (by simp only [go_sem, seval, hb_1716F, hb_1717T]; exact rfl) ?_
      refine AL_upto (by exact rfl) (by simp only [go_sem, seval, hb_1716F, hb_1717T]; exact rfl) ?_
      by_cases hb_1724 : r_1722 = true
      · rw [if_pos hb_1724] at h
        refine AL_known (d := 18) (v := .p (.bool false)) (by simp only [go_sem, seval, hb_1716F, hb_1717T, hb_1724]) ?_
        refine AL_gt' (guard_true' rfl rfl (by exact rfl) (by exact rfl)) rfl (by simp only [go_sem, seval, hb_1716F, hb_1717T, hb_1724]; exact rfl) ?_
        refine AL_gt' (guard_true' rfl rfl (by exact rfl) (by exact rfl)) rfl (by simp only [go_sem, seval, hb_1716F, hb_1717T, hb_1724]; exact rfl) ?_
        refine AL_upto (by exact rfl) (by simp only [go_sem, seval, hb_1716F, hb_1717T, hb_1724]; exact rfl) ?_
        refine AL_nil ?_
        refine thenA_n ?_
        by_cases hb_1725 : (s_1715 == [110, 117, 108, 108]) = true
        · rw [if_pos hb_1725] at h
          refine awp_ct (by simp only [go_sem, seval, hb_1716F, hb_1717T, hb_1724, hb_1725]) ?_
          refine awp_seq ?_
          refine awp_region ?_
          refine AL_upto (by exact rfl) (by simp only [go_sem, seval, hb_1716F, hb_1717T, hb_1724, hb_1725]; exact rfl) ?_
          refine AL_nil ?_
          refine thenA_n ?_
          refine awp_ret ?_
          refine thenA_ret ?_
          cases h
          refine retQ_ret (by simp only [Try.results69]; simp only [go_sem, seval, hb_1716F, hb_1717T, hb_1724, hb_1725]; exact rfl) ?_
          simp only [go_sem, seval, hb_1716F, hb_1717T, hb_1724, hb_1725]
          all_goals ((repeat' refine And.intro ?_ ?_) <;> first | rfl | (simp; done) | (simp; rfl) | (simp [*]; done) | (simp [*]; rfl))
        · rw [if_neg hb_1725] at h
          have hb_1725F := Bool.eq_false_iff.2 hb_1725
          refine awp_cf (by simp only [go_sem, seval, hb_1716F, hb_1717T, hb_1724, hb_1725F]) ?_
          refine awp_skip ?_
          refine thenA_n ?_
          refine awp_seq ?_
          refine awp_seq ?_
          refine awp_region ?_
          refine AL_upto (by exact rfl) (by simp only [go_sem, seval, hb_1716F, hb_1717T, hb_1724, hb_1725F]; exact rfl) ?_
          refine AL_nil ?_
          refine thenA_n ?_
          refine awp_block ?_
          obtain ⟨o_1751, hL_1752, h⟩ := Option.bind_eq_some_iff.1 h
          refine awp_loop_L (fun (s : Int) => ⟨[(0, .p (.str s_1715)), (3, .p (.int .i64 s))], []⟩) (fun (o : (Unit) ⊕ (Bool)) (e : Exit) (s' : St) => match o with | .inl o_1754 => e = (.exit 0) ∧ Le ⟨Try.prog, Try.f69.ntmps, 0, X, [], fun _ => none, w⟩ s' ⟨[], []⟩ | .inr o_1755 => e = .ret ∧ retQ Try.prog Try.f69 (.bool o_1755) .ret s') (by intro o s hT; rcases o with _ | _ <;> (have hh := hT.1; cases hh)) hL_1752 (by simp only [go_sem, seval, hb_1716F, hb_1717T, hb_1724, hb_1725F]; all_goals ((repeat' refine And.intro ?_ ?_) <;> first | rfl | (simp; done) | (simp; rfl) | (simp [*]; done) | (simp [*]; rfl))) ?_ ?_
          · clear h
            intro i_1734 x h
            simp only [drossref03_Name_l1] at h
            show AWp _ _ _ ⟨[(0, .p (.str s_1715)), (3, .p (.int .i64 i_1734))], []⟩
            refine awp_seq ?_
            refine awp_seq ?_
            refine awp_region ?_
            refine AL_upto (by exact rfl) (by simp only [go_sem, seval]; exact rfl) ?_
            refine AL_nil ?_
            refine thenA_n ?_
            by_cases hb_1743 : i_1734 < (s_1715.length : Int)
            · rw [if_pos hb_1743] at h
              have hb_1743T := eq_true hb_1743
              refine awp_ct (by simp only [go_sem, seval, hb_1743T]) ?_
              refine awp_skip ?_
              refine thenA_n ?_
              refine awp_seq ?_
              refine awp_block ?_
              refine awp_seq ?_
              refine awp_region ?_
              obtain ⟨c_1744, hx_1745, h⟩ := Option.bind_eq_some_iff.1 h
              obtain ⟨hx_1745a, hx_1745, hx_1745b⟩ := idx_some hx_1745
              have hx_1745A := eq_true hx_1745a
              have hx_1745B := eq_true hx_1745b
              refine AL_upto (by exact rfl) (by simp only [go_sem, seval, hb_1743T, hx_1745, hx_1745A, hx_1745B]; exact rfl) ?_
              obtain ⟨r_1746, hr_1747, h⟩ := Option.bind_eq_some_iff.1 h
              refine AL_con' rfl (guard_none rfl) rfl (by simp only [go_sem, seval, hb_1743T]; exact rfl) (by simp only [go_sem, seval, hb_1743T]; all_goals ((repeat' refine And.intro ?_ ?_) <;> first | rfl | (simp; done) | (simp; rfl) | (simp [*]; done) | (simp [*]; rfl))) (drossref03_letter_con ((c_1744.toNat : Nat) : Int) _ hr_1747) (.inr rfl) rfl ?_
              refine AL_upto (by exact rfl) (by simp only [go_sem, seval, hb_1743T]; exact rfl) ?_
              by_cases hb_1748 : r_1746 = true
              · rw [if_pos hb_1748] at h
                refine AL_known (d := 33) (v := .p (.bool false)) (by simp only [go_sem, seval, hb_1743T, hb_1748]) ?_
                refine AL_skips (by exact rfl) ?_
                refine AL_upto (by exact rfl) (by simp only [go_sem, seval, hb_1743T, hb_1748]; exact rfl) ?_
                refine AL_nil ?_
                refine thenA_n ?_
                refine awp_cf (by simp only [go_sem, seval, hb_1743T, hb_1748]) ?_
                refine awp_skip ?_
                refine blockA_n ?_
                refine thenA_n ?_
                refine awp_region ?_
                refine AL_upto (by exact rfl) (by simp only [go_sem, seval, hb_1743T, hb_1748]; exact rfl) ?_
                refine AL_nil ?_
                cases h
                refine ⟨rfl, ?_⟩
                simp only [go_sem, seval, hb_1743T, hb_1748]
                all_goals ((repeat' refine And.intro ?_ ?_) <;> first | rfl | (simp; done) | (simp; rfl) | (simp [*]; done) | (simp [*]; rfl))
              · rw [if_neg hb_1748] at h
                have hb_1748F := Bool.eq_false_iff.2 hb_1748
                refine AL_known (d := 33) (v := .p (.bool true)) (by simp only [go_sem, seval, hb_1743T, hb_1748F]) ?_
                refine AL_gt' (guard_true' rfl rfl (by exact rfl) (by exact rfl)) rfl (by simp only [go_sem, seval, hb_1743T, hb_1748F]; exact rfl) ?_
                refine AL_gt' (guard_true' rfl rfl (by exact rfl) (by exact rfl)) rfl (by simp only [go_sem, seval, hb_1743T, hb_1748F]; exact rfl) ?_
                refine AL_gt' (guard_true' rfl rfl (by exact rfl) (by exact rfl)) rfl (by simp only [go_sem, seval, hb_1743T, hb_1748F, hx_1745, hx_1745A, hx_1745B]; exact rfl) ?_
                refine AL_gt' (guard_true' rfl rfl (by exact rfl) (by exact rfl)) rfl (by simp only [go_sem, seval, hb_1743T, hb_1748F]; exact rfl) ?_
                refine AL_gt' (guard_true' rfl rfl (by exact rfl) (by exact rfl)) rfl (by simp only [go_sem, seval, hb_1743T, hb_1748F]; exact rfl) ?_
                by_cases hb_1749 : ((c_1744.toNat : Nat) : Int) < 48
                · rw [if_pos hb_1749] at h
                  have hb_1749T := eq_true hb_1749
                  refine AL_known (d := 38) (v := .p (.bool true)) (by simp only [go_sem, seval, hb_1743T, hb_1748F, hb_1749T]) ?_
                  refine AL_skips (by exact rfl) ?_
                  refine AL_gt' (guard_true' rfl rfl (by exact rfl) (by exact rfl)) rfl (by simp only [go_sem, seval, hb_1743T, hb_1748F, hb_1749T]; exact rfl) ?_
                  refine AL_upto (by exact rfl) (by simp only [go_sem, seval, hb_1743T, hb_1748F, hb_1749T]; exact rfl) ?_
                  refine AL_nil ?_
                  refine thenA_n ?_
                  refine awp_ct (by simp only [go_sem, seval, hb_1743T, hb_1748F, hb_1749T]) ?_
                  refine awp_seq ?_
                  refine awp_region ?_
                  refine AL_upto (by exact rfl) (by simp only [go_sem, seval, hb_1743T, hb_1748F, hb_1749T]; exact rfl) ?_
                  refine AL_nil ?_
                  refine thenA_n ?_
                  refine awp_ret ?_
                  refine blockA_ret ?_
                  refine thenA_ret ?_
                  cases h
                  refine ⟨rfl, ?_⟩
                  refine retQ_ret (by simp only [Try.results69]; simp only [go_sem, seval, hb_1743T, hb_1748F, hb_1749T]; exact rfl) ?_
                  simp only [go_sem, seval, hb_1743T, hb_1748F, hb_1749T]
                  all_goals ((repeat' refine And.intro ?_ ?_) <;> first | rfl | (simp; done) | (simp; rfl) | (simp [*]; done) | (simp [*]; rfl))
                · rw [if_neg hb_1749] at h
                  have hb_1749T := eq_false hb_1749
                  refine AL_known (d := 38) (v := .p (.bool false)) (by simp only [go_sem, seval, hb_1743T, hb_1748F, hb_1749T]) ?_
                  refine AL_gt' (guard_true' rfl rfl (by exact rfl) (by exact rfl)) rfl (by simp only [go_sem, seval, hb_1743T, hb_1748F, hb_1749T]; exact rfl) ?_
                  refine AL_gt' (guard_true' rfl rfl (by exact rfl) (by exact rfl)) rfl (by simp only [go_sem, seval, hb_1743T, hb_1748F, hb_1749T]; exact rfl) ?_
                  refine AL_gt' (guard_true' rfl rfl (by exact rfl) (by exact rfl)) rfl (by simp only [go_sem, seval, hb_1743T, hb_1748F, hb_1749T, hx_1745, hx_1745A, hx_1745B]; exact rfl) ?_
                  refine AL_gt' (guard_true' rfl rfl (by exact rfl) (by exact rfl)) rfl (by simp only [go_sem, seval, hb_1743T, hb_1748F, hb_1749T]; exact rfl) ?_
                  refine AL_gt' (guard_true' rfl rfl (by exact rfl) (by exact rfl)) rfl (by simp only [go_sem, seval, hb_1743T, hb_1748F, hb_1749T]; exact rfl) ?_
                  refine AL_upto (by exact rfl) (by simp only [go_sem, seval, hb_1743T, hb_1748F, hb_1749T]; exact rfl) ?_
                  refine AL_nil ?_
                  refine thenA_n ?_
                  by_cases hb_1750 : ((c_1744.toNat : Nat) : Int) > 57
                  · rw [if_pos hb_1750] at h
                    have hb_1750T := eq_true hb_1750
                    refine awp_ct (by simp only [go_sem, seval, hb_1743T, hb_1748F, hb_1749T, hb_1750T]) ?_
                    refine awp_seq ?_
                    refine awp_region ?_
                    refine AL_upto (by exact rfl) (by simp only [go_sem, seval, hb_1743T, hb_1748F, hb_1749T, hb_1750T]; exact rfl) ?_
                    refine AL_nil ?_
                    refine thenA_n ?_
                    refine awp_ret ?_
                    refine blockA_ret ?_
                    refine thenA_ret ?_
                    cases h
                    refine ⟨rfl, ?_⟩
                    refine retQ_ret (by simp only [Try.results69]; simp only [go_sem, seval, hb_1743T, hb_1748F, hb_1749T, hb_1750T]; exact rfl) ?_
                    simp only [go_sem, seval, hb_1743T, hb_1748F, hb_1749T, hb_1750T]
                    all_goals ((repeat' refine And.intro ?_ ?_) <;> first | rfl | (simp; done) | (simp; rfl) | (simp [*]; done) | (simp [*]; rfl))
                  · rw [if_neg hb_1750] at h
                    have hb_1750T := eq_false hb_1750
                    refine awp_cf (by simp only [go_sem, seval, hb_1743T, hb_1748F, hb_1749T, hb_1750T]) ?_
                    refine awp_skip ?_
                    refine blockA_n ?_
                    refine thenA_n ?_
                    refine awp_region ?_
                    refine AL_upto (by exact rfl) (by simp only [go_sem, seval, hb_1743T, hb_1748F, hb_1749T, hb_1750T]; exact rfl) ?_
                    refine AL_nil ?_
                    cases h
                    refine ⟨rfl, ?_⟩
                    simp only [go_sem, seval, hb_1743T, hb_1748F, hb_1749T, hb_1750T]
                    all_goals ((repeat' refine And.intro ?_ ?_) <;> first | rfl | (simp; done) | (simp; rfl) | (simp [*]; done) | (simp [*]; rfl))
            · rw [if_neg hb_1743] at h
              have hb_1743T := eq_false hb_1743
              refine awp_cf (by simp only [go_sem, seval, hb_1743T]) ?_
              refine awp_exit ?_
              refine thenA_exit ?_
              cases h
              refine ⟨rfl, ?_⟩
              simp only [go_sem, seval, hb_1743T]
              all_goals ((repeat' refine And.intro ?_ ?_) <;> first | rfl | (simp; done) | (simp; rfl) | (simp [*]; done) | (simp [*]; rfl))
          · intro e s' hT
            rcases o_1751 with ⟨⟩ | r_1753
            · try simp only at h
              try simp only at hT
              obtain ⟨rfl, hle⟩ := hT
              refine Wk.to hle ?_
              clear hle
              refine blockA_here ?_
              refine thenA_n ?_
              refine awp_seq ?_
              refine awp_region ?_
              refine AL_upto (by exact rfl) (by simp only [go_sem, seval, hb_1716F, hb_1717T, hb_1724, hb_1725F]; exact rfl) ?_
              refine AL_nil ?_
              refine thenA_n ?_
              refine awp_ret ?_
              cases h
              refine retQ_ret (by simp only [Try.results69]; simp only [go_sem, seval, hb_1716F, hb_1717T, hb_1724, hb_1725F]; exact rfl) ?_
              simp only [go_sem, seval, hb_1716F, hb_1717T, hb_1724, hb_1725F]
              all_goals ((repeat' refine And.intro ?_ ?_) <;> first | rfl | (simp; done) | (simp; rfl) | (simp [*]; done) | (simp [*]; rfl))
            · try simp only at h
              try simp only at hT
              obtain ⟨rfl, hq⟩ := hT
              refine Wk.now ?_
              refine blockA_ret ?_
              refine thenA_ret ?_
              cases h
              exact hq
      · rw [if_neg hb_1724] at h
        have hb_1724F := Bool.eq_false_iff.2 hb_1724
        refine AL_known (d := 18) (v := .p (.bool true)) (by simp only [go_sem, seval, hb_1716F, hb_1717T, hb_1724F]) ?_
        refine AL_skips (by exact rfl) ?_
        refine AL_upto (by exact rfl) (by simp only [go_sem, seval, hb_1716F, hb_1717T, hb_1724F]; exact rfl) ?_
        refine AL_nil ?_
        refine thenA_n ?_
        refine awp_ct (by simp only [go_sem, seval, hb_1716F, hb_1717T, hb_1724F]) ?_
        refine awp_seq ?_
        refine awp_region ?_
        refine AL_upto (by exact rfl) (by simp only [go_sem, seval, hb_1716F, hb_1717T, hb_1724F]; exact rfl) ?_
        refine AL_nil ?_
        refine thenA_n ?_
        refine awp_ret ?_
        refine thenA_ret ?_
        cases h
        refine retQ_ret (by simp only [Try.results69]; simp only [go_sem, seval, hb_1716F, hb_1717T, hb_1724F]; exact rfl) ?_
        simp only [go_sem, seval, hb_1716F, hb_1717T, hb_1724F]
        all_goals ((repeat' refine And.intro ?_ ?_) <;> first | rfl | (simp; done) | (simp; rfl) | (simp [*]; done) | (simp [*]; rfl))
end Go.Proofs.Ytdmddoljldjjeaa
set_option linter.unusedVariables false
set_option linter.unusedSimpArgs false
namespace Go.Proofs.Ytdmddoljldjjeaa
open Go Go.Ab
set_option maxHeartbeats 4000000 in
theorem drossref03_Attr_con (l_1757 : List (List UInt8)) (name_1758 : List UInt8) (r_1777 : Int) (h : drossref03_Attr l_1757 name_1758 = some r_1777) : Con Try.prog 89 [(.slc (List.map PV.str l_1757)), (.str name_1758)] (.int .i64 r_1777) := by
  refine ⟨Try.call89, ?_⟩
  refine pure_of_awp Try.func89 rfl Try.ntmps89 (by simp) fun X w => ?_
  show AWp _ _ _ ⟨[(0, .p (.slc (List.map PV.str l_1757))), (1, .p (.str name_1758))], []⟩
  simp only [drossref03_Attr] at h
  refine awp_seq ?_
  refine awp_region ?_
  refine AL_upto (by exact rfl) (by simp only [go_sem, seval]; exact rfl) ?_
  refine AL_nil ?_
  refine thenA_n ?_
  refine awp_seq ?_
  refine awp_seq ?_
  refine awp_region ?_
  refine AL_upto (by exact rfl) (by simp only [go_sem, seval]; exact rfl) ?_
  refine AL_nil ?_
  refine thenA_n ?_
  refine awp_block ?_
  obtain ⟨o_1772, hL_1773, h⟩ := Option.bind_eq_some_iff.1 h
  refine awp_loop_L (fun (s : Int) => ⟨[(0, .p (.slc (List.map PV.str l_1757))), (1, .p (.str name_1758)), (5, .p (.int .i64 s))], []⟩) (fun (o : (Unit) ⊕ (Int)) (e : Exit) (s' : St) => match o with | .inl o_1775 => e = (.exit 0) ∧ Le ⟨Try.prog, Try.f89.ntmps, 0, X, [], fun _ => none, w⟩ s' ⟨[], []⟩ | .inr o_1776 => e = .ret ∧ retQ Try.prog Try.f89 (.int .i64 o_1776) .ret s') (by intro o s hT; rcases o with _ | _ <;> (have hh := hT.1; cases hh)) hL_1773 (by simp only [go_sem, seval]; all_goals ((repeat' refine And.intro ?_ ?_) <;> first | rfl | (simp; done) | (simp; rfl) | (simp [*]; done) | (simp [*]; rfl))) ?_ ?_
  · clear h
    intro i_1763 x h
    simp only [drossref03_Attr_l1] at h
    show AWp _ _ _ ⟨[(0, .p (.slc (List.map PV.str l_1757))), (1, .p (.str name_1758)), (5, .p (.int .i64 i_1763))], []⟩
    refine awp_seq ?_
    refine awp_seq ?_
    refine awp_region ?_
    refine AL_upto (by exact rfl) (by simp only [go_sem, seval]; exact rfl) ?_
    refine AL_nil ?_
    refine thenA_n ?_
    by_cases hb_1768 : i_1763 < (l_1757.length : Int)
    · rw [if_pos hb_1768] at h
      have hb_1768T := eq_true hb_1768
      refine awp_ct (by simp only [go_sem, seval, hb_1768T]) ?_
      refine awp_skip ?_
      refine thenA_n ?_
      refine awp_seq ?_
      refine awp_block ?_
      refine awp_seq ?_
      refine awp_region ?_
      obtain ⟨x_1769, hx_1770, h⟩ := Option.bind_eq_some_iff.1 h
      obtain ⟨hx_1770a, hx_1770, hx_1770b⟩ := idx_some hx_1770
      have hx_1770A := eq_true hx_1770a
      have hx_1770B := eq_true hx_1770b
      refine AL_upto (by exact rfl) (by simp only [go_sem, seval, hb_1768T, hx_1770, hx_1770A, hx_1770B]; exact rfl) ?_
      refine AL_nil ?_
      refine thenA_n ?_
      by_cases hb_1771 : (x_1769 == name_1758) = true
      · rw [if_pos hb_1771] at h
        refine awp_ct (by simp only [go_sem, seval, hb_1768T, hb_1771]) ?_
        refine awp_seq ?_
        refine awp_region ?_
        refine AL_upto (by exact rfl) (by simp only [go_sem, seval, hb_1768T, hb_1771]; exact rfl) ?_
        refine AL_nil ?_
        refine thenA_n ?_
        refine awp_ret ?_
        refine blockA_ret ?_
        refine thenA_ret ?_
        cases h
        refine ⟨rfl, ?_⟩
        refine retQ_ret (by simp only [Try.results89]; simp only [go_sem, seval, hb_1768T, hb_1771]; exact rfl) ?_
        simp only [go_sem, seval, hb_1768T, hb_1771]
        all_goals ((repeat' refine And.intro ?_ ?_) <;> first | rfl | (simp; done) | (simp; rfl) | (simp [*]; done) | (simp [*]; rfl))
      · rw [if_neg hb_1771] at h
        have hb_1771F := Bool.eq_false_iff.2 hb_1771
        refine awp_cf (by simp only [go_sem, seval, hb_1768T, hb_1771F]) ?_
        refine awp_skip ?_
        refine blockA_n ?_
        refine thenA_n ?_
        refine awp_region ?_
        refine AL_upto (by exact rfl) (by simp only [go_sem, seval, hb_1768T, hb_1771F]; exact rfl) ?_
        refine AL_nil ?_
        cases h
        refine ⟨rfl, ?_⟩
        simp only [go_sem, seval, hb_1768T, hb_1771F]
        all_goals ((repeat' refine And.intro ?_ ?_) <;> first | rfl | (simp; done) | (simp; rfl) | (simp [*]; done) | (simp [*]; rfl))
    · rw [if_neg hb_1768] at h
      have hb_1768T := eq_false hb_1768
      refine awp_cf (by simp only [go_sem, seval, hb_1768T]) ?_
      refine awp_exit ?_
      refine thenA_exit ?_
      cases h
      refine ⟨rfl, ?_⟩
      simp only [go_sem, seval, hb_1768T]
      all_goals ((repeat' refine And.intro ?_ ?_) <;> first | rfl | (simp; done) | (simp; rfl) | (simp [*]; done) | (simp [*]; rfl))
  · intro e s' hT
    rcases o_1772 with ⟨⟩ | r_1774
    · try simp only at h
      try simp only at hT
      obtain ⟨rfl, hle⟩ := hT
      refine Wk.to hle ?_
      clear hle
      refine blockA_here ?_
      refine thenA_n ?_
      refine awp_seq ?_
      refine awp_region ?_
      refine AL_upto (by exact rfl) (by simp only [go_sem, seval]; exact rfl) ?_
      refine AL_nil ?_
      refine thenA_n ?_
      refine awp_ret ?_
      cases h
      refine retQ_ret (by simp only [Try.results89]; simp only [go_sem, seval]; exact rfl) ?_
      simp only [go_sem, seval]
      all_goals ((repeat' refine And.intro ?_ ?_) <;> first | rfl | (simp; done) | (simp; rfl) | (simp [*]; done) | (simp [*]; rfl))
    · try simp only at h
      try simp only at hT
      obtain ⟨rfl, hq⟩ := hT
      refine Wk.now ?_
      refine blockA_ret ?_
      refine thenA_ret ?_
      cases h
      exact hq
end Go.Proofs.Ytdmddoljldjjeaa
set_option linter.unusedVariables false
set_option linter.unusedSimpArgs false
namespace Go.Proofs.Ytdmddoljldjjeaa
open Go Go.Ab
set_option maxHeartbeats 4000000 in
theorem drossref03_Names_con (l_1778 : List (List UInt8)) (r_1822 : Bool) (h : drossref03_Names l_1778 = some r_1822) : Con Try.prog 70 [(.slc (List.map PV.str l_1778))] (.bool r_1822) := by
  refine ⟨Try.call70, ?_⟩
  refine pure_of_awp Try.func70 rfl Try.ntmps70 (by simp) fun X w => ?_
  show AWp _ _ _ ⟨[(0, .p (.slc (List.map PV.str l_1778)))], []⟩
  simp only [drossref03_Names] at h
  refine awp_seq ?_
  refine awp_region ?_
  refine AL_upto (by exact rfl) (by simp only [go_sem, seval]; exact rfl) ?_
  refine AL_nil ?_
  refine thenA_n ?_
  refine awp_seq ?_
  refine awp_seq ?_
  refine awp_region ?_
  refine AL_upto (by exact rfl) (by simp only [go_sem, seval]; exact rfl) ?_
  refine AL_nil ?_
  refine thenA_n ?_
  refine awp_block ?_
  obtain ⟨o_1817, hL_1818, h⟩ := Option.bind_eq_some_iff.1 h
  refine awp_loop_L (fun (s : Int) => ⟨[(0, .p (.slc (List.map PV.str l_1778))), (3, .p (.int .i64 s))], []⟩) (fun (o : (Unit) ⊕ (Bool)) (e : Exit) (s' : St) => match o with | .inl o_1820 => e = (.exit 0) ∧ Le ⟨Try.prog, Try.f70.ntmps, 0, X, [], fun _ => none, w⟩ s' ⟨[], []⟩ | .inr o_1821 => e = .ret ∧ retQ Try.prog Try.f70 (.bool o_1821) .ret s') (by intro o s hT; rcases o with _ | _ <;> (have hh := hT.1; cases hh)) hL_1818 (by simp only [go_sem, seval]; all_goals ((repeat' refine And.intro ?_ ?_) <;> first | rfl | (simp; done) | (simp; rfl) | (simp [*]; done) | (simp [*]; rfl))) ?_ ?_
  · clear h
    intro i_1790 x h
    simp only [drossref03_Names_l1] at h
    show AWp _ _ _ ⟨[(0, .p (.slc (List.map PV.str l_1778))), (3, .p (.int .i64 i_1790))], []⟩
    refine awp_seq ?_
    refine awp_seq ?_
    refine awp_region ?_
    refine AL_upto (by exact rfl) (by simp only [go_sem, seval]; exact rfl) ?_
    refine AL_nil ?_
    refine thenA_n ?_
    by_cases hb_1804 : i_1790 < (l_1778.length : Int)
    · rw [if_pos hb_1804] at h
      have hb_1804T := eq_true hb_1804
      refine awp_ct (by simp only [go_sem, seval, hb_1804T]) ?_
      refine awp_skip ?_
      refine thenA_n ?_
      refine awp_seq ?_
      refine awp_block ?_
      refine awp_seq ?_
      refine awp_drawn_walk mixed (by decide) ?_
      obtain ⟨x_1805, hx_1806, h⟩ := Option.bind_eq_some_iff.1 h
      obtain ⟨hx_1806a, hx_1806, hx_1806b⟩ := idx_some hx_1806
      have hx_1806A := eq_true hx_1806a
      have hx_1806B := eq_true hx_1806b
      refine DGo.upto (by exact rfl) (by simp only [go_sem, seval, hb_1804T, hx_1806, hx_1806A, hx_1806B]; exact ⟨rfl, rfl⟩) ?_
      obtain ⟨r_1807, hr_1808, h⟩ := Option.bind_eq_some_iff.1 h
      refine DGo.con' rfl (guard_none rfl) rfl (by simp only [go_sem, seval, hb_1804T]; exact rfl) (by simp only [go_sem, seval, hb_1804T]; all_goals ((repeat' refine And.intro ?_ ?_) <;> first | rfl | (simp; done) | (simp; rfl) | (simp [*]; done) | (simp [*]; rfl))) (by simp only [go_sem, seval, hb_1804T]; exact rfl) (drossref03_Name_con x_1805 _ hr_1808) (.inr rfl) rfl ?_
      refine DGo.upto (by exact rfl) (by simp only [go_sem, seval, hb_1804T]; exact ⟨rfl, rfl⟩) ?_
      by_cases hb_1809 : r_1807 = true
      · rw [if_pos hb_1809] at h
        refine DGo.known' (d := 16) (v := .p (.bool false)) (by simp only [go_sem, seval, hb_1804T, hb_1809]) ?_
        refine DGo.gt' (guard_true' rfl rfl (by exact rfl) (by exact rfl)) rfl (by simp only [go_sem, seval, hb_1804T, hb_1809]; exact ⟨rfl, rfl⟩) ?_
        refine DGo.gt' (guard_true' rfl rfl (by exact rfl) (by exact rfl)) rfl (by simp only [go_sem, seval, hb_1804T, hb_1809]; exact ⟨rfl, rfl⟩) ?_
        obtain ⟨hc_1812, h⟩ := ite_some h
        have hc_1812T := eq_true hc_1812
        obtain ⟨hc_1813, h⟩ := ite_some h
        have hc_1813T := eq_true hc_1813
        refine DGo.gt' (guard_true' rfl rfl (by exact rfl) (by exact rfl)) rfl (by simp only [go_sem, seval, hb_1804T, hb_1809, hc_1812T, hc_1813T]; exact ⟨rfl, rfl⟩) ?_
        refine DGo.gt' (guard_true' rfl rfl (by exact rfl) (by exact rfl)) rfl (by simp only [go_sem, seval, hb_1804T, hb_1809]; exact ⟨rfl, rfl⟩) ?_
        refine DGo.gt' (guard_true' rfl rfl (by exact rfl) (by exact rfl)) rfl (by simp only [go_sem, seval, hb_1804T, hb_1809]; exact ⟨rfl, rfl⟩) ?_
        refine DGo.gt' (guard_true' rfl rfl (by exact rfl) (by exact rfl)) rfl (by simp only [go_sem, seval, hb_1804T, hb_1809, hx_1806, hx_1806A, hx_1806B]; exact ⟨rfl, rfl⟩) ?_
        refine DGo.gt' (guard_true' rfl rfl (by exact rfl) (by exact rfl)) rfl (by simp only [go_sem, seval, hb_1804T, hb_1809]; exact ⟨rfl, rfl⟩) ?_
        obtain ⟨r_1814, hr_1815, h⟩ := Option.bind_eq_some_iff.1 h
        refine DGo.con' rfl (guard_true' rfl rfl (by exact rfl) (by exact rfl)) rfl (by simp only [go_sem, seval, hb_1804T, hb_1809]; exact rfl) (by simp only [go_sem, seval, hb_1804T, hb_1809]; all_goals ((repeat' refine And.intro ?_ ?_) <;> first | rfl | (simp; done) | (simp; rfl) | (simp [*]; done) | (simp [*]; rfl))) (by simp only [go_sem, seval, hb_1804T, hb_1809]; exact rfl) (drossref03_Attr_con (l_1778.take (i_1790.toNat)) x_1805 _ hr_1815) (.inr rfl) rfl ?_
        refine DGo.gt' (guard_true' rfl rfl (by exact rfl) (by exact rfl)) rfl (by simp only [go_sem, seval, hb_1804T, hb_1809]; exact ⟨rfl, rfl⟩) ?_
        refine DGo.upto (by exact rfl) (by simp only [go_sem, seval, hb_1804T, hb_1809]; exact ⟨rfl, rfl⟩) ?_
        refine DGo.fin rfl ?_
        refine thenA_n ?_
        by_cases hb_1816 : r_1814 ≥ 0
        · rw [if_pos hb_1816] at h
          have hb_1816T := eq_true hb_1816
          refine awp_ct (by simp only [go_sem, seval, hb_1804T, hb_1809, hb_1816T]) ?_
          refine awp_seq ?_
          refine awp_region ?_
          refine AL_upto (by exact rfl) (by simp only [go_sem, seval, hb_1804T, hb_1809, hb_1816T]; exact rfl) ?_
          refine AL_nil ?_
          refine thenA_n ?_
          refine awp_ret ?_
          refine blockA_ret ?_
          refine thenA_ret ?_
          cases h
          refine ⟨rfl, ?_⟩
          refine retQ_ret (by simp only [Try.results70]; simp only [go_sem, seval, hb_1804T, hb_1809, hb_1816T]; exact rfl) ?_
          simp only [go_sem, seval, hb_1804T, hb_1809, hb_1816T]
          all_goals ((repeat' refine And.intro ?_ ?_) <;> first | rfl | (simp; done) | (simp; rfl) | (simp [*]; done) | (simp [*]; rfl))
        · rw [if_neg hb_1816] at h
          have hb_1816T := eq_false hb_1816
          refine awp_cf (by simp only [go_sem, seval, hb_1804T, hb_1809, hb_1816T]) ?_
          refine awp_skip ?_
          refine blockA_n ?_
          refine thenA_n ?_
          refine awp_region ?_
          refine AL_upto (by exact rfl) (by simp only [go_sem, seval, hb_1804T, hb_1809, hb_1816T]; exact rfl) ?_
          refine AL_nil ?_
          cases h
          refine ⟨rfl, ?_⟩
          simp only [go_sem, seval, hb_1804T, hb_1809, hb_1816T]
          all_goals ((repeat' refine And.intro ?_ ?_) <;> first | rfl | (simp; done) | (simp; rfl) | (simp [*]; done) | (simp [*]; rfl))
      · rw [if_neg hb_1809] at h
        have hb_1809F := Bool.eq_false_iff.2 hb_1809
        refine DGo.known' (d := 16) (v := .p (.bool true)) (by simp only [go_sem, seval, hb_1804T, hb_1809F]) ?_
        refine DGo.skips (by exact rfl) ?_
        refine DGo.upto (by exact rfl) (by simp only [go_sem, seval, hb_1804T, hb_1809F]; exact ⟨rfl, rfl⟩) ?_
        refine DGo.fin rfl ?_
        refine thenA_n ?_
        refine awp_ct (by simp only [go_sem, seval, hb_1804T, hb_1809F]) ?_
        refine awp_seq ?_
        refine awp_region ?_
        refine AL_upto (by exact rfl) (by simp only [go_sem, seval, hb_1804T, hb_1809F]; exact rfl) ?_
        refine AL_nil ?_
        refine thenA_n ?_
        refine awp_ret ?_
        refine blockA_ret ?_
        refine thenA_ret ?_
        cases h
        refine ⟨rfl, ?_⟩
        refine retQ_ret (by simp only [Try.results70]; simp only [go_sem, seval, hb_1804T, hb_1809F]; exact rfl) ?_
        simp only [go_sem, seval, hb_1804T, hb_1809F]
        all_goals ((repeat' refine And.intro ?_ ?_) <;> first | rfl | (simp; done) | (simp; rfl) | (simp [*]; done) | (simp [*]; rfl))
    · rw [if_neg hb_1804] at h
      have hb_1804T := eq_false hb_1804
      refine awp_cf (by simp only [go_sem, seval, hb_1804T]) ?_
      refine awp_exit ?_
      refine thenA_exit ?_
      cases h
      refine ⟨rfl, ?_⟩
      simp only [go_sem, seval, hb_1804T]
      all_goals ((repeat' refine And.intro ?_ ?_) <;> first | rfl | (simp; done) | (simp; rfl) | (simp [*]; done) | (simp [*]; rfl))
  · intro e s' hT
    rcases o_1817 with ⟨⟩ | r_1819
    · try simp only at h
      try simp only at hT
      obtain ⟨rfl, hle⟩ := hT
      refine Wk.to hle ?_
      clear hle
      refine blockA_here ?_
      refine thenA_n ?_
      refine awp_seq ?_
      refine awp_region ?_
      refine AL_upto (by exact rfl) (by simp only [go_sem, seval]; exact rfl) ?_
      refine AL_nil ?_
      refine thenA_n ?_
      refine awp_ret ?_
      cases h
      refine retQ_ret (by simp only [Try.results70]; simp only [go_sem, seval]; exact rfl) ?_
      simp only [go_sem, seval]
      all_goals ((repeat' refine And.intro ?_ ?_) <;> first | rfl | (simp; done) | (simp; rfl) | (simp [*]; done) | (simp [*]; rfl))
    · try simp only at h
      try simp only at hT
      obtain ⟨rfl, hq⟩ := hT
      refine Wk.now ?_
      refine blockA_ret ?_
      refine thenA_ret ?_
      cases h
      exact hq
end Go.Proofs.Ytdmddoljldjjeaa
set_option linter.unusedVariables false
set_option linter.unusedSimpArgs false
namespace Go.Proofs.Ytdmddoljldjjeaa
open Go Go.Ab
set_option maxHeartbeats 4000000 in
theorem drossref03_Valid_con (t_1823 : Table) (r_1869 : Int) (h : drossref03_Valid t_1823 = some r_1869) : Con Try.prog 42 [(encTable t_1823)] (.int .i64 r_1869) := by
  refine ⟨Try.call42, ?_⟩
  refine pure_of_awp Try.func42 rfl Try.ntmps42 (by simp) fun X w => ?_
  show AWp _ _ _ ⟨[(0, .p (encTable t_1823))], []⟩
  simp only [drossref03_Valid] at h
  refine awp_seq ?_
  refine awp_region ?_
  refine AL_upto (by exact rfl) (by simp only [go_sem, seval]; exact rfl) ?_
  refine AL_nil ?_
  refine thenA_n ?_
  refine awp_seq ?_
  refine awp_seq ?_
  refine awp_region ?_
  refine AL_upto (by exact rfl) (by simp only [go_sem, seval]; exact rfl) ?_
  obtain ⟨r_1824, hr_1825, h⟩ := Option.bind_eq_some_iff.1 h
  refine AL_con' rfl (guard_none rfl) rfl (by simp only [go_sem, seval]; exact rfl) (by simp only [go_sem, seval]; all_goals ((repeat' refine And.intro ?_ ?_) <;> first | rfl | (simp; done) | (simp; rfl) | (simp [*]; done) | (simp [*]; rfl))) (drossref03_Name_con t_1823.Name _ hr_1825) (.inr rfl) rfl ?_
  refine AL_upto (by exact rfl) (by simp only [go_sem, seval]; exact rfl) ?_
  refine AL_nil ?_
  refine thenA_n ?_
  by_cases hb_1826 : r_1824 = true
  · rw [if_pos hb_1826] at h
    refine awp_cf (by simp only [go_sem, seval, hb_1826]) ?_
    refine awp_skip ?_
    refine thenA_n ?_
    refine awp_seq ?_
    refine awp_seq ?_
    refine awp_region ?_
    refine AL_upto (by exact rfl) (by simp only [go_sem, seval, hb_1826]; exact rfl) ?_
    by_cases hb_1827 : (t_1823.Attrs.length : Int) > 16
    · rw [if_pos hb_1827] at h
      have hb_1827T := eq_true hb_1827
      refine AL_known (d := 14) (v := .p (.bool true)) (by simp only [go_sem, seval, hb_1826, hb_1827T]) ?_
      refine AL_skips (by exact rfl) ?_
      refine AL_upto (by exact rfl) (by simp only [go_sem, seval, hb_1826, hb_1827T]; exact rfl) ?_
      refine AL_nil ?_
      refine thenA_n ?_
      refine awp_ct (by simp only [go_sem, seval, hb_1826, hb_1827T]) ?_
      refine awp_seq ?_
      refine awp_region ?_
      refine AL_upto (by exact rfl) (by simp only [go_sem, seval, hb_1826, hb_1827T]; exact rfl) ?_
      refine AL_nil ?_
      refine thenA_n ?_
      refine awp_ret ?_
      refine thenA_ret ?_
      cases h
      refine retQ_ret (by simp only [Try.results42]; simp only [go_sem, seval, hb_1826, hb_1827T]; exact rfl) ?_
      simp only [go_sem, seval, hb_1826, hb_1827T]
      all_goals ((repeat' refine And.intro ?_ ?_) <;> first | rfl | (simp; done) | (simp; rfl) | (simp [*]; done) | (simp [*]; rfl))
    · rw [if_neg hb_1827] at h
      have hb_1827T := eq_false hb_1827
      refine AL_known (d := 14) (v := .p (.bool false)) (by simp only [go_sem, seval, hb_1826, hb_1827T]) ?_
      refine AL_gt' (guard_true' rfl rfl (by exact rfl) (by exact rfl)) rfl (by simp only [go_sem, seval, hb_1826, hb_1827T]; exact rfl) ?_
      refine AL_gt' (guard_true' rfl rfl (by exact rfl) (by exact rfl)) rfl (by simp only [go_sem, seval, hb_1826, hb_1827T]; exact rfl) ?_
      refine AL_gt' (guard_true' rfl rfl (by exact rfl) (by exact rfl)) rfl (by simp only [go_sem, seval, hb_1826, hb_1827T]; exact rfl) ?_
      refine AL_gt' (guard_true' rfl rfl (by exact rfl) (by exact rfl)) rfl (by simp only [go_sem, seval, hb_1826, hb_1827T]; exact rfl) ?_
      refine AL_upto (by exact rfl) (by simp only [go_sem, seval, hb_1826, hb_1827T]; exact rfl) ?_
      refine AL_nil ?_
      refine thenA_n ?_
      by_cases hb_1828 : (t_1823.Rows.length : Int) > 1000
      · rw [if_pos hb_1828] at h
        have hb_1828T := eq_true hb_1828
        refine awp_ct (by simp only [go_sem, seval, hb_1826, hb_1827T, hb_1828T]) ?_
        refine awp_seq ?_
        refine awp_region ?_
        refine AL_upto (by exact rfl) (by simp only [go_sem, seval, hb_1826, hb_1827T, hb_1828T]; exact rfl) ?_
        refine AL_nil ?_
        refine thenA_n ?_
        refine awp_ret ?_
        refine thenA_ret ?_
        cases h
        refine retQ_ret (by simp only [Try.results42]; simp only [go_sem, seval, hb_1826, hb_1827T, hb_1828T]; exact rfl) ?_
        simp only [go_sem, seval, hb_1826, hb_1827T, hb_1828T]
        all_goals ((repeat' refine And.intro ?_ ?_) <;> first | rfl | (simp; done) | (simp; rfl) | (simp [*]; done) | (simp [*]; rfl))
      · rw [if_neg hb_1828] at h
        have hb_1828T := eq_false hb_1828
        refine awp_cf (by simp only [go_sem, seval, hb_1826, hb_1827T, hb_1828T]) ?_
        refine awp_skip ?_
        refine thenA_n ?_
        refine awp_seq ?_
        refine awp_seq ?_
        refine awp_region ?_
        refine AL_upto (by exact rfl) (by simp only [go_sem, seval, hb_1826, hb_1827T, hb_1828T]; exact rfl) ?_
        obtain ⟨r_1829, hr_1830, h⟩ := Option.bind_eq_some_iff.1 h
        refine AL_con' rfl (guard_none rfl) rfl (by simp only [go_sem, seval, hb_1826, hb_1827T, hb_1828T]; exact rfl) (by simp only [go_sem, seval, hb_1826, hb_1827T, hb_1828T]; all_goals ((repeat' refine And.intro ?_ ?_) <;> first | rfl | (simp; done) | (simp; rfl) | (simp [*]; done) | (simp [*]; rfl))) (drossref03_Names_con t_1823.Attrs _ hr_1830) (.inr rfl) rfl ?_
        refine AL_upto (by exact rfl) (by simp only [go_sem, seval, hb_1826, hb_1827T, hb_1828T]; exact rfl) ?_
        refine AL_nil ?_
        refine thenA_n ?_
        by_cases hb_1831 : r_1829 = true
        · rw [if_pos hb_1831] at h
          refine awp_cf (by simp only [go_sem, seval, hb_1826, hb_1827T, hb_1828T, hb_1831]) ?_
          refine awp_skip ?_
          refine thenA_n ?_
          refine awp_seq ?_
          refine awp_region ?_
          refine AL_upto (by exact rfl) (by simp only [go_sem, seval, hb_1826, hb_1827T, hb_1828T, hb_1831]; exact rfl) ?_
          refine AL_nil ?_
          refine thenA_n ?_
          refine awp_seq ?_
          refine awp_seq ?_
          refine awp_region ?_
          refine AL_upto (by exact rfl) (by simp only [go_sem, seval, hb_1826, hb_1827T, hb_1828T, hb_1831]; exact rfl) ?_
          refine AL_nil ?_
          refine thenA_n ?_
          refine awp_block ?_
          obtain ⟨o_1864, hL_1865, h⟩ := Option.bind_eq_some_iff.1 h
          refine awp_loop_L (fun (s : Int × Int) => ⟨[(1, .loc 1 1 0 0), (3, .p (.int .i64 s.1)), (4, .p (.int .i64 s.2))], [(1, .arr 52 3 1 [.p (encTable t_1823)])]⟩) (fun (o : (Unit) ⊕ (Int)) (e : Exit) (s' : St) => match o with | .inl o_1867 => e = (.exit 0) ∧ Le ⟨Try.prog, Try.f42.ntmps, 0, X, [], fun _ => none, w⟩ s' ⟨[], []⟩ | .inr o_1868 => e = .ret ∧ retQ Try.prog Try.f42 (.int .i64 o_1868) .ret s') (by intro o s hT; rcases o with _ | _ <;> (have hh := hT.1; cases hh)) hL_1865 (by simp only [go_sem, seval, hb_1826, hb_1827T, hb_1828T, hb_1831]; all_goals ((repeat' refine And.intro ?_ ?_) <;> first | rfl | (simp; done) | (simp; rfl) | (simp [*]; done) | (simp [*]; rfl))) ?_ ?_
          · clear h
            intro s x h
            obtain ⟨before_1842, i_1843⟩ := s
            simp only [drossref03_Valid_l1] at h
            show AWp _ _ _ ⟨[(1, .loc 1 1 0 0), (3, .p (.int .i64 before_1842)), (4, .p (.int .i64 i_1843))], [(1, .arr 52 3 1 [.p (encTable t_1823)])]⟩
            refine awp_seq ?_
            refine awp_seq ?_
            refine awp_region ?_
            refine AL_upto (by exact rfl) (by simp only [go_sem, seval]; exact rfl) ?_
            refine AL_nil ?_
            refine thenA_n ?_
            by_cases hb_1854 : i_1843 < (t_1823.Rows.length : Int)
            · rw [if_pos hb_1854] at h
              have hb_1854T := eq_true hb_1854
              refine awp_ct (by simp only [go_sem, seval, hb_1854T]) ?_
              refine awp_skip ?_
              refine thenA_n ?_
              refine awp_seq ?_
              refine awp_block ?_
              refine awp_seq ?_
              refine awp_region ?_
              obtain ⟨x_1857, hx_1858, h⟩ := Option.bind_eq_some_iff.1 h
              obtain ⟨hx_1858a, hx_1858, hx_1858b⟩ := idx_some hx_1858
              have hx_1858A := eq_true hx_1858a
              have hx_1858B := eq_true hx_1858b
              refine AL_upto (by exact rfl) (by simp only [go_sem, seval, hb_1854T, hx_1858, hx_1858A, hx_1858B]; exact rfl) ?_
              refine AL_nil ?_
              refine thenA_n ?_
              refine awp_seq ?_
              refine awp_seq ?_
              refine awp_region ?_
              refine AL_upto (by exact rfl) (by simp only [go_sem, seval, hb_1854T]; exact rfl) ?_
              refine AL_nil ?_
              refine thenA_n ?_
              by_cases hb_1859 : x_1857.ID ≤ before_1842
              · rw [if_pos hb_1859] at h
                have hb_1859T := eq_true hb_1859
                refine awp_ct (by simp only [go_sem, seval, hb_1854T, hb_1859T]) ?_
                refine awp_seq ?_
                refine awp_region ?_
                refine AL_upto (by exact rfl) (by simp only [go_sem, seval, hb_1854T, hb_1859T]; exact rfl) ?_
                refine AL_nil ?_
                refine thenA_n ?_
                refine awp_ret ?_
                refine thenA_ret ?_
                refine blockA_ret ?_
                refine thenA_ret ?_
                cases h
                refine ⟨rfl, ?_⟩
                refine retQ_ret (by simp only [Try.results42]; simp only [go_sem, seval, hb_1854T, hb_1859T]; exact rfl) ?_
                simp only [go_sem, seval, hb_1854T, hb_1859T]
                all_goals ((repeat' refine And.intro ?_ ?_) <;> first | rfl | (simp; done) | (simp; rfl) | (simp [*]; done) | (simp [*]; rfl))
              · rw [if_neg hb_1859] at h
                have hb_1859T := eq_false hb_1859
                refine awp_cf (by simp only [go_sem, seval, hb_1854T, hb_1859T]) ?_
                refine awp_skip ?_
                refine thenA_n ?_
                refine awp_seq ?_
                refine awp_region ?_
                refine AL_upto (by exact rfl) (by simp only [go_sem, seval, hb_1854T, hb_1859T]; exact rfl) ?_
                refine AL_nil ?_
                refine thenA_n ?_
                refine awp_seq ?_
                refine awp_seq ?_
                refine awp_region ?_
                refine AL_upto (by exact rfl) (by simp only [go_sem, seval, hb_1854T, hb_1859T]; exact rfl) ?_
                refine AL_nil ?_
                refine thenA_n ?_
                by_cases hb_1860 : ((x_1857.Values.length : Int) != (t_1823.Attrs.length : Int)) = true
                · rw [if_pos hb_1860] at h
                  refine awp_ct (by simp only [go_sem, seval, hb_1854T, hb_1859T, hb_1860]) ?_
                  refine awp_seq ?_
                  refine awp_region ?_
                  refine AL_upto (by exact rfl) (by simp only [go_sem, seval, hb_1854T, hb_1859T, hb_1860]; exact rfl) ?_
                  refine AL_nil ?_
                  refine thenA_n ?_
                  refine awp_ret ?_
                  refine thenA_ret ?_
                  refine blockA_ret ?_
                  refine thenA_ret ?_
                  cases h
                  refine ⟨rfl, ?_⟩
                  refine retQ_ret (by simp only [Try.results42]; simp only [go_sem, seval, hb_1854T, hb_1859T, hb_1860]; exact rfl) ?_
                  simp only [go_sem, seval, hb_1854T, hb_1859T, hb_1860]
                  all_goals ((repeat' refine And.intro ?_ ?_) <;> first | rfl | (simp; done) | (simp; rfl) | (simp [*]; done) | (simp [*]; rfl))
                · rw [if_neg hb_1860] at h
                  have hb_1860F := Bool.eq_false_iff.2 hb_1860
                  refine awp_cf (by simp only [go_sem, seval, hb_1854T, hb_1859T, hb_1860F]) ?_
                  refine awp_skip ?_
                  refine thenA_n ?_
                  refine awp_seq ?_
                  refine awp_region ?_
                  refine AL_upto (by exact rfl) (by simp only [go_sem, seval, hb_1854T, hb_1859T, hb_1860F]; exact rfl) ?_
                  obtain ⟨r_1861, hr_1862, h⟩ := Option.bind_eq_some_iff.1 h
                  refine AL_con' rfl (guard_none rfl) rfl (by simp only [go_sem, seval, hb_1854T, hb_1859T, hb_1860F]; exact rfl) (by simp only [go_sem, seval, hb_1854T, hb_1859T, hb_1860F]; all_goals ((repeat' refine And.intro ?_ ?_) <;> first | rfl | (simp; done) | (simp; rfl) | (simp [*]; done) | (simp [*]; rfl))) (drossref01_Valids_con x_1857.Values _ hr_1862) (.inr rfl) rfl ?_
                  refine AL_upto (by exact rfl) (by simp only [go_sem, seval, hb_1854T, hb_1859T, hb_1860F]; exact rfl) ?_
                  refine AL_nil ?_
                  refine thenA_n ?_
                  by_cases hb_1863 : r_1861 = true
                  · rw [if_pos hb_1863] at h
                    refine awp_cf (by simp only [go_sem, seval, hb_1854T, hb_1859T, hb_1860F, hb_1863]) ?_
                    refine awp_skip ?_
                    refine blockA_n ?_
                    refine thenA_n ?_
                    refine awp_region ?_
                    refine AL_upto (by exact rfl) (by simp only [go_sem, seval, hb_1854T, hb_1859T, hb_1860F, hb_1863]; exact rfl) ?_
                    refine AL_nil ?_
                    cases h
                    refine ⟨rfl, ?_⟩
                    simp only [go_sem, seval, hb_1854T, hb_1859T, hb_1860F, hb_1863]
                    all_goals ((repeat' refine And.intro ?_ ?_) <;> first | rfl | (simp; done) | (simp; rfl) | (simp [*]; done) | (simp [*]; rfl))
                  · rw [if_neg hb_1863] at h
                    have hb_1863F := Bool.eq_false_iff.2 hb_1863
                    refine awp_ct (by simp only [go_sem, seval, hb_1854T, hb_1859T, hb_1860F, hb_1863F]) ?_
                    refine awp_seq ?_
                    refine awp_region ?_
                    refine AL_upto (by exact rfl) (by simp only [go_sem, seval, hb_1854T, hb_1859T, hb_1860F, hb_1863F]; exact rfl) ?_
                    refine AL_nil ?_
                    refine thenA_n ?_
                    refine awp_ret ?_
                    refine blockA_ret ?_
                    refine thenA_ret ?_
                    cases h
                    refine ⟨rfl, ?_⟩
                    refine retQ_ret (by simp only [Try.results42]; simp only [go_sem, seval, hb_1854T, hb_1859T, hb_1860F, hb_1863F]; exact rfl) ?_
                    simp only [go_sem, seval, hb_1854T, hb_1859T, hb_1860F, hb_1863F]
                    all_goals ((repeat' refine And.intro ?_ ?_) <;> first | rfl | (simp; done) | (simp; rfl) | (simp [*]; done) | (simp [*]; rfl))
            · rw [if_neg hb_1854] at h
              have hb_1854T := eq_false hb_1854
              refine awp_cf (by simp only [go_sem, seval, hb_1854T]) ?_
              refine awp_exit ?_
              refine thenA_exit ?_
              cases h
              refine ⟨rfl, ?_⟩
              simp only [go_sem, seval, hb_1854T]
              all_goals ((repeat' refine And.intro ?_ ?_) <;> first | rfl | (simp; done) | (simp; rfl) | (simp [*]; done) | (simp [*]; rfl))
          · intro e s' hT
            rcases o_1864 with ⟨⟩ | r_1866
            · try simp only at h
              try simp only at hT
              obtain ⟨rfl, hle⟩ := hT
              refine Wk.to hle ?_
              clear hle
              refine blockA_here ?_
              refine thenA_n ?_
              refine awp_seq ?_
              refine awp_region ?_
              refine AL_upto (by exact rfl) (by simp only [go_sem, seval, hb_1826, hb_1827T, hb_1828T, hb_1831]; exact rfl) ?_
              refine AL_nil ?_
              refine thenA_n ?_
              refine awp_ret ?_
              cases h
              refine retQ_ret (by simp only [Try.results42]; simp only [go_sem, seval, hb_1826, hb_1827T, hb_1828T, hb_1831]; exact rfl) ?_
              simp only [go_sem, seval, hb_1826, hb_1827T, hb_1828T, hb_1831]
              all_goals ((repeat' refine And.intro ?_ ?_) <;> first | rfl | (simp; done) | (simp; rfl) | (simp [*]; done) | (simp [*]; rfl))
            · try simp only at h
              try simp only at hT
              obtain ⟨rfl, hq⟩ := hT
              refine Wk.now ?_
              refine blockA_ret ?_
              refine thenA_ret ?_
              cases h
              exact hq
        · rw [if_neg hb_1831] at h
          have hb_1831F := Bool.eq_false_iff.2 hb_1831
          refine awp_ct (by simp only [go_sem, seval, hb_1826, hb_1827T, hb_1828T, hb_1831F]) ?_
          refine awp_seq ?_
          refine awp_region ?_
          refine AL_upto (by exact rfl) (by simp only [go_sem, seval, hb_1826, hb_1827T, hb_1828T, hb_1831F]; exact rfl) ?_
          refine AL_nil ?_
          refine thenA_n ?_
          refine awp_ret ?_
          refine thenA_ret ?_
          cases h
          refine retQ_ret (by simp only [Try.results42]; simp only [go_sem, seval, hb_1826, hb_1827T, hb_1828T, hb_1831F]; exact rfl) ?_
          simp only [go_sem, seval, hb_1826, hb_1827T, hb_1828T, hb_1831F]
          all_goals ((repeat' refine And.intro ?_ ?_) <;> first | rfl | (simp; done) | (simp; rfl) | (simp [*]; done) | (simp [*]; rfl))
  · rw [if_neg hb_1826] at h
    have hb_1826F := Bool.eq_false_iff.2 hb_1826
    refine awp_ct (by simp only [go_sem, seval, hb_1826F]) ?_
    refine awp_seq ?_
    refine awp_region ?_
    refine AL_upto (by exact rfl) (by simp only [go_sem, seval, hb_1826F]; exact rfl) ?_
    refine AL_nil ?_
    refine thenA_n ?_
    refine awp_ret ?_
    refine thenA_ret ?_
    cases h
    refine retQ_ret (by simp only [Try.results42]; simp only [go_sem, seval, hb_1826F]; exact rfl) ?_
    simp only [go_sem, seval, hb_1826F]
    all_goals ((repeat' refine And.intro ?_ ?_) <;> first | rfl | (simp; done) | (simp; rfl) | (simp [*]; done) | (simp [*]; rfl))
end Go.Proofs.Ytdmddoljldjjeaa
set_option linter.unusedVariables false
set_option linter.unusedSimpArgs false
namespace Go.Proofs.Ytdmddoljldjjeaa
open Go Go.Ab
set_option maxHeartbeats 4000000 in
theorem drossref03_Has_con (l_1870 : List Int) (id_1871 : Int) (r_1890 : Bool) (h : drossref03_Has l_1870 id_1871 = some r_1890) : Con Try.prog 44 [(.slc (List.map (PV.int .i64) l_1870)), (.int .i64 id_1871)] (.bool r_1890) := by
  refine ⟨Try.call44, ?_⟩
  refine pure_of_awp Try.func44 rfl Try.ntmps44 (by simp) fun X w => ?_
  show AWp _ _ _ ⟨[(0, .p (.slc (List.map (PV.int .i64) l_1870))), (1, .p (.int .i64 id_1871))], []⟩
  simp only [drossref03_Has] at h
  refine awp_seq ?_
  refine awp_region ?_
  refine AL_upto (by exact rfl) (by simp only [go_sem, seval]; exact rfl) ?_
  refine AL_nil ?_
  refine thenA_n ?_
  refine awp_seq ?_
  refine awp_seq ?_
  refine awp_region ?_
  refine AL_upto (by exact rfl) (by simp only [go_sem, seval]; exact rfl) ?_
  refine AL_nil ?_
  refine thenA_n ?_
  refine awp_block ?_
  obtain ⟨o_1885, hL_1886, h⟩ := Option.bind_eq_some_iff.1 h
  refine awp_loop_L (fun (s : Int) => ⟨[(0, .p (.slc (List.map (PV.int .i64) l_1870))), (1, .p (.int .i64 id_1871)), (5, .p (.int .i64 s))], []⟩) (fun (o : (Unit) ⊕ (Bool)) (e : Exit) (s' : St) => match o with | .inl o_1888 => e = (.exit 0) ∧ Le ⟨Try.prog, Try.f44.ntmps, 0, X, [], fun _ => none, w⟩ s' ⟨[], []⟩ | .inr o_1889 => e = .ret ∧ retQ Try.prog Try.f44 (.bool o_1889) .ret s') (by intro o s hT; rcases o with _ | _ <;> (have hh := hT.1; cases hh)) hL_1886 (by simp only [go_sem, seval]; all_goals ((repeat' refine And.intro ?_ ?_) <;> first | rfl | (simp; done) | (simp; rfl) | (simp [*]; done) | (simp [*]; rfl))) ?_ ?_
  · clear h
    intro i_1876 x h
    simp only [drossref03_Has_l1] at h
    show AWp _ _ _ ⟨[(0, .p (.slc (List.map (PV.int .i64) l_1870))), (1, .p (.int .i64 id_1871)), (5, .p (.int .i64 i_1876))], []⟩
    refine awp_seq ?_
    refine awp_seq ?_
    refine awp_region ?_
    refine AL_upto (by exact rfl) (by simp only [go_sem, seval]; exact rfl) ?_
    refine AL_nil ?_
    refine thenA_n ?_
    by_cases hb_1881 : i_1876 < (l_1870.length : Int)
    · rw [if_pos hb_1881] at h
      have hb_1881T := eq_true hb_1881
      refine awp_ct (by simp only [go_sem, seval, hb_1881T]) ?_
      refine awp_skip ?_
      refine thenA_n ?_
      refine awp_seq ?_
      refine awp_block ?_
      refine awp_seq ?_
      refine awp_region ?_
      obtain ⟨x_1882, hx_1883, h⟩ := Option.bind_eq_some_iff.1 h
      obtain ⟨hx_1883a, hx_1883, hx_1883b⟩ := idx_some hx_1883
      have hx_1883A := eq_true hx_1883a
      have hx_1883B := eq_true hx_1883b
      refine AL_upto (by exact rfl) (by simp only [go_sem, seval, hb_1881T, hx_1883, hx_1883A, hx_1883B]; exact rfl) ?_
      refine AL_nil ?_
      refine thenA_n ?_
      by_cases hb_1884 : (x_1882 == id_1871) = true
      · rw [if_pos hb_1884] at h
        refine awp_ct (by simp only [go_sem, seval, hb_1881T, hb_1884]) ?_
        refine awp_seq ?_
        refine awp_region ?_
        refine AL_upto (by exact rfl) (by simp only [go_sem, seval, hb_1881T, hb_1884]; exact rfl) ?_
        refine AL_nil ?_
        refine thenA_n ?_
        refine awp_ret ?_
        refine blockA_ret ?_
        refine thenA_ret ?_
        cases h
        refine ⟨rfl, ?_⟩
        refine retQ_ret (by simp only [Try.results44]; simp only [go_sem, seval, hb_1881T, hb_1884]; exact rfl) ?_
        simp only [go_sem, seval, hb_1881T, hb_1884]
        all_goals ((repeat' refine And.intro ?_ ?_) <;> first | rfl | (simp; done) | (simp; rfl) | (simp [*]; done) | (simp [*]; rfl))
      · rw [if_neg hb_1884] at h
        have hb_1884F := Bool.eq_false_iff.2 hb_1884
        refine awp_cf (by simp only [go_sem, seval, hb_1881T, hb_1884F]) ?_
        refine awp_skip ?_
        refine blockA_n ?_
        refine thenA_n ?_
        refine awp_region ?_
        refine AL_upto (by exact rfl) (by simp only [go_sem, seval, hb_1881T, hb_1884F]; exact rfl) ?_
        refine AL_nil ?_
        cases h
        refine ⟨rfl, ?_⟩
        simp only [go_sem, seval, hb_1881T, hb_1884F]
        all_goals ((repeat' refine And.intro ?_ ?_) <;> first | rfl | (simp; done) | (simp; rfl) | (simp [*]; done) | (simp [*]; rfl))
    · rw [if_neg hb_1881] at h
      have hb_1881T := eq_false hb_1881
      refine awp_cf (by simp only [go_sem, seval, hb_1881T]) ?_
      refine awp_exit ?_
      refine thenA_exit ?_
      cases h
      refine ⟨rfl, ?_⟩
      simp only [go_sem, seval, hb_1881T]
      all_goals ((repeat' refine And.intro ?_ ?_) <;> first | rfl | (simp; done) | (simp; rfl) | (simp [*]; done) | (simp [*]; rfl))
  · intro e s' hT
    rcases o_1885 with ⟨⟩ | r_1887
    · try simp only at h
      try simp only at hT
      obtain ⟨rfl, hle⟩ := hT
      refine Wk.to hle ?_
      clear hle
      refine blockA_here ?_
      refine thenA_n ?_
      refine awp_seq ?_
      refine awp_region ?_
      refine AL_upto (by exact rfl) (by simp only [go_sem, seval]; exact rfl) ?_
      refine AL_nil ?_
      refine thenA_n ?_
      refine awp_ret ?_
      cases h
      refine retQ_ret (by simp only [Try.results44]; simp only [go_sem, seval]; exact rfl) ?_
      simp only [go_sem, seval]
      all_goals ((repeat' refine And.intro ?_ ?_) <;> first | rfl | (simp; done) | (simp; rfl) | (simp [*]; done) | (simp [*]; rfl))
    · try simp only at h
      try simp only at hT
      obtain ⟨rfl, hq⟩ := hT
      refine Wk.now ?_
      refine blockA_ret ?_
      refine thenA_ret ?_
      cases h
      exact hq
end Go.Proofs.Ytdmddoljldjjeaa
set_option linter.unusedVariables false
set_option linter.unusedSimpArgs false
namespace Go.Proofs.Ytdmddoljldjjeaa
open Go Go.Ab
set_option maxHeartbeats 4000000 in
theorem drossref55_Cluster_con (l_1891 : List Int) (r_1916 : Bool) (h : drossref55_Cluster l_1891 = some r_1916) : Con Try.prog 83 [(.slc (List.map (PV.int .i64) l_1891))] (.bool r_1916) := by
  refine ⟨Try.call83, ?_⟩
  refine pure_of_awp Try.func83 rfl Try.ntmps83 (by simp) fun X w => ?_
  show AWp _ _ _ ⟨[(0, .p (.slc (List.map (PV.int .i64) l_1891)))], []⟩
  simp only [drossref55_Cluster] at h
  refine awp_seq ?_
  refine awp_region ?_
  refine AL_upto (by exact rfl) (by simp only [go_sem, seval]; exact rfl) ?_
  refine AL_nil ?_
  refine thenA_n ?_
  refine awp_seq ?_
  refine awp_seq ?_
  refine awp_region ?_
  refine AL_upto (by exact rfl) (by simp only [go_sem, seval]; exact rfl) ?_
  refine AL_nil ?_
  refine thenA_n ?_
  refine awp_block ?_
  obtain ⟨o_1911, hL_1912, h⟩ := Option.bind_eq_some_iff.1 h
  refine awp_loop_L (fun (s : Int) => ⟨[(0, .p (.slc (List.map (PV.int .i64) l_1891))), (3, .p (.int .i64 s))], []⟩) (fun (o : (Unit) ⊕ (Bool)) (e : Exit) (s' : St) => match o with | .inl o_1914 => e = (.exit 0) ∧ Le ⟨Try.prog, Try.f83.ntmps, 0, X, [], fun _ => none, w⟩ s' ⟨[(0, .p (.slc (List.map (PV.int .i64) l_1891)))], []⟩ | .inr o_1915 => e = .ret ∧ retQ Try.prog Try.f83 (.bool o_1915) .ret s') (by intro o s hT; rcases o with _ | _ <;> (have hh := hT.1; cases hh)) hL_1912 (by simp only [go_sem, seval]; all_goals ((repeat' refine And.intro ?_ ?_) <;> first | rfl | (simp; done) | (simp; rfl) | (simp [*]; done) | (simp [*]; rfl))) ?_ ?_
  · clear h
    intro i_1898 x h
    simp only [drossref55_Cluster_l1] at h
    show AWp _ _ _ ⟨[(0, .p (.slc (List.map (PV.int .i64) l_1891))), (3, .p (.int .i64 i_1898))], []⟩
    refine awp_seq ?_
    refine awp_seq ?_
    refine awp_region ?_
    refine AL_upto (by exact rfl) (by simp only [go_sem, seval]; exact rfl) ?_
    refine AL_nil ?_
    refine thenA_n ?_
    by_cases hb_1905 : i_1898 < (l_1891.length : Int)
    · rw [if_pos hb_1905] at h
      have hb_1905T := eq_true hb_1905
      refine awp_ct (by simp only [go_sem, seval, hb_1905T]) ?_
      refine awp_skip ?_
      refine thenA_n ?_
      refine awp_seq ?_
      refine awp_block ?_
      refine awp_seq ?_
      refine awp_drawn_walk mixed (by decide) ?_
      obtain ⟨x_1906, hx_1907, h⟩ := Option.bind_eq_some_iff.1 h
      obtain ⟨hx_1907a, hx_1907, hx_1907b⟩ := idx_some hx_1907
      have hx_1907A := eq_true hx_1907a
      have hx_1907B := eq_true hx_1907b
      obtain ⟨x_1908, hx_1909, h⟩ := Option.bind_eq_some_iff.1 h
      obtain ⟨hx_1909a, hx_1909, hx_1909b⟩ := idx_some hx_1909
      have hx_1909A := eq_true hx_1909a
      have hx_1909B := eq_true hx_1909b
      refine DGo.upto (by exact rfl) (by simp only [go_sem, seval, hb_1905T, hx_1907, hx_1907A, hx_1907B, hx_1909, hx_1909A, hx_1909B]; exact ⟨rfl, rfl⟩) ?_
      refine DGo.fin rfl ?_
      refine thenA_n ?_
      by_cases hb_1910 : x_1906 ≤ x_1908
      · rw [if_pos hb_1910] at h
        have hb_1910T := eq_true hb_1910
        refine awp_ct (by simp only [go_sem, seval, hb_1905T, hb_1910T]) ?_
        refine awp_seq ?_
        refine awp_region ?_
        refine AL_upto (by exact rfl) (by simp only [go_sem, seval, hb_1905T, hb_1910T]; exact rfl) ?_
        refine AL_nil ?_
        refine thenA_n ?_
        refine awp_ret ?_
        refine blockA_ret ?_
        refine thenA_ret ?_
        cases h
        refine ⟨rfl, ?_⟩
        refine retQ_ret (by simp only [Try.results83]; simp only [go_sem, seval, hb_1905T, hb_1910T]; exact rfl) ?_
        simp only [go_sem, seval, hb_1905T, hb_1910T]
        all_goals ((repeat' refine And.intro ?_ ?_) <;> first | rfl | (simp; done) | (simp; rfl) | (simp [*]; done) | (simp [*]; rfl))
      · rw [if_neg hb_1910] at h
        have hb_1910T := eq_false hb_1910
        refine awp_cf (by simp only [go_sem, seval, hb_1905T, hb_1910T]) ?_
        refine awp_skip ?_
        refine blockA_n ?_
        refine thenA_n ?_
        refine awp_region ?_
        refine AL_upto (by exact rfl) (by simp only [go_sem, seval, hb_1905T, hb_1910T]; exact rfl) ?_
        refine AL_nil ?_
        cases h
        refine ⟨rfl, ?_⟩
        simp only [go_sem, seval, hb_1905T, hb_1910T]
        all_goals ((repeat' refine And.intro ?_ ?_) <;> first | rfl | (simp; done) | (simp; rfl) | (simp [*]; done) | (simp [*]; rfl))
    · rw [if_neg hb_1905] at h
      have hb_1905T := eq_false hb_1905
      refine awp_cf (by simp only [go_sem, seval, hb_1905T]) ?_
      refine awp_exit ?_
      refine thenA_exit ?_
      cases h
      refine ⟨rfl, ?_⟩
      simp only [go_sem, seval, hb_1905T]
      all_goals ((repeat' refine And.intro ?_ ?_) <;> first | rfl | (simp; done) | (simp; rfl) | (simp [*]; done) | (simp [*]; rfl))
  · intro e s' hT
    rcases o_1911 with ⟨⟩ | r_1913
    · try simp only at h
      try simp only at hT
      obtain ⟨rfl, hle⟩ := hT
      refine Wk.to hle ?_
      clear hle
      refine blockA_here ?_
      refine thenA_n ?_
      refine awp_seq ?_
      refine awp_region ?_
      refine AL_upto (by exact rfl) (by simp only [go_sem, seval]; exact rfl) ?_
      refine AL_nil ?_
      refine thenA_n ?_
      refine awp_ret ?_
      cases h
      refine retQ_ret (by simp only [Try.results83]; simp only [go_sem, seval]; exact rfl) ?_
      simp only [go_sem, seval]
      all_goals ((repeat' refine And.intro ?_ ?_) <;> first | rfl | (simp; done) | (simp; rfl) | (simp [*]; done) | (simp [*]; rfl))
    · try simp only at h
      try simp only at hT
      obtain ⟨rfl, hq⟩ := hT
      refine Wk.now ?_
      refine blockA_ret ?_
      refine thenA_ret ?_
      cases h
      exact hq
end Go.Proofs.Ytdmddoljldjjeaa
set_option linter.unusedVariables false
set_option linter.unusedSimpArgs false
namespace Go.Proofs.Ytdmddoljldjjeaa
open Go Go.Ab
set_option maxHeartbeats 4000000 in
theorem drossref55_once_con (l_1917 : List (List Int)) (r_2036 : Bool) (h : drossref55_once l_1917 = some r_2036) : Con Try.prog 63 [(.slc (List.map (encL (PV.int .i64)) l_1917))] (.bool r_2036) := by
  refine ⟨Try.call63, ?_⟩
  refine pure_of_awp Try.func63 rfl Try.ntmps63 (by simp) fun X w => ?_
  show AWp _ _ _ ⟨[(0, .p (.slc (List.map (encL (PV.int .i64)) l_1917)))], []⟩
  simp only [drossref55_once] at h
  refine awp_seq ?_
  refine awp_region ?_
  refine AL_upto (by exact rfl) (by simp only [go_sem, seval]; exact rfl) ?_
  refine AL_nil ?_
  refine thenA_n ?_
  refine awp_seq ?_
  refine awp_region ?_
  refine AL_upto (by exact rfl) (by simp only [go_sem, seval]; exact rfl) ?_
  refine AL_nil ?_
  refine thenA_n ?_
  refine awp_seq ?_
  refine awp_seq ?_
  refine awp_region ?_
  refine AL_upto (by exact rfl) (by simp only [go_sem, seval]; exact rfl) ?_
  refine AL_nil ?_
  refine thenA_n ?_
  refine awp_block ?_
  obtain ⟨o_2031, hL_2032, h⟩ := Option.bind_eq_some_iff.1 h
  refine awp_loop_L (fun (s : List Int × Int) => ⟨[(0, .p (.slc (List.map (encL (PV.int .i64)) l_1917))), (3, .own 41 1 0 s.1.length), (4, .p (.int .i64 s.2))], [(41, .arr 2 1 1 (List.map AV.p (List.map (PV.int .i64) s.1)))]⟩) (fun (o : (Unit) ⊕ (Bool)) (e : Exit) (s' : St) => match o with | .inl o_2034 => e = (.exit 0) ∧ Le ⟨Try.prog, Try.f63.ntmps, 0, X, [], fun _ => none, w⟩ s' ⟨[], []⟩ | .inr o_2035 => e = .ret ∧ retQ Try.prog Try.f63 (.bool o_2035) .ret s') (by intro o s hT; rcases o with _ | _ <;> (have hh := hT.1; cases hh)) hL_2032 (by simp only [go_sem, seval]; all_goals ((repeat' refine And.intro ?_ ?_) <;> first | rfl | (simp; done) | (simp; rfl) | (simp [*]; done) | (simp [*]; rfl))) ?_ ?_
  · clear h
    intro s x h
    obtain ⟨all_1955, i_1956⟩ := s
    simp only [drossref55_once_l4] at h
    show AWp _ _ _ ⟨[(0, .p (.slc (List.map (encL (PV.int .i64)) l_1917))), (3, .own 41 1 0 all_1955.length), (4, .p (.int .i64 i_1956))], [(41, .arr 2 1 1 (List.map AV.p (List.map (PV.int .i64) all_1955)))]⟩
    refine awp_seq ?_
    refine awp_seq ?_
    refine awp_region ?_
    refine AL_upto (by exact rfl) (by simp only [go_sem, seval]; exact rfl) ?_
    refine AL_nil ?_
    refine thenA_n ?_
    by_cases hb_1994 : i_1956 < (l_1917.length : Int)
    · rw [if_pos hb_1994] at h
      have hb_1994T := eq_true hb_1994
      refine awp_ct (by simp only [go_sem, seval, hb_1994T]) ?_
      refine awp_skip ?_
      refine thenA_n ?_
      refine awp_seq ?_
      refine awp_block ?_
      refine awp_seq ?_
      refine awp_seq ?_
      refine awp_region ?_
      obtain ⟨x_1995, hx_1996, h⟩ := Option.bind_eq_some_iff.1 h
      obtain ⟨hx_1996a, hx_1996, hx_1996b⟩ := idx_some hx_1996
      have hx_1996A := eq_true hx_1996a
      have hx_1996B := eq_true hx_1996b
      refine AL_upto (by exact rfl) (by simp only [go_sem, seval, hb_1994T, hx_1996, hx_1996A, hx_1996B]; exact rfl) ?_
      obtain ⟨r_1997, hr_1998, h⟩ := Option.bind_eq_some_iff.1 h
      refine AL_con' rfl (guard_none rfl) rfl (by simp only [go_sem, seval, hb_1994T]; exact rfl) (by simp only [go_sem, seval, hb_1994T]; all_goals ((repeat' refine And.intro ?_ ?_) <;> first | rfl | (simp; done) | (simp; rfl) | (simp [*]; done) | (simp [*]; rfl))) (drossref55_Cluster_con x_1995 _ hr_1998) (.inr rfl) rfl ?_
      refine AL_upto (by exact rfl) (by simp only [go_sem, seval, hb_1994T]; exact rfl) ?_
      refine AL_nil ?_
      refine thenA_n ?_
      by_cases hb_1999 : r_1997 = true
      · rw [if_pos hb_1999] at h
        refine awp_cf (by simp only [go_sem, seval, hb_1994T, hb_1999]) ?_
        refine awp_skip ?_
        refine thenA_n ?_
        refine awp_seq ?_
        refine awp_seq ?_
        refine awp_region ?_
        refine AL_upto (by exact rfl) (by simp only [go_sem, seval, hb_1994T, hb_1999]; exact rfl) ?_
        refine AL_nil ?_
        refine thenA_n ?_
        refine awp_block ?_
        obtain ⟨o_2025, hL_2026, h⟩ := Option.bind_eq_some_iff.1 h
        refine awp_loop_L (fun (s : Int) => ⟨[(0, .p (.slc (List.map (encL (PV.int .i64)) l_1917))), (3, .own 41 1 0 all_1955.length), (4, .p (.int .i64 i_1956)), (5, .p (.int .i64 s))], [(41, .arr 2 1 1 (List.map AV.p (List.map (PV.int .i64) all_1955)))]⟩) (fun (o : (Unit) ⊕ (Bool)) (e : Exit) (s' : St) => match o with | .inl o_2029 => e = (.exit 2) ∧ Le ⟨Try.prog, Try.f63.ntmps, 0, X, [], fun _ => none, w⟩ s' ⟨[(0, .p (.slc (List.map (encL (PV.int .i64)) l_1917))), (3, .own 41 1 0 all_1955.length), (4, .p (.int .i64 i_1956))], [(41, .arr 2 1 1 (List.map AV.p (List.map (PV.int .i64) all_1955)))]⟩ | .inr o_2030 => e = .ret ∧ retQ Try.prog Try.f63 (.bool o_2030) .ret s') (by intro o s hT; rcases o with _ | _ <;> (have hh := hT.1; cases hh)) hL_2026 (by simp only [go_sem, seval, hb_1994T, hb_1999]; all_goals ((repeat' refine And.intro ?_ ?_) <;> first | rfl | (simp; done) | (simp; rfl) | (simp [*]; done) | (simp [*]; rfl))) ?_ ?_
        · clear h
          intro k_2008 x h
          simp only [drossref55_once_l3] at h
          show AWp _ _ _ ⟨[(0, .p (.slc (List.map (encL (PV.int .i64)) l_1917))), (3, .own 41 1 0 all_1955.length), (4, .p (.int .i64 i_1956)), (5, .p (.int .i64 k_2008))], [(41, .arr 2 1 1 (List.map AV.p (List.map (PV.int .i64) all_1955)))]⟩
          refine awp_seq ?_
          refine awp_seq ?_
          refine awp_region ?_
          obtain ⟨x_2017, hx_2018, h⟩ := Option.bind_eq_some_iff.1 h
          obtain ⟨hx_2018a, hx_2018, hx_2018b⟩ := idx_some hx_2018
          have hx_2018A := eq_true hx_2018a
          have hx_2018B := eq_true hx_2018b
          refine AL_upto (by exact rfl) (by simp only [go_sem, seval, hx_2018, hx_2018A, hx_2018B]; exact rfl) ?_
          refine AL_nil ?_
          refine thenA_n ?_
          by_cases hb_2019 : k_2008 < (x_2017.length : Int)
          · rw [if_pos hb_2019] at h
            have hb_2019T := eq_true hb_2019
            refine awp_ct (by simp only [go_sem, seval, hb_2019T]) ?_
            refine awp_skip ?_
            refine thenA_n ?_
            refine awp_seq ?_
            refine awp_block ?_
            refine awp_seq ?_
            refine awp_region ?_
            obtain ⟨x_2020, hx_2021, h⟩ := Option.bind_eq_some_iff.1 h
            obtain ⟨hx_2021a, hx_2021, hx_2021b⟩ := idx_some hx_2021
            have hx_2021A := eq_true hx_2021a
            have hx_2021B := eq_true hx_2021b
            refine AL_upto (by exact rfl) (by simp only [go_sem, seval, hb_2019T, hx_2018, hx_2018A, hx_2018B, hx_2021, hx_2021A, hx_2021B]; exact rfl) ?_
            obtain ⟨r_2022, hr_2023, h⟩ := Option.bind_eq_some_iff.1 h
            refine AL_con' rfl (guard_none rfl) rfl (by simp only [go_sem, seval, hb_2019T]; exact rfl) (by simp only [go_sem, seval, hb_2019T]; all_goals ((repeat' refine And.intro ?_ ?_) <;> first | rfl | (simp; done) | (simp; rfl) | (simp [*]; done) | (simp [*]; rfl))) (drossref03_Has_con all_1955 x_2020 _ hr_2023) (.inr rfl) rfl ?_
            refine AL_nil ?_
            refine thenA_n ?_
            by_cases hb_2024 : r_2022 = true
            · rw [if_pos hb_2024] at h
              refine awp_ct (by simp only [go_sem, seval, hb_2019T, hb_2024]) ?_
              refine awp_seq ?_
              refine awp_region ?_
              refine AL_upto (by exact rfl) (by simp only [go_sem, seval, hb_2019T, hb_2024]; exact rfl) ?_
              refine AL_nil ?_
              refine thenA_n ?_
              refine awp_ret ?_
              refine blockA_ret ?_
              refine thenA_ret ?_
              cases h
              refine ⟨rfl, ?_⟩
              refine retQ_ret (by simp only [Try.results63]; simp only [go_sem, seval, hb_2019T, hb_2024]; exact rfl) ?_
              simp only [go_sem, seval, hb_2019T, hb_2024]
              all_goals ((repeat' refine And.intro ?_ ?_) <;> first | rfl | (simp; done) | (simp; rfl) | (simp [*]; done) | (simp [*]; rfl))
            · rw [if_neg hb_2024] at h
              have hb_2024F := Bool.eq_false_iff.2 hb_2024
              refine awp_cf (by simp only [go_sem, seval, hb_2019T, hb_2024F]) ?_
              refine awp_skip ?_
              refine blockA_n ?_
              refine thenA_n ?_
              refine awp_region ?_
              refine AL_upto (by exact rfl) (by simp only [go_sem, seval, hb_2019T, hb_2024F]; exact rfl) ?_
              refine AL_nil ?_
              cases h
              refine ⟨rfl, ?_⟩
              simp only [go_sem, seval, hb_2019T, hb_2024F]
              all_goals ((repeat' refine And.intro ?_ ?_) <;> first | rfl | (simp; done) | (simp; rfl) | (simp [*]; done) | (simp [*]; rfl))
          · rw [if_neg hb_2019] at h
            have hb_2019T := eq_false hb_2019
            refine awp_cf (by simp only [go_sem, seval, hb_2019T]) ?_
            refine awp_exit ?_
            refine thenA_exit ?_
            cases h
            refine ⟨rfl, ?_⟩
            simp only [go_sem, seval, hb_2019T]
            all_goals ((repeat' refine And.intro ?_ ?_) <;> first | rfl | (simp; done) | (simp; rfl) | (simp [*]; done) | (simp [*]; rfl))
        · intro e s' hT
          rcases o_2025 with ⟨⟩ | r_2028
          · try simp only at h
            try simp only at hT
            obtain ⟨rfl, hle⟩ := hT
            refine Wk.to hle ?_
            clear hle
            refine blockA_here ?_
            refine thenA_n ?_
            refine awp_region ?_
            obtain ⟨hc_2027, h⟩ := ite_some h
            refine AL_upto (by exact rfl) (by simp only [go_sem, seval, hb_1994T, hb_1999, hx_1996, hx_1996A, hx_1996B, hc_2027]; exact rfl) ?_
            refine AL_nil ?_
            refine blockA_n ?_
            refine thenA_n ?_
            refine awp_region ?_
            refine AL_upto (by exact rfl) (by simp only [go_sem, seval, hb_1994T, hb_1999]; exact rfl) ?_
            refine AL_nil ?_
            cases h
            refine ⟨rfl, ?_⟩
            simp only [go_sem, seval, hb_1994T, hb_1999]
            all_goals ((repeat' refine And.intro ?_ ?_) <;> first | rfl | (simp; done) | (simp; rfl) | (simp [*]; done) | (simp [*]; rfl))
          · try simp only at h
            try simp only at hT
            obtain ⟨rfl, hq⟩ := hT
            refine Wk.now ?_
            refine blockA_ret ?_
            refine thenA_ret ?_
            refine blockA_ret ?_
            refine thenA_ret ?_
            cases h
            refine ⟨rfl, ?_⟩
            exact hq
      · rw [if_neg hb_1999] at h
        have hb_1999F := Bool.eq_false_iff.2 hb_1999
        refine awp_ct (by simp only [go_sem, seval, hb_1994T, hb_1999F]) ?_
        refine awp_seq ?_
        refine awp_region ?_
        refine AL_upto (by exact rfl) (by simp only [go_sem, seval, hb_1994T, hb_1999F]; exact rfl) ?_
        refine AL_nil ?_
        refine thenA_n ?_
        refine awp_ret ?_
        refine thenA_ret ?_
        refine blockA_ret ?_
        refine thenA_ret ?_
        cases h
        refine ⟨rfl, ?_⟩
        refine retQ_ret (by simp only [Try.results63]; simp only [go_sem, seval, hb_1994T, hb_1999F]; exact rfl) ?_
        simp only [go_sem, seval, hb_1994T, hb_1999F]
        all_goals ((repeat' refine And.intro ?_ ?_) <;> first | rfl | (simp; done) | (simp; rfl) | (simp [*]; done) | (simp [*]; rfl))
    · rw [if_neg hb_1994] at h
      have hb_1994T := eq_false hb_1994
      refine awp_cf (by simp only [go_sem, seval, hb_1994T]) ?_
      refine awp_exit ?_
      refine thenA_exit ?_
      cases h
      refine ⟨rfl, ?_⟩
      simp only [go_sem, seval, hb_1994T]
      all_goals ((repeat' refine And.intro ?_ ?_) <;> first | rfl | (simp; done) | (simp; rfl) | (simp [*]; done) | (simp [*]; rfl))
  · intro e s' hT
    rcases o_2031 with ⟨⟩ | r_2033
    · try simp only at h
      try simp only at hT
      obtain ⟨rfl, hle⟩ := hT
      refine Wk.to hle ?_
      clear hle
      refine blockA_here ?_
      refine thenA_n ?_
      refine awp_seq ?_
      refine awp_region ?_
      refine AL_upto (by exact rfl) (by simp only [go_sem, seval]; exact rfl) ?_
      refine AL_nil ?_
      refine thenA_n ?_
      refine awp_ret ?_
      cases h
      refine retQ_ret (by simp only [Try.results63]; simp only [go_sem, seval]; exact rfl) ?_
      simp only [go_sem, seval]
      all_goals ((repeat' refine And.intro ?_ ?_) <;> first | rfl | (simp; done) | (simp; rfl) | (simp [*]; done) | (simp [*]; rfl))
    · try simp only at h
      try simp only at hT
      obtain ⟨rfl, hq⟩ := hT
      refine Wk.now ?_
      refine blockA_ret ?_
      refine thenA_ret ?_
      cases h
      exact hq
end Go.Proofs.Ytdmddoljldjjeaa
set_option linter.unusedVariables false
set_option linter.unusedSimpArgs false
namespace Go.Proofs.Ytdmddoljldjjeaa
open Go Go.Ab
set_option maxHeartbeats 4000000 in
theorem drossref55_WellFormed_con (m_2037 : Merged) (r_2199 : Bool) (h : drossref55_WellFormed m_2037 = some r_2199) : Con Try.prog 38 [(encMerged m_2037)] (.bool r_2199) := by
  refine ⟨Try.call38, ?_⟩
  refine pure_of_awp Try.func38 rfl Try.ntmps38 (by simp) fun X w => ?_
  show AWp _ _ _ ⟨[(0, .p (encMerged m_2037))], []⟩
  simp only [drossref55_WellFormed] at h
  refine awp_seq ?_
  refine awp_region ?_
  refine AL_upto (by exact rfl) (by simp only [go_sem, seval]; exact rfl) ?_
  refine AL_nil ?_
  refine thenA_n ?_
  refine awp_seq ?_
  refine awp_seq ?_
  refine awp_region ?_
  refine AL_upto (by exact rfl) (by simp only [go_sem, seval]; exact rfl) ?_
  obtain ⟨r_2038, hr_2039, h⟩ := Option.bind_eq_some_iff.1 h
  refine AL_con' rfl (guard_none rfl) rfl (by simp only [go_sem, seval]; exact rfl) (by simp only [go_sem, seval]; all_goals ((repeat' refine And.intro ?_ ?_) <;> first | rfl | (simp; done) | (simp; rfl) | (simp [*]; done) | (simp [*]; rfl))) (drossref03_Valid_con m_2037.Table _ hr_2039) (.inr rfl) rfl ?_
  refine AL_upto (by exact rfl) (by simp only [go_sem, seval]; exact rfl) ?_
  by_cases hb_2040 : (r_2038 != 0) = true
  · rw [if_pos hb_2040] at h
    refine AL_known (d := 9) (v := .p (.bool true)) (by simp only [go_sem, seval, hb_2040]) ?_
    refine AL_skips (by exact rfl) ?_
    refine AL_upto (by exact rfl) (by simp only [go_sem, seval, hb_2040]; exact rfl) ?_
    refine AL_skips (by exact rfl) ?_
    refine AL_upto (by exact rfl) (by simp only [go_sem, seval, hb_2040]; exact rfl) ?_
    refine AL_skips (by exact rfl) ?_
    refine AL_upto (by exact rfl) (by simp only [go_sem, seval, hb_2040]; exact rfl) ?_
    refine AL_nil ?_
    refine thenA_n ?_
    refine awp_ct (by simp only [go_sem, seval, hb_2040]) ?_
    refine awp_seq ?_
    refine awp_region ?_
    refine AL_upto (by exact rfl) (by simp only [go_sem, seval, hb_2040]; exact rfl) ?_
    refine AL_nil ?_
    refine thenA_n ?_
    refine awp_ret ?_
    refine thenA_ret ?_
    cases h
    refine retQ_ret (by simp only [Try.results38]; simp only [go_sem, seval, hb_2040]; exact rfl) ?_
    simp only [go_sem, seval, hb_2040]
    all_goals ((repeat' refine And.intro ?_ ?_) <;> first | rfl | (simp; done) | (simp; rfl) | (simp [*]; done) | (simp [*]; rfl))
  · rw [if_neg hb_2040] at h
    have hb_2040F := Bool.eq_false_iff.2 hb_2040
    refine AL_known (d := 9) (v := .p (.bool false)) (by simp only [go_sem, seval, hb_2040F]) ?_
    refine AL_gt' (guard_true' rfl rfl (by exact rfl) (by exact rfl)) rfl (by simp only [go_sem, seval, hb_2040F]; exact rfl) ?_
    refine AL_gt' (guard_true' rfl rfl (by exact rfl) (by exact rfl)) rfl (by simp only [go_sem, seval, hb_2040F]; exact rfl) ?_
    refine AL_gt' (guard_true' rfl rfl (by exact rfl) (by exact rfl)) rfl (by simp only [go_sem, seval, hb_2040F]; exact rfl) ?_
    refine AL_gt' (guard_true' rfl rfl (by exact rfl) (by exact rfl)) rfl (by simp only [go_sem, seval, hb_2040F]; exact rfl) ?_
    refine AL_gt' (guard_true' rfl rfl (by exact rfl) (by exact rfl)) rfl (by simp only [go_sem, seval, hb_2040F]; exact rfl) ?_
    refine AL_gt' (guard_true' rfl rfl (by exact rfl) (by exact rfl)) rfl (by simp only [go_sem, seval, hb_2040F]; exact rfl) ?_
    refine AL_gt' (guard_true' rfl rfl (by exact rfl) (by exact rfl)) rfl (by simp only [go_sem, seval, hb_2040F]; exact rfl) ?_
    refine AL_gt' (guard_true' rfl rfl (by exact rfl) (by exact rfl)) rfl (by simp only [go_sem, seval, hb_2040F]; exact rfl) ?_
    refine AL_upto (by exact rfl) (by simp only [go_sem, seval, hb_2040F]; exact rfl) ?_
    by_cases hb_2041 : ((m_2037.Clusters.length : Int) != (m_2037.Table.Rows.length : Int)) = true
    · rw [if_pos hb_2041] at h
      refine AL_known (d := 19) (v := .p (.bool true)) (by simp only [go_sem, seval, hb_2040F, hb_2041]) ?_
      refine AL_skips (by exact rfl) ?_
      refine AL_upto (by exact rfl) (by simp only [go_sem, seval, hb_2040F, hb_2041]; exact rfl) ?_
      refine AL_skips (by exact rfl) ?_
      refine AL_upto (by exact rfl) (by simp only [go_sem, seval, hb_2040F, hb_2041]; exact rfl) ?_
      refine AL_nil ?_
      refine thenA_n ?_
      refine awp_ct (by simp only [go_sem, seval, hb_2040F, hb_2041]) ?_
      refine awp_seq ?_
      refine awp_region ?_
      refine AL_upto (by exact rfl) (by simp only [go_sem, seval, hb_2040F, hb_2041]; exact rfl) ?_
      refine AL_nil ?_
      refine thenA_n ?_
      refine awp_ret ?_
      refine thenA_ret ?_
      cases h
      refine retQ_ret (by simp only [Try.results38]; simp only [go_sem, seval, hb_2040F, hb_2041]; exact rfl) ?_
      simp only [go_sem, seval, hb_2040F, hb_2041]
      all_goals ((repeat' refine And.intro ?_ ?_) <;> first | rfl | (simp; done) | (simp; rfl) | (simp [*]; done) | (simp [*]; rfl))
    · rw [if_neg hb_2041] at h
      have hb_2041F := Bool.eq_false_iff.2 hb_2041
      refine AL_known (d := 19) (v := .p (.bool false)) (by simp only [go_sem, seval, hb_2040F, hb_2041F]) ?_
      refine AL_gt' (guard_true' rfl rfl (by exact rfl) (by exact rfl)) rfl (by simp only [go_sem, seval, hb_2040F, hb_2041F]; exact rfl) ?_
      refine AL_gt' (guard_true' rfl rfl (by exact rfl) (by exact rfl)) rfl (by simp only [go_sem, seval, hb_2040F, hb_2041F]; exact rfl) ?_
      refine AL_gt' (guard_true' rfl rfl (by exact rfl) (by exact rfl)) rfl (by simp only [go_sem, seval, hb_2040F, hb_2041F]; exact rfl) ?_
      refine AL_gt' (guard_true' rfl rfl (by exact rfl) (by exact rfl)) rfl (by simp only [go_sem, seval, hb_2040F, hb_2041F]; exact rfl) ?_
      refine AL_gt' (guard_true' rfl rfl (by exact rfl) (by exact rfl)) rfl (by simp only [go_sem, seval, hb_2040F, hb_2041F]; exact rfl) ?_
      refine AL_gt' (guard_true' rfl rfl (by exact rfl) (by exact rfl)) rfl (by simp only [go_sem, seval, hb_2040F, hb_2041F]; exact rfl) ?_
      refine AL_gt' (guard_true' rfl rfl (by exact rfl) (by exact rfl)) rfl (by simp only [go_sem, seval, hb_2040F, hb_2041F]; exact rfl) ?_
      refine AL_gt' (guard_true' rfl rfl (by exact rfl) (by exact rfl)) rfl (by simp only [go_sem, seval, hb_2040F, hb_2041F]; exact rfl) ?_
      refine AL_upto (by exact rfl) (by simp only [go_sem, seval, hb_2040F, hb_2041F]; exact rfl) ?_
      by_cases hb_2042 : ((m_2037.Origins.length : Int) != (m_2037.Table.Rows.length : Int)) = true
      · rw [if_pos hb_2042] at h
        refine AL_known (d := 29) (v := .p (.bool true)) (by simp only [go_sem, seval, hb_2040F, hb_2041F, hb_2042]) ?_
        refine AL_skips (by exact rfl) ?_
        refine AL_upto (by exact rfl) (by simp only [go_sem, seval, hb_2040F, hb_2041F, hb_2042]; exact rfl) ?_
        refine AL_nil ?_
        refine thenA_n ?_
        refine awp_ct (by simp only [go_sem, seval, hb_2040F, hb_2041F, hb_2042]) ?_
        refine awp_seq ?_
        refine awp_region ?_
        refine AL_upto (by exact rfl) (by simp only [go_sem, seval, hb_2040F, hb_2041F, hb_2042]; exact rfl) ?_
        refine AL_nil ?_
        refine thenA_n ?_
        refine awp_ret ?_
        refine thenA_ret ?_
        cases h
        refine retQ_ret (by simp only [Try.results38]; simp only [go_sem, seval, hb_2040F, hb_2041F, hb_2042]; exact rfl) ?_
        simp only [go_sem, seval, hb_2040F, hb_2041F, hb_2042]
        all_goals ((repeat' refine And.intro ?_ ?_) <;> first | rfl | (simp; done) | (simp; rfl) | (simp [*]; done) | (simp [*]; rfl))
      · rw [if_neg hb_2042] at h
        have hb_2042F := Bool.eq_false_iff.2 hb_2042
        refine AL_known (d := 29) (v := .p (.bool false)) (by simp only [go_sem, seval, hb_2040F, hb_2041F, hb_2042F]) ?_
        refine AL_gt' (guard_true' rfl rfl (by exact rfl) (by exact rfl)) rfl (by simp only [go_sem, seval, hb_2040F, hb_2041F, hb_2042F]; exact rfl) ?_
        refine AL_gt' (guard_true' rfl rfl (by exact rfl) (by exact rfl)) rfl (by simp only [go_sem, seval, hb_2040F, hb_2041F, hb_2042F]; exact rfl) ?_
        obtain ⟨r_2043, hr_2044, h⟩ := Option.bind_eq_some_iff.1 h
        refine AL_con' rfl (guard_true' rfl rfl (by exact rfl) (by exact rfl)) rfl (by simp only [go_sem, seval, hb_2040F, hb_2041F, hb_2042F]; exact rfl) (by simp only [go_sem, seval, hb_2040F, hb_2041F, hb_2042F]; all_goals ((repeat' refine And.intro ?_ ?_) <;> first | rfl | (simp; done) | (simp; rfl) | (simp [*]; done) | (simp [*]; rfl))) (drossref55_once_con m_2037.Clusters _ hr_2044) (.inr rfl) rfl ?_
        refine AL_gt' (guard_true' rfl rfl (by exact rfl) (by exact rfl)) rfl (by simp only [go_sem, seval, hb_2040F, hb_2041F, hb_2042F]; exact rfl) ?_
        refine AL_upto (by exact rfl) (by simp only [go_sem, seval, hb_2040F, hb_2041F, hb_2042F]; exact rfl) ?_
        refine AL_nil ?_
        refine thenA_n ?_
        by_cases hb_2045 : r_2043 = true
        · rw [if_pos hb_2045] at h
          refine awp_cf (by simp only [go_sem, seval, hb_2040F, hb_2041F, hb_2042F, hb_2045]) ?_
          refine awp_skip ?_
          refine thenA_n ?_
          refine awp_seq ?_
          refine awp_seq ?_
          refine awp_region ?_
          refine AL_upto (by exact rfl) (by simp only [go_sem, seval, hb_2040F, hb_2041F, hb_2042F, hb_2045]; exact rfl) ?_
          refine AL_nil ?_
          refine thenA_n ?_
          refine awp_block ?_
          obtain ⟨o_2194, hL_2195, h⟩ := Option.bind_eq_some_iff.1 h
          refine awp_loop_L (fun (s : Int) => ⟨[(1, .loc 1 1 0 0), (3, .p (.int .i64 s))], [(1, .arr 55 5 1 [.p (encMerged m_2037)])]⟩) (fun (o : (Unit) ⊕ (Bool)) (e : Exit) (s' : St) => match o with | .inl o_2197 => e = (.exit 0) ∧ Le ⟨Try.prog, Try.f38.ntmps, 0, X, [], fun _ => none, w⟩ s' ⟨[], []⟩ | .inr o_2198 => e = .ret ∧ retQ Try.prog Try.f38 (.bool o_2198) .ret s') (by intro o s hT; rcases o with _ | _ <;> (have hh := hT.1; cases hh)) hL_2195 (by simp only [go_sem, seval, hb_2040F, hb_2041F, hb_2042F, hb_2045]; all_goals ((repeat' refine And.intro ?_ ?_) <;> first | rfl | (simp; done) | (simp; rfl) | (simp [*]; done) | (simp [*]; rfl))) ?_ ?_
          · clear h
            intro i_2095 x h
            simp only [drossref55_WellFormed_l4] at h
            show AWp _ _ _ ⟨[(1, .loc 1 1 0 0), (3, .p (.int .i64 i_2095))], [(1, .arr 55 5 1 [.p (encMerged m_2037)])]⟩
            refine awp_seq ?_
            refine awp_seq ?_
            refine awp_region ?_
            refine AL_upto (by exact rfl) (by simp only [go_sem, seval]; exact rfl) ?_
            refine AL_nil ?_
            refine thenA_n ?_
            by_cases hb_2145 : i_2095 < (m_2037.Clusters.length : Int)
            · rw [if_pos hb_2145] at h
              have hb_2145T := eq_true hb_2145
              refine awp_ct (by simp only [go_sem, seval, hb_2145T]) ?_
              refine awp_skip ?_
              refine thenA_n ?_
              refine awp_seq ?_
              refine awp_block ?_
              refine awp_seq ?_
              refine awp_seq ?_
              refine awp_drawn_walk mixed (by decide) ?_
              obtain ⟨x_2146, hx_2147, h⟩ := Option.bind_eq_some_iff.1 h
              obtain ⟨hx_2147a, hx_2147, hx_2147b⟩ := idx_some hx_2147
              have hx_2147A := eq_true hx_2147a
              have hx_2147B := eq_true hx_2147b
              obtain ⟨x_2148, hx_2149, h⟩ := Option.bind_eq_some_iff.1 h
              obtain ⟨hx_2149a, hx_2149, hx_2149b⟩ := idx_some hx_2149
              have hx_2149A := eq_true hx_2149a
              have hx_2149B := eq_true hx_2149b
              obtain ⟨x_2150, hx_2151, h⟩ := Option.bind_eq_some_iff.1 h
              have hx_2151l := eq_true (lt_of_get hx_2151)
              have hx_2151L : ((0 : Int) < (x_2148.length : Int)) = True := eq_true (by have := lt_of_get hx_2151; omega)
              refine DGo.upto (by exact rfl) (by simp only [go_sem, seval, hb_2145T, hx_2147, hx_2147A, hx_2147B, hx_2149, hx_2149A, hx_2149B, hx_2151, hx_2151l, hx_2151L]; exact ⟨rfl, rfl⟩) ?_
              by_cases hb_2152 : (x_2146.ID != x_2150) = true
              · rw [if_pos hb_2152] at h
                refine DGo.known' (d := 57) (v := .p (.bool true)) (by simp only [go_sem, seval, hb_2145T, hb_2152]) ?_
                refine DGo.skips (by exact rfl) ?_
                refine DGo.upto (by exact rfl) (by simp only [go_sem, seval, hb_2145T, hb_2152]; exact ⟨rfl, rfl⟩) ?_
                refine DGo.fin rfl ?_
                refine thenA_n ?_
                refine awp_ct (by simp only [go_sem, seval, hb_2145T, hb_2152]) ?_
                refine awp_seq ?_
                refine awp_region ?_
                refine AL_upto (by exact rfl) (by simp only [go_sem, seval, hb_2145T, hb_2152]; exact rfl) ?_
                refine AL_nil ?_
                refine thenA_n ?_
                refine awp_ret ?_
                refine thenA_ret ?_
                refine blockA_ret ?_
                refine thenA_ret ?_
                cases h
                refine ⟨rfl, ?_⟩
                refine retQ_ret (by simp only [Try.results38]; simp only [go_sem, seval, hb_2145T, hb_2152]; exact rfl) ?_
                simp only [go_sem, seval, hb_2145T, hb_2152]
                all_goals ((repeat' refine And.intro ?_ ?_) <;> first | rfl | (simp; done) | (simp; rfl) | (simp [*]; done) | (simp [*]; rfl))
              · rw [if_neg hb_2152] at h
                have hb_2152F := Bool.eq_false_iff.2 hb_2152
                refine DGo.known' (d := 57) (v := .p (.bool false)) (by simp only [go_sem, seval, hb_2145T, hb_2152F]) ?_
                refine DGo.gt' (guard_true' rfl rfl (by exact rfl) (by exact rfl)) rfl (by simp only [go_sem, seval, hb_2145T, hb_2152F]; exact ⟨rfl, rfl⟩) ?_
                refine DGo.gt' (guard_true' rfl rfl (by exact rfl) (by exact rfl)) rfl (by simp only [go_sem, seval, hb_2145T, hb_2152F]; exact ⟨rfl, rfl⟩) ?_
                refine DGo.gt' (guard_true' rfl rfl (by exact rfl) (by exact rfl)) rfl (by simp only [go_sem, seval, hb_2145T, hb_2152F]; exact ⟨rfl, rfl⟩) ?_
                obtain ⟨x_2155, hx_2156, h⟩ := Option.bind_eq_some_iff.1 h
                obtain ⟨hx_2156a, hx_2156, hx_2156b⟩ := idx_some hx_2156
                have hx_2156A := eq_true hx_2156a
                have hx_2156B := eq_true hx_2156b
                refine DGo.gt' (guard_true' rfl rfl (by exact rfl) (by exact rfl)) rfl (by simp only [go_sem, seval, hb_2145T, hb_2152F, hx_2156, hx_2156A, hx_2156B]; exact ⟨rfl, rfl⟩) ?_
                refine DGo.gt' (guard_true' rfl rfl (by exact rfl) (by exact rfl)) rfl (by simp only [go_sem, seval, hb_2145T, hb_2152F]; exact ⟨rfl, rfl⟩) ?_
                refine DGo.gt' (guard_true' rfl rfl (by exact rfl) (by exact rfl)) rfl (by simp only [go_sem, seval, hb_2145T, hb_2152F]; exact ⟨rfl, rfl⟩) ?_
                refine DGo.gt' (guard_true' rfl rfl (by exact rfl) (by exact rfl)) rfl (by simp only [go_sem, seval, hb_2145T, hb_2152F]; exact ⟨rfl, rfl⟩) ?_
                refine DGo.gt' (guard_true' rfl rfl (by exact rfl) (by exact rfl)) rfl (by simp only [go_sem, seval, hb_2145T, hb_2152F]; exact ⟨rfl, rfl⟩) ?_
                refine DGo.gt' (guard_true' rfl rfl (by exact rfl) (by exact rfl)) rfl (by simp only [go_sem, seval, hb_2145T, hb_2152F]; exact ⟨rfl, rfl⟩) ?_
                refine DGo.gt' (guard_true' rfl rfl (by exact rfl) (by exact rfl)) rfl (by simp only [go_sem, seval, hb_2145T, hb_2152F]; exact ⟨rfl, rfl⟩) ?_
                refine DGo.gt' (guard_true' rfl rfl (by exact rfl) (by exact rfl)) rfl (by simp only [go_sem, seval, hb_2145T, hb_2152F]; exact ⟨rfl, rfl⟩) ?_
                refine DGo.upto (by exact rfl) (by simp only [go_sem, seval, hb_2145T, hb_2152F]; exact ⟨rfl, rfl⟩) ?_
                refine DGo.fin rfl ?_
                refine thenA_n ?_
                by_cases hb_2157 : ((x_2155.length : Int) != (m_2037.Table.Attrs.length : Int)) = true
                · rw [if_pos hb_2157] at h
                  refine awp_ct (by simp only [go_sem, seval, hb_2145T, hb_2152F, hb_2157]) ?_
                  refine awp_seq ?_
                  refine awp_region ?_
                  refine AL_upto (by exact rfl) (by simp only [go_sem, seval, hb_2145T, hb_2152F, hb_2157]; exact rfl) ?_
                  refine AL_nil ?_
                  refine thenA_n ?_
                  refine awp_ret ?_
                  refine thenA_ret ?_
                  refine blockA_ret ?_
                  refine thenA_ret ?_
                  cases h
                  refine ⟨rfl, ?_⟩
                  refine retQ_ret (by simp only [Try.results38]; simp only [go_sem, seval, hb_2145T, hb_2152F, hb_2157]; exact rfl) ?_
                  simp only [go_sem, seval, hb_2145T, hb_2152F, hb_2157]
                  all_goals ((repeat' refine And.intro ?_ ?_) <;> first | rfl | (simp; done) | (simp; rfl) | (simp [*]; done) | (simp [*]; rfl))
                · rw [if_neg hb_2157] at h
                  have hb_2157F := Bool.eq_false_iff.2 hb_2157
                  refine awp_cf (by simp only [go_sem, seval, hb_2145T, hb_2152F, hb_2157F]) ?_
                  refine awp_skip ?_
                  refine thenA_n ?_
                  refine awp_seq ?_
                  refine awp_region ?_
                  refine AL_upto (by exact rfl) (by simp only [go_sem, seval, hb_2145T, hb_2152F, hb_2157F]; exact rfl) ?_
                  refine AL_nil ?_
                  refine thenA_n ?_
                  refine awp_block ?_
                  obtain ⟨o_2189, hL_2190, h⟩ := Option.bind_eq_some_iff.1 h
                  refine awp_loop_L (fun (s : Int) => ⟨[(1, .loc 1 1 0 0), (3, .p (.int .i64 i_2095)), (4, .p (.int .i64 s)), (58, .loc 1 1 0 4), (59, .p (.slc (List.map (encL (PV.int .i64)) m_2037.Origins))), (60, .p (.int .i64 i_2095)), (61, .p (.imm [.slc (List.map (PV.int .i64) x_2155)])), (62, .p (.slc (List.map (PV.int .i64) x_2155))), (63, .p (.int .i64 (x_2155.length : Int))), (64, .loc 1 1 0 0), (65, .loc 1 1 0 1), (66, .p (.slc (List.map PV.str m_2037.Table.Attrs))), (67, .p (.int .i64 (m_2037.Table.Attrs.length : Int))), (68, .p (.bool ((x_2155.length : Int) != (m_2037.Table.Attrs.length : Int))))], [(1, .arr 55 5 1 [.p (encMerged m_2037)])]⟩) (fun (o : (Unit) ⊕ (Bool)) (e : Exit) (s' : St) => match o with | .inl o_2192 => e = (.exit 2) ∧ Le ⟨Try.prog, Try.f38.ntmps, 0, X, [], fun _ => none, w⟩ s' ⟨[(1, .loc 1 1 0 0), (3, .p (.int .i64 i_2095)), (58, .loc 1 1 0 4), (59, .p (.slc (List.map (encL (PV.int .i64)) m_2037.Origins))), (60, .p (.int .i64 i_2095)), (61, .p (.imm [.slc (List.map (PV.int .i64) x_2155)])), (62, .p (.slc (List.map (PV.int .i64) x_2155))), (63, .p (.int .i64 (x_2155.length : Int))), (64, .loc 1 1 0 0), (65, .loc 1 1 0 1), (66, .p (.slc (List.map PV.str m_2037.Table.Attrs))), (67, .p (.int .i64 (m_2037.Table.Attrs.length : Int))), (68, .p (.bool ((x_2155.length : Int) != (m_2037.Table.Attrs.length : Int))))], [(1, .arr 55 5 1 [.p (encMerged m_2037)])]⟩ | .inr o_2193 => e = .ret ∧ retQ Try.prog Try.f38 (.bool o_2193) .ret s') (by intro o s hT; rcases o with _ | _ <;> (have hh := hT.1; cases hh)) hL_2190 (by simp only [go_sem, seval, hb_2145T, hb_2152F, hb_2157F]; all_goals ((repeat' refine And.intro ?_ ?_) <;> first | rfl | (simp; done) | (simp; rfl) | (simp [*]; done) | (simp [*]; rfl))) ?_ ?_
                  · clear h
                    intro k_2168 x h
                    simp only [drossref55_WellFormed_l3] at h
                    show AWp _ _ _ ⟨[(1, .loc 1 1 0 0), (3, .p (.int .i64 i_2095)), (4, .p (.int .i64 k_2168)), (58, .loc 1 1 0 4), (59, .p (.slc (List.map (encL (PV.int .i64)) m_2037.Origins))), (60, .p (.int .i64 i_2095)), (61, .p (.imm [.slc (List.map (PV.int .i64) x_2155)])), (62, .p (.slc (List.map (PV.int .i64) x_2155))), (63, .p (.int .i64 (x_2155.length : Int))), (64, .loc 1 1 0 0), (65, .loc 1 1 0 1), (66, .p (.slc (List.map PV.str m_2037.Table.Attrs))), (67, .p (.int .i64 (m_2037.Table.Attrs.length : Int))), (68, .p (.bool ((x_2155.length : Int) != (m_2037.Table.Attrs.length : Int))))], [(1, .arr 55 5 1 [.p (encMerged m_2037)])]⟩
                    refine awp_seq ?_
                    refine awp_seq ?_
                    refine awp_region ?_
                    obtain ⟨x_2179, hx_2180, h⟩ := Option.bind_eq_some_iff.1 h
                    obtain ⟨hx_2180a, hx_2180, hx_2180b⟩ := idx_some hx_2180
                    have hx_2180A := eq_true hx_2180a
                    have hx_2180B := eq_true hx_2180b
                    refine AL_upto (by exact rfl) (by simp only [go_sem, seval, hx_2180, hx_2180A, hx_2180B]; exact rfl) ?_
                    refine AL_nil ?_
                    refine thenA_n ?_
                    by_cases hb_2181 : k_2168 < (x_2179.length : Int)
                    · rw [if_pos hb_2181] at h
                      have hb_2181T := eq_true hb_2181
                      refine awp_ct (by simp only [go_sem, seval, hb_2181T]) ?_
                      refine awp_skip ?_
                      refine thenA_n ?_
                      refine awp_seq ?_
                      refine awp_block ?_
                      refine awp_seq ?_
                      refine awp_drawn_walk mixed (by decide) ?_
                      obtain ⟨x_2182, hx_2183, h⟩ := Option.bind_eq_some_iff.1 h
                      obtain ⟨hx_2183a, hx_2183, hx_2183b⟩ := idx_some hx_2183
                      have hx_2183A := eq_true hx_2183a
                      have hx_2183B := eq_true hx_2183b
                      obtain ⟨x_2184, hx_2185, h⟩ := Option.bind_eq_some_iff.1 h
                      obtain ⟨hx_2185a, hx_2185, hx_2185b⟩ := idx_some hx_2185
                      have hx_2185A := eq_true hx_2185a
                      have hx_2185B := eq_true hx_2185b
                      refine DGo.upto (by exact rfl) (by simp only [go_sem, seval, hb_2181T, hx_2183, hx_2183A, hx_2183B, hx_2180, hx_2180A, hx_2180B, hx_2185, hx_2185A, hx_2185B]; exact ⟨rfl, rfl⟩) ?_
                      obtain ⟨r_2186, hr_2187, h⟩ := Option.bind_eq_some_iff.1 h
                      refine DGo.con' rfl (guard_none rfl) rfl (by simp only [go_sem, seval, hb_2181T]; exact rfl) (by simp only [go_sem, seval, hb_2181T]; all_goals ((repeat' refine And.intro ?_ ?_) <;> first | rfl | (simp; done) | (simp; rfl) | (simp [*]; done) | (simp [*]; rfl))) (by simp only [go_sem, seval, hb_2181T]; exact rfl) (drossref03_Has_con x_2182 x_2184 _ hr_2187) (.inr rfl) rfl ?_
                      refine DGo.upto (by exact rfl) (by simp only [go_sem, seval, hb_2181T]; exact ⟨rfl, rfl⟩) ?_
                      refine DGo.fin rfl ?_
                      refine thenA_n ?_
                      by_cases hb_2188 : r_2186 = true
                      · rw [if_pos hb_2188] at h
                        refine awp_cf (by simp only [go_sem, seval, hb_2181T, hb_2188]) ?_
                        refine awp_skip ?_
                        refine blockA_n ?_
                        refine thenA_n ?_
                        refine awp_region ?_
                        refine AL_upto (by exact rfl) (by simp only [go_sem, seval, hb_2181T, hb_2188]; exact rfl) ?_
                        refine AL_nil ?_
                        cases h
                        refine ⟨rfl, ?_⟩
                        simp only [go_sem, seval, hb_2181T, hb_2188]
                        all_goals ((repeat' refine And.intro ?_ ?_) <;> first | rfl | (simp; done) | (simp; rfl) | (simp [*]; done) | (simp [*]; rfl))
                      · rw [if_neg hb_2188] at h
                        have hb_2188F := Bool.eq_false_iff.2 hb_2188
                        refine awp_ct (by simp only [go_sem, seval, hb_2181T, hb_2188F]) ?_
                        refine awp_seq ?_
                        refine awp_region ?_
                        refine AL_upto (by exact rfl) (by simp only [go_sem, seval, hb_2181T, hb_2188F]; exact rfl) ?_
                        refine AL_nil ?_
                        refine thenA_n ?_
                        refine awp_ret ?_
                        refine blockA_ret ?_
                        refine thenA_ret ?_
                        cases h
                        refine ⟨rfl, ?_⟩
                        refine retQ_ret (by simp only [Try.results38]; simp only [go_sem, seval, hb_2181T, hb_2188F]; exact rfl) ?_
                        simp only [go_sem, seval, hb_2181T, hb_2188F]
                        all_goals ((repeat' refine And.intro ?_ ?_) <;> first | rfl | (simp; done) | (simp; rfl) | (simp [*]; done) | (simp [*]; rfl))
                    · rw [if_neg hb_2181] at h
                      have hb_2181T := eq_false hb_2181
                      refine awp_cf (by simp only [go_sem, seval, hb_2181T]) ?_
                      refine awp_exit ?_
                      refine thenA_exit ?_
                      cases h
                      refine ⟨rfl, ?_⟩
                      simp only [go_sem, seval, hb_2181T]
                      all_goals ((repeat' refine And.intro ?_ ?_) <;> first | rfl | (simp; done) | (simp; rfl) | (simp [*]; done) | (simp [*]; rfl))
                  · intro e s' hT
                    rcases o_2189 with ⟨⟩ | r_2191
                    · try simp only at h
                      try simp only at hT
                      obtain ⟨rfl, hle⟩ := hT
                      refine Wk.to hle ?_
                      clear hle
                      refine blockA_here ?_
                      refine blockA_n ?_
                      refine thenA_n ?_
                      refine awp_region ?_
                      refine AL_upto (by exact rfl) (by simp only [go_sem, seval, hb_2145T, hb_2152F, hb_2157F]; exact rfl) ?_
                      refine AL_nil ?_
                      cases h
                      refine ⟨rfl, ?_⟩
                      simp only [go_sem, seval, hb_2145T, hb_2152F, hb_2157F]
                      all_goals ((repeat' refine And.intro ?_ ?_) <;> first | rfl | (simp; done) | (simp; rfl) | (simp [*]; done) | (simp [*]; rfl))
                    · try simp only at h
                      try simp only at hT
                      obtain ⟨rfl, hq⟩ := hT
                      refine Wk.now ?_
                      refine blockA_ret ?_
                      refine blockA_ret ?_
                      refine thenA_ret ?_
                      cases h
                      refine ⟨rfl, ?_⟩
                      exact hq
            · rw [if_neg hb_2145] at h
              have hb_2145T := eq_false hb_2145
              refine awp_cf (by simp only [go_sem, seval, hb_2145T]) ?_
              refine awp_exit ?_
              refine thenA_exit ?_
              cases h
              refine ⟨rfl, ?_⟩
              simp only [go_sem, seval, hb_2145T]
              all_goals ((repeat' refine And.intro ?_ ?_) <;> first | rfl | (simp; done) | (simp; rfl) | (simp [*]; done) | (simp [*]; rfl))
          · intro e s' hT
            rcases o_2194 with ⟨⟩ | r_2196
            · try simp only at h
              try simp only at hT
              obtain ⟨rfl, hle⟩ := hT
              refine Wk.to hle ?_
              clear hle
              refine blockA_here ?_
              refine thenA_n ?_
              refine awp_seq ?_
              refine awp_region ?_
              refine AL_upto (by exact rfl) (by simp only [go_sem, seval, hb_2040F, hb_2041F, hb_2042F, hb_2045]; exact rfl) ?_
              refine AL_nil ?_
              refine thenA_n ?_
              refine awp_ret ?_
              cases h
              refine retQ_ret (by simp only [Try.results38]; simp only [go_sem, seval, hb_2040F, hb_2041F, hb_2042F, hb_2045]; exact rfl) ?_
              simp only [go_sem, seval, hb_2040F, hb_2041F, hb_2042F, hb_2045]
              all_goals ((repeat' refine And.intro ?_ ?_) <;> first | rfl | (simp; done) | (simp; rfl) | (simp [*]; done) | (simp [*]; rfl))
            · try simp only at h
              try simp only at hT
              obtain ⟨rfl, hq⟩ := hT
              refine Wk.now ?_
              refine blockA_ret ?_
              refine thenA_ret ?_
              cases h
              exact hq
        · rw [if_neg hb_2045] at h
          have hb_2045F := Bool.eq_false_iff.2 hb_2045
          refine awp_ct (by simp only [go_sem, seval, hb_2040F, hb_2041F, hb_2042F, hb_2045F]) ?_
          refine awp_seq ?_
          refine awp_region ?_
          refine AL_upto (by exact rfl) (by simp only [go_sem, seval, hb_2040F, hb_2041F, hb_2042F, hb_2045F]; exact rfl) ?_
          refine AL_nil ?_
          refine thenA_n ?_
          refine awp_ret ?_
          refine thenA_ret ?_
          cases h
          refine retQ_ret (by simp only [Try.results38]; simp only [go_sem, seval, hb_2040F, hb_2041F, hb_2042F, hb_2045F]; exact rfl) ?_
          simp only [go_sem, seval, hb_2040F, hb_2041F, hb_2042F, hb_2045F]
          all_goals ((repeat' refine And.intro ?_ ?_) <;> first | rfl | (simp; done) | (simp; rfl) | (simp [*]; done) | (simp [*]; rfl))
end Go.Proofs.Ytdmddoljldjjeaa
set_option linter.unusedVariables false
set_option linter.unusedSimpArgs false
namespace Go.Proofs.Ytdmddoljldjjeaa
open Go Go.Ab
set_option maxHeartbeats 4000000 in
theorem drossref03_Find_con (t_2200 : Table) (id_2201 : Int) (r_2220 : Int × Bool) (h : drossref03_Find t_2200 id_2201 = some r_2220) : Con Try.prog 39 [(encTable t_2200), (.int .i64 id_2201)] (.tup [(.int .i64 r_2220.1), (.bool r_2220.2)]) := by
  refine ⟨Try.call39, ?_⟩
  refine pure_of_awp Try.func39 rfl Try.ntmps39 (by simp) fun X w => ?_
  show AWp _ _ _ ⟨[(0, .p (encTable t_2200)), (1, .p (.int .i64 id_2201))], []⟩
  simp only [drossref03_Find] at h
  refine awp_seq ?_
  refine awp_region ?_
  refine AL_upto (by exact rfl) (by simp only [go_sem, seval]; exact rfl) ?_
  refine AL_nil ?_
  refine thenA_n ?_
  refine awp_seq ?_
  refine awp_seq ?_
  refine awp_region ?_
  refine AL_upto (by exact rfl) (by simp only [go_sem, seval]; exact rfl) ?_
  refine AL_nil ?_
  refine thenA_n ?_
  refine awp_block ?_
  obtain ⟨o_2215, hL_2216, h⟩ := Option.bind_eq_some_iff.1 h
  refine awp_loop_L (fun (s : Int) => ⟨[(1, .p (.int .i64 id_2201)), (2, .loc 2 1 0 0), (6, .p (.int .i64 s))], [(2, .arr 52 3 1 [.p (encTable t_2200)])]⟩) (fun (o : (Unit) ⊕ (Int × Bool)) (e : Exit) (s' : St) => match o with | .inl o_2218 => e = (.exit 0) ∧ Le ⟨Try.prog, Try.f39.ntmps, 0, X, [], fun _ => none, w⟩ s' ⟨[], []⟩ | .inr o_2219 => e = .ret ∧ retQ Try.prog Try.f39 (.tup [(.int .i64 o_2219.1), (.bool o_2219.2)]) .ret s') (by intro o s hT; rcases o with _ | _ <;> (have hh := hT.1; cases hh)) hL_2216 (by simp only [go_sem, seval]; all_goals ((repeat' refine And.intro ?_ ?_) <;> first | rfl | (simp; done) | (simp; rfl) | (simp [*]; done) | (simp [*]; rfl))) ?_ ?_
  · clear h
    intro i_2206 x h
    simp only [drossref03_Find_l1] at h
    show AWp _ _ _ ⟨[(1, .p (.int .i64 id_2201)), (2, .loc 2 1 0 0), (6, .p (.int .i64 i_2206))], [(2, .arr 52 3 1 [.p (encTable t_2200)])]⟩
    refine awp_seq ?_
    refine awp_seq ?_
    refine awp_region ?_
    refine AL_upto (by exact rfl) (by simp only [go_sem, seval]; exact rfl) ?_
    refine AL_nil ?_
    refine thenA_n ?_
    by_cases hb_2211 : i_2206 < (t_2200.Rows.length : Int)
    · rw [if_pos hb_2211] at h
      have hb_2211T := eq_true hb_2211
      refine awp_ct (by simp only [go_sem, seval, hb_2211T]) ?_
      refine awp_skip ?_
      refine thenA_n ?_
      refine awp_seq ?_
      refine awp_block ?_
      refine awp_seq ?_
      refine awp_region ?_
      obtain ⟨x_2212, hx_2213, h⟩ := Option.bind_eq_some_iff.1 h
      obtain ⟨hx_2213a, hx_2213, hx_2213b⟩ := idx_some hx_2213
      have hx_2213A := eq_true hx_2213a
      have hx_2213B := eq_true hx_2213b
      refine AL_upto (by exact rfl) (by simp only [go_sem, seval, hb_2211T, hx_2213, hx_2213A, hx_2213B]; exact rfl) ?_
      refine AL_nil ?_
      refine thenA_n ?_
      by_cases hb_2214 : (x_2212.ID == id_2201) = true
      · rw [if_pos hb_2214] at h
        refine awp_ct (by simp only [go_sem, seval, hb_2211T, hb_2214]) ?_
        refine awp_seq ?_
        refine awp_region ?_
        refine AL_upto (by exact rfl) (by simp only [go_sem, seval, hb_2211T, hb_2214]; exact rfl) ?_
        refine AL_nil ?_
        refine thenA_n ?_
        refine awp_ret ?_
        refine blockA_ret ?_
        refine thenA_ret ?_
        cases h
        refine ⟨rfl, ?_⟩
        refine retQ_ret (by simp only [Try.results39]; simp only [go_sem, seval, hb_2211T, hb_2214]; exact rfl) ?_
        simp only [go_sem, seval, hb_2211T, hb_2214]
        all_goals ((repeat' refine And.intro ?_ ?_) <;> first | rfl | (simp; done) | (simp; rfl) | (simp [*]; done) | (simp [*]; rfl))
      · rw [if_neg hb_2214] at h
        have hb_2214F := Bool.eq_false_iff.2 hb_2214
        refine awp_cf (by simp only [go_sem, seval, hb_2211T, hb_2214F]) ?_
        refine awp_skip ?_
        refine blockA_n ?_
        refine thenA_n ?_
        refine awp_region ?_
        refine AL_upto (by exact rfl) (by simp only [go_sem, seval, hb_2211T, hb_2214F]; exact rfl) ?_
        refine AL_nil ?_
        cases h
        refine ⟨rfl, ?_⟩
        simp only [go_sem, seval, hb_2211T, hb_2214F]
        all_goals ((repeat' refine And.intro ?_ ?_) <;> first | rfl | (simp; done) | (simp; rfl) | (simp [*]; done) | (simp [*]; rfl))
    · rw [if_neg hb_2211] at h
      have hb_2211T := eq_false hb_2211
      refine awp_cf (by simp only [go_sem, seval, hb_2211T]) ?_
      refine awp_exit ?_
      refine thenA_exit ?_
      cases h
      refine ⟨rfl, ?_⟩
      simp only [go_sem, seval, hb_2211T]
      all_goals ((repeat' refine And.intro ?_ ?_) <;> first | rfl | (simp; done) | (simp; rfl) | (simp [*]; done) | (simp [*]; rfl))
  · intro e s' hT
    rcases o_2215 with ⟨⟩ | r_2217
    · try simp only at h
      try simp only at hT
      obtain ⟨rfl, hle⟩ := hT
      refine Wk.to hle ?_
      clear hle
      refine blockA_here ?_
      refine thenA_n ?_
      refine awp_seq ?_
      refine awp_region ?_
      refine AL_upto (by exact rfl) (by simp only [go_sem, seval]; exact rfl) ?_
      refine AL_nil ?_
      refine thenA_n ?_
      refine awp_ret ?_
      cases h
      refine retQ_ret (by simp only [Try.results39]; simp only [go_sem, seval]; exact rfl) ?_
      simp only [go_sem, seval]
      all_goals ((repeat' refine And.intro ?_ ?_) <;> first | rfl | (simp; done) | (simp; rfl) | (simp [*]; done) | (simp [*]; rfl))
    · try simp only at h
      try simp only at hT
      obtain ⟨rfl, hq⟩ := hT
      refine Wk.now ?_
      refine blockA_ret ?_
      refine thenA_ret ?_
      cases h
      exact hq
end Go.Proofs.Ytdmddoljldjjeaa
set_option linter.unusedVariables false
set_option linter.unusedSimpArgs false
namespace Go.Proofs.Ytdmddoljldjjeaa
open Go Go.Ab
set_option maxHeartbeats 4000000 in
theorem drossref55_Source_con (m_2221 : Merged) (c_2222 : CellRef) (r_2237 : CellRef × Int) (h : drossref55_Source m_2221 c_2222 = some r_2237) : Con Try.prog 18 [(encMerged m_2221), (encCellRef c_2222)] (.tup [(encCellRef r_2237.1), (.int .i64 r_2237.2)]) := by
  refine ⟨Try.call18, ?_⟩
  refine pure_of_awp Try.func18 rfl Try.ntmps18 (by simp) fun X w => ?_
  show AWp _ _ _ ⟨[(0, .p (encMerged m_2221)), (1, .p (encCellRef c_2222))], []⟩
  simp only [drossref55_Source] at h
  refine awp_seq ?_
  refine awp_region ?_
  refine AL_upto (by exact rfl) (by simp only [go_sem, seval]; exact rfl) ?_
  refine AL_nil ?_
  refine thenA_n ?_
  refine awp_seq ?_
  refine awp_seq ?_
  refine awp_region ?_
  refine AL_upto (by exact rfl) (by simp only [go_sem, seval]; exact rfl) ?_
  obtain ⟨r_2223, hr_2224, h⟩ := Option.bind_eq_some_iff.1 h
  refine AL_con' rfl (guard_none rfl) rfl (by simp only [go_sem, seval]; exact rfl) (by simp only [go_sem, seval]; all_goals ((repeat' refine And.intro ?_ ?_) <;> first | rfl | (simp; done) | (simp; rfl) | (simp [*]; done) | (simp [*]; rfl))) (drossref55_WellFormed_con m_2221 _ hr_2224) (.inr rfl) rfl ?_
  refine AL_upto (by exact rfl) (by simp only [go_sem, seval]; exact rfl) ?_
  refine AL_nil ?_
  refine thenA_n ?_
  by_cases hb_2225 : r_2223 = true
  · rw [if_pos hb_2225] at h
    refine awp_cf (by simp only [go_sem, seval, hb_2225]) ?_
    refine awp_skip ?_
    refine thenA_n ?_
    refine awp_seq ?_
    refine awp_region ?_
    refine AL_upto (by exact rfl) (by simp only [go_sem, seval, hb_2225]; exact rfl) ?_
    obtain ⟨r_2228, hr_2229, h⟩ := Option.bind_eq_some_iff.1 h
    refine AL_con' rfl (guard_none rfl) rfl (by simp only [go_sem, seval, hb_2225]; exact rfl) (by simp only [go_sem, seval, hb_2225]; all_goals ((repeat' refine And.intro ?_ ?_) <;> first | rfl | (simp; done) | (simp; rfl) | (simp [*]; done) | (simp [*]; rfl))) (drossref03_Find_con m_2221.Table c_2222.ID _ hr_2229) (.inr rfl) rfl ?_
    refine AL_upto (by exact rfl) (by simp only [go_sem, seval, hb_2225]; exact rfl) ?_
    refine AL_nil ?_
    refine thenA_n ?_
    refine awp_seq ?_
    refine awp_seq ?_
    refine awp_region ?_
    refine AL_upto (by exact rfl) (by simp only [go_sem, seval, hb_2225]; exact rfl) ?_
    refine AL_nil ?_
    refine thenA_n ?_
    by_cases hb_2230 : r_2228.2 = true
    · rw [if_pos hb_2230] at h
      refine awp_cf (by simp only [go_sem, seval, hb_2225, hb_2230]) ?_
      refine awp_skip ?_
      refine thenA_n ?_
      refine awp_seq ?_
      refine awp_seq ?_
      refine awp_region ?_
      refine AL_upto (by exact rfl) (by simp only [go_sem, seval, hb_2225, hb_2230]; exact rfl) ?_
      by_cases hb_2231 : c_2222.Attr < 0
      · rw [if_pos hb_2231] at h
        have hb_2231T := eq_true hb_2231
        refine AL_known (d := 26) (v := .p (.bool true)) (by simp only [go_sem, seval, hb_2225, hb_2230, hb_2231T]) ?_
        refine AL_skips (by exact rfl) ?_
        refine AL_upto (by exact rfl) (by simp only [go_sem, seval, hb_2225, hb_2230, hb_2231T]; exact rfl) ?_
        refine AL_nil ?_
        refine thenA_n ?_
        refine awp_ct (by simp only [go_sem, seval, hb_2225, hb_2230, hb_2231T]) ?_
        refine awp_seq ?_
        refine awp_region ?_
        refine AL_upto (by exact rfl) (by simp only [go_sem, seval, hb_2225, hb_2230, hb_2231T]; exact rfl) ?_
        refine AL_nil ?_
        refine thenA_n ?_
        refine awp_ret ?_
        refine thenA_ret ?_
        cases h
        refine retQ_ret (by simp only [Try.results18]; simp only [go_sem, seval, hb_2225, hb_2230, hb_2231T]; exact rfl) ?_
        simp only [go_sem, seval, hb_2225, hb_2230, hb_2231T]
        all_goals ((repeat' refine And.intro ?_ ?_) <;> first | rfl | (simp; done) | (simp; rfl) | (simp [*]; done) | (simp [*]; rfl))
      · rw [if_neg hb_2231] at h
        have hb_2231T := eq_false hb_2231
        refine AL_known (d := 26) (v := .p (.bool false)) (by simp only [go_sem, seval, hb_2225, hb_2230, hb_2231T]) ?_
        refine AL_gt' (guard_true' rfl rfl (by exact rfl) (by exact rfl)) rfl (by simp only [go_sem, seval, hb_2225, hb_2230, hb_2231T]; exact rfl) ?_
        refine AL_gt' (guard_true' rfl rfl (by exact rfl) (by exact rfl)) rfl (by simp only [go_sem, seval, hb_2225, hb_2230, hb_2231T]; exact rfl) ?_
        refine AL_gt' (guard_true' rfl rfl (by exact rfl) (by exact rfl)) rfl (by simp only [go_sem, seval, hb_2225, hb_2230, hb_2231T]; exact rfl) ?_
        refine AL_gt' (guard_true' rfl rfl (by exact rfl) (by exact rfl)) rfl (by simp only [go_sem, seval, hb_2225, hb_2230, hb_2231T]; exact rfl) ?_
        refine AL_gt' (guard_true' rfl rfl (by exact rfl) (by exact rfl)) rfl (by simp only [go_sem, seval, hb_2225, hb_2230, hb_2231T]; exact rfl) ?_
        refine AL_gt' (guard_true' rfl rfl (by exact rfl) (by exact rfl)) rfl (by simp only [go_sem, seval, hb_2225, hb_2230, hb_2231T]; exact rfl) ?_
        refine AL_gt' (guard_true' rfl rfl (by exact rfl) (by exact rfl)) rfl (by simp only [go_sem, seval, hb_2225, hb_2230, hb_2231T]; exact rfl) ?_
        refine AL_upto (by exact rfl) (by simp only [go_sem, seval, hb_2225, hb_2230, hb_2231T]; exact rfl) ?_
        refine AL_nil ?_
        refine thenA_n ?_
        by_cases hb_2232 : c_2222.Attr ≥ (m_2221.Table.Attrs.length : Int)
        · rw [if_pos hb_2232] at h
          have hb_2232T := eq_true hb_2232
          refine awp_ct (by simp only [go_sem, seval, hb_2225, hb_2230, hb_2231T, hb_2232T]) ?_
          refine awp_seq ?_
          refine awp_region ?_
          refine AL_upto (by exact rfl) (by simp only [go_sem, seval, hb_2225, hb_2230, hb_2231T, hb_2232T]; exact rfl) ?_
          refine AL_nil ?_
          refine thenA_n ?_
          refine awp_ret ?_
          refine thenA_ret ?_
          cases h
          refine retQ_ret (by simp only [Try.results18]; simp only [go_sem, seval, hb_2225, hb_2230, hb_2231T, hb_2232T]; exact rfl) ?_
          simp only [go_sem, seval, hb_2225, hb_2230, hb_2231T, hb_2232T]
          all_goals ((repeat' refine And.intro ?_ ?_) <;> first | rfl | (simp; done) | (simp; rfl) | (simp [*]; done) | (simp [*]; rfl))
        · rw [if_neg hb_2232] at h
          have hb_2232T := eq_false hb_2232
          refine awp_cf (by simp only [go_sem, seval, hb_2225, hb_2230, hb_2231T, hb_2232T]) ?_
          refine awp_skip ?_
          refine thenA_n ?_
          refine awp_seq ?_
          refine awp_drawn_walk mixed (by decide) ?_
          obtain ⟨x_2233, hx_2234, h⟩ := Option.bind_eq_some_iff.1 h
          obtain ⟨hx_2234a, hx_2234, hx_2234b⟩ := idx_some hx_2234
          have hx_2234A := eq_true hx_2234a
          have hx_2234B := eq_true hx_2234b
          obtain ⟨x_2235, hx_2236, h⟩ := Option.bind_eq_some_iff.1 h
          obtain ⟨hx_2236a, hx_2236, hx_2236b⟩ := idx_some hx_2236
          have hx_2236A := eq_true hx_2236a
          have hx_2236B := eq_true hx_2236b
          refine DGo.upto (by exact rfl) (by simp only [go_sem, seval, hb_2225, hb_2230, hb_2231T, hb_2232T, hx_2234, hx_2234A, hx_2234B, hx_2236, hx_2236A, hx_2236B]; exact ⟨rfl, rfl⟩) ?_
          refine DGo.fin rfl ?_
          refine thenA_n ?_
          refine awp_ret ?_
          cases h
          refine retQ_ret (by simp only [Try.results18]; simp only [go_sem, seval, hb_2225, hb_2230, hb_2231T, hb_2232T]; exact rfl) ?_
          simp only [go_sem, seval, hb_2225, hb_2230, hb_2231T, hb_2232T]
          all_goals ((repeat' refine And.intro ?_ ?_) <;> first | rfl | (simp; done) | (simp; rfl) | (simp [*]; done) | (simp [*]; rfl))
    · rw [if_neg hb_2230] at h
      have hb_2230F := Bool.eq_false_iff.2 hb_2230
      refine awp_ct (by simp only [go_sem, seval, hb_2225, hb_2230F]) ?_
      refine awp_seq ?_
      refine awp_region ?_
      refine AL_upto (by exact rfl) (by simp only [go_sem, seval, hb_2225, hb_2230F]; exact rfl) ?_
      refine AL_nil ?_
      refine thenA_n ?_
      refine awp_ret ?_
      refine thenA_ret ?_
      cases h
      refine retQ_ret (by simp only [Try.results18]; simp only [go_sem, seval, hb_2225, hb_2230F]; exact rfl) ?_
      simp only [go_sem, seval, hb_2225, hb_2230F]
      all_goals ((repeat' refine And.intro ?_ ?_) <;> first | rfl | (simp; done) | (simp; rfl) | (simp [*]; done) | (simp [*]; rfl))
  · rw [if_neg hb_2225] at h
    have hb_2225F := Bool.eq_false_iff.2 hb_2225
    refine awp_ct (by simp only [go_sem, seval, hb_2225F]) ?_
    refine awp_seq ?_
    refine awp_region ?_
    refine AL_upto (by exact rfl) (by simp only [go_sem, seval, hb_2225F]; exact rfl) ?_
    refine AL_nil ?_
    refine thenA_n ?_
    refine awp_ret ?_
    refine thenA_ret ?_
    cases h
    refine retQ_ret (by simp only [Try.results18]; simp only [go_sem, seval, hb_2225F]; exact rfl) ?_
    simp only [go_sem, seval, hb_2225F]
    all_goals ((repeat' refine And.intro ?_ ?_) <;> first | rfl | (simp; done) | (simp; rfl) | (simp [*]; done) | (simp [*]; rfl))
end Go.Proofs.Ytdmddoljldjjeaa
set_option linter.unusedVariables false
set_option linter.unusedSimpArgs false
namespace Go.Proofs.Ytdmddoljldjjeaa
open Go Go.Ab
set_option maxHeartbeats 4000000 in
theorem drosslaw55_SurvivorSource_con (m_2238 : Merged) (c_2239 : CellRef) (r_2266 : Bool) (h : drosslaw55_SurvivorSource m_2238 c_2239 = some r_2266) : Con Try.prog 5 [(encMerged m_2238), (encCellRef c_2239)] (.bool r_2266) := by
  refine ⟨Try.call5, ?_⟩
  refine pure_of_awp Try.func5 rfl Try.ntmps5 (by simp) fun X w => ?_
  show AWp _ _ _ ⟨[(0, .p (encMerged m_2238)), (1, .p (encCellRef c_2239))], []⟩
  simp only [drosslaw55_SurvivorSource] at h
  refine awp_seq ?_
  refine awp_region ?_
  refine AL_upto (by exact rfl) (by simp only [go_sem, seval]; exact rfl) ?_
  refine AL_nil ?_
  refine thenA_n ?_
  refine awp_seq ?_
  obtain ⟨o_2246, hA_2247, h⟩ := Option.bind_eq_some_iff.1 h
  refine awp_join (T := (fun (o_2265 : Bool) (e : Exit) (s' : St) => e = .normal ∧ Le ⟨Try.prog, Try.f5.ntmps, 0, X, [], fun _ => none, w⟩ s' ⟨[(2, .loc 2 1 0 0), (3, .loc 3 1 0 0), (15, .p (.bool o_2265))], [(2, .arr 55 5 1 [.p (encMerged m_2238)]), (3, .arr 57 2 1 [.p (encCellRef c_2239)])]⟩) o_2246) ?_ ?_
  · replace h := hA_2247
    clear hA_2247
    refine awp_region ?_
    obtain ⟨r_2248, hr_2249, h⟩ := Option.bind_eq_some_iff.1 h
    refine AL_con' rfl (guard_none rfl) rfl (by simp only [go_sem, seval]; exact rfl) (by simp only [go_sem, seval]; all_goals ((repeat' refine And.intro ?_ ?_) <;> first | rfl | (simp; done) | (simp; rfl) | (simp [*]; done) | (simp [*]; rfl))) (drosslaw55_awake_con  _ hr_2249) (.inr rfl) rfl ?_
    refine AL_upto (by exact rfl) (by simp only [go_sem, seval]; exact rfl) ?_
    by_cases hb_2250 : r_2248 = true
    · rw [if_pos hb_2250] at h
      refine AL_known (d := 11) (v := .p (.bool false)) (by simp only [go_sem, seval, hb_2250]) ?_
      refine AL_gt' (guard_true' rfl rfl (by exact rfl) (by exact rfl)) rfl (by simp only [go_sem, seval, hb_2250]; exact rfl) ?_
      obtain ⟨r_2251, hr_2252, h⟩ := Option.bind_eq_some_iff.1 h
      refine AL_con' rfl (guard_true' rfl rfl (by exact rfl) (by exact rfl)) rfl (by simp only [go_sem, seval, hb_2250]; exact rfl) (by simp only [go_sem, seval, hb_2250]; all_goals ((repeat' refine And.intro ?_ ?_) <;> first | rfl | (simp; done) | (simp; rfl) | (simp [*]; done) | (simp [*]; rfl))) (drosslaw55_brief_con m_2238 _ hr_2252) (.inr rfl) rfl ?_
      refine AL_gt' (guard_true' rfl rfl (by exact rfl) (by exact rfl)) rfl (by simp only [go_sem, seval, hb_2250]; exact rfl) ?_
      refine AL_upto (by exact rfl) (by simp only [go_sem, seval, hb_2250]; exact rfl) ?_
      refine AL_nil ?_
      cases h
      refine ⟨rfl, ?_⟩
      simp only [go_sem, seval, hb_2250]
      all_goals ((repeat' refine And.intro ?_ ?_) <;> first | rfl | (simp; done) | (simp; rfl) | (simp [*]; done) | (simp [*]; rfl))
    · rw [if_neg hb_2250] at h
      have hb_2250F := Bool.eq_false_iff.2 hb_2250
      refine AL_known (d := 11) (v := .p (.bool true)) (by simp only [go_sem, seval, hb_2250F]) ?_
      refine AL_skips (by exact rfl) ?_
      refine AL_upto (by exact rfl) (by simp only [go_sem, seval, hb_2250F]; exact rfl) ?_
      refine AL_nil ?_
      cases h
      refine ⟨rfl, ?_⟩
      simp only [go_sem, seval, hb_2250F]
      all_goals ((repeat' refine And.intro ?_ ?_) <;> first | rfl | (simp; done) | (simp; rfl) | (simp [*]; done) | (simp [*]; rfl))
  · intro e s' hT
    obtain ⟨t15_2245, rfl⟩ : ∃ z, z = o_2246 := ⟨_, rfl⟩
    try simp only at h
    try simp only at hT
    obtain ⟨rfl, hle⟩ := hT
    refine Wk.to hle ?_
    clear hle
    refine thenA_n ?_
    by_cases hb_2253 : t15_2245 = true
    · rw [if_pos hb_2253] at h
      refine awp_ct (by simp only [go_sem, seval, hb_2253]) ?_
      refine awp_seq ?_
      refine awp_region ?_
      obtain ⟨r_2254, hr_2255, h⟩ := Option.bind_eq_some_iff.1 h
      refine AL_con' rfl (guard_none rfl) rfl (by simp only [go_sem, seval, hb_2253]; exact rfl) (by simp only [go_sem, seval, hb_2253]; all_goals ((repeat' refine And.intro ?_ ?_) <;> first | rfl | (simp; done) | (simp; rfl) | (simp [*]; done) | (simp [*]; rfl))) (drosslaw55_awake_con  _ hr_2255) (.inr rfl) rfl ?_
      refine AL_upto (by exact rfl) (by simp only [go_sem, seval, hb_2253]; exact rfl) ?_
      refine AL_nil ?_
      refine thenA_n ?_
      refine awp_ret ?_
      refine thenA_ret ?_
      cases h
      refine retQ_ret (by simp only [Try.results5]; simp only [go_sem, seval, hb_2253]; exact rfl) ?_
      simp only [go_sem, seval, hb_2253]
      all_goals ((repeat' refine And.intro ?_ ?_) <;> first | rfl | (simp; done) | (simp; rfl) | (simp [*]; done) | (simp [*]; rfl))
    · rw [if_neg hb_2253] at h
      have hb_2253F := Bool.eq_false_iff.2 hb_2253
      refine awp_cf (by simp only [go_sem, seval, hb_2253F]) ?_
      refine awp_skip ?_
      refine thenA_n ?_
      refine awp_seq ?_
      refine awp_region ?_
      refine AL_upto (by exact rfl) (by simp only [go_sem, seval, hb_2253F]; exact rfl) ?_
      obtain ⟨r_2258, hr_2259, h⟩ := Option.bind_eq_some_iff.1 h
      refine AL_con' rfl (guard_none rfl) rfl (by simp only [go_sem, seval, hb_2253F]; exact rfl) (by simp only [go_sem, seval, hb_2253F]; all_goals ((repeat' refine And.intro ?_ ?_) <;> first | rfl | (simp; done) | (simp; rfl) | (simp [*]; done) | (simp [*]; rfl))) (survivor_Source_con m_2238 c_2239 _ hr_2259) (.inr rfl) rfl ?_
      refine AL_upto (by exact rfl) (by simp only [go_sem, seval, hb_2253F]; exact rfl) ?_
      refine AL_nil ?_
      refine thenA_n ?_
      refine awp_seq ?_
      refine awp_region ?_
      refine AL_upto (by exact rfl) (by simp only [go_sem, seval, hb_2253F]; exact rfl) ?_
      obtain ⟨r_2262, hr_2263, h⟩ := Option.bind_eq_some_iff.1 h
      refine AL_con' rfl (guard_none rfl) rfl (by simp only [go_sem, seval, hb_2253F]; exact rfl) (by simp only [go_sem, seval, hb_2253F]; all_goals ((repeat' refine And.intro ?_ ?_) <;> first | rfl | (simp; done) | (simp; rfl) | (simp [*]; done) | (simp [*]; rfl))) (drossref55_Source_con m_2238 c_2239 _ hr_2263) (.inr rfl) rfl ?_
      refine AL_upto (by exact rfl) (by simp only [go_sem, seval, hb_2253F]; exact rfl) ?_
      refine AL_nil ?_
      refine thenA_n ?_
      refine awp_seq ?_
      refine awp_region ?_
      refine AL_upto (by exact rfl) (by simp only [go_sem, seval, hb_2253F]; exact rfl) ?_
      by_cases hb_2264 : ((r_2258.1.ID == r_2262.1.ID) && (r_2258.1.Attr == r_2262.1.Attr)) = true
      · rw [if_pos hb_2264] at h
        refine AL_known (d := 32) (v := .p (.bool true)) (by simp only [go_sem, seval, hb_2253F, hb_2264]) ?_
        refine AL_gt' (guard_true' rfl rfl (by exact rfl) (by exact rfl)) rfl (by simp only [go_sem, seval, hb_2253F, hb_2264]; exact rfl) ?_
        refine AL_gt' (guard_true' rfl rfl (by exact rfl) (by exact rfl)) rfl (by simp only [go_sem, seval, hb_2253F, hb_2264]; exact rfl) ?_
        refine AL_gt' (guard_true' rfl rfl (by exact rfl) (by exact rfl)) rfl (by simp only [go_sem, seval, hb_2253F, hb_2264]; exact rfl) ?_
        refine AL_upto (by exact rfl) (by simp only [go_sem, seval, hb_2253F, hb_2264]; exact rfl) ?_
        refine AL_nil ?_
        refine thenA_n ?_
        refine awp_ret ?_
        cases h
        refine retQ_ret (by simp only [Try.results5]; simp only [go_sem, seval, hb_2253F, hb_2264]; exact rfl) ?_
        simp only [go_sem, seval, hb_2253F, hb_2264]
        all_goals ((repeat' refine And.intro ?_ ?_) <;> first | rfl | (simp; done) | (simp; rfl) | (simp [*]; done) | (simp [*]; rfl))
      · rw [if_neg hb_2264] at h
        have hb_2264F := Bool.eq_false_iff.2 hb_2264
        refine AL_known (d := 32) (v := .p (.bool false)) (by simp only [go_sem, seval, hb_2253F, hb_2264F]) ?_
        refine AL_skips (by exact rfl) ?_
        refine AL_upto (by exact rfl) (by simp only [go_sem, seval, hb_2253F, hb_2264F]; exact rfl) ?_
        refine AL_nil ?_
        refine thenA_n ?_
        refine awp_ret ?_
        cases h
        refine retQ_ret (by simp only [Try.results5]; simp only [go_sem, seval, hb_2253F, hb_2264F]; exact rfl) ?_
        simp only [go_sem, seval, hb_2253F, hb_2264F]
        all_goals ((repeat' refine And.intro ?_ ?_) <;> first | rfl | (simp; done) | (simp; rfl) | (simp [*]; done) | (simp [*]; rfl))
end Go.Proofs.Ytdmddoljldjjeaa
