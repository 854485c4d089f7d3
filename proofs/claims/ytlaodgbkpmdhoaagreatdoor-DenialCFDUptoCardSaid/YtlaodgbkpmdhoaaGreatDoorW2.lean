/- Each function of the program computes what its Lean function says, where that has a value. -/
import Derived.Test.YtlaodgbkpmdhoaaGreatDoorW1
set_option linter.unusedVariables false
set_option linter.unusedSimpArgs false
namespace Go.Proofs.YtlaodgbkpmdhoaaGreatDoor
open Go Go.Ab
set_option maxHeartbeats 4000000 in
theorem denial_Violations_con (t1 : Table) (d2 : Denial) (r3 : List (List Int) × Int) (h : denial_Violations t1 d2 = some r3) : Con False Tryz.prog 29 [(encTable t1), (encDenial d2)] (.tup [(.slc (List.map (encL (PV.int .i64)) r3.1)), (.int .i64 r3.2)]) := by
 refine zP Tryz.call29 Tryz.func29 rfl Tryz.ntmps29 fun X w hT => ?_
 simp only [denial_Violations] at h
 refine zs (zr ?_)
 refine zU (zl (zn (zs (zs (zr ?_)))))
 refine zU ?_
 obtain ⟨r4, h5, h⟩ := zB h
 refine zc (denial_checked_con t1 d2 _ h5) ?_
 refine zU (zl (zn (zs (zr ?_))))
 refine zU (zl (zn ?_))
 rcases zI h with ⟨h6, h⟩ | ⟨h6, h⟩
 refine zi (zs (zr ?_))
 refine zU (zl (zn (zq (zt ?_))))
 cases h
 exact zT Tryz.results29
 have h6F := Bool.eq_false_iff.2 h6
 refine zj (zk (zn (zs (zr ?_))))
 refine zU (zl (zn (zs (zr ?_))))
 refine zU (zl (zn ?_))
 obtain ⟨o7, h8, h⟩ := zB h
 refine zJ (fun (o9 : List (List Int) × Bool) => tE (cX Tryz.f29 X w False hT) .normal ⟨[(8, .loc 8 1 0 0), (9, .p (.bool o9.2))], [(8, .arr 52 1 1 [.own 200008 1 0 o9.1.length]), (200008, .arr 57 1 1 (List.map AV.p (List.map (encL (PV.int .i64)) o9.1)))]⟩) o7 ?_ ?_
 replace h := h8
 clear h8
 refine zr ?_
 refine zU ?_
 refine zM ⟨[(8, .loc 8 1 0 0), (17, .p (encTable t1)), (18, .p (encDenial d2)), (19, .func (.func 83) [.loc 7 1 0 0, .loc 8 1 0 0])], [(7, .arr 134 1 1 [.mapo 16 1]), (8, .arr 52 1 1 [.own 200008 1 0 0]), (16, .map 1 [] []), (200008, .arr 57 1 1 [])]⟩ ?_
 obtain ⟨m10, h11, h⟩ := zB h
 replace h11 := Option.some.inj h11
 refine AL_le (st' := ⟨[(8, .loc 8 1 0 0), (17, .p (encTable t1)), (18, .p (encDenial d2)), (19, .func (.func 83) [.loc 7 1 0 0, .loc 8 1 0 0])], [(7, .arr 134 1 1 [.mapo 16 1]), (8, .arr 52 1 1 [.own 200008 1 0 0]), (16, .map 1 (List.map AV.p (encK encArr3_int64 m10)) (List.map AV.p (encW PV.bool m10))), (200008, .arr 57 1 1 [])]⟩) (by simp only [go_sem, seval, h6F, ← h11]; all_goals ((repeat' refine And.intro ?_ ?_) <;> first | rfl | (simp; done) | (simp; rfl) | (simp [*]; done) | (simp [*]; rfl))) ?_
 clear h11
 refine zM ⟨[(8, .loc 8 1 0 0), (17, .p (encTable t1)), (18, .p (encDenial d2)), (19, .func (.func 83) [.loc 7 1 0 0, .loc 8 1 0 0])], [(7, .arr 134 1 1 [.mapo 16 1]), (8, .arr 52 1 1 [.own 200008 1 0 0]), (16, .map 1 (List.map AV.p (encK encArr3_int64 m10)) (List.map AV.p (encW PV.bool m10))), (200008, .arr 57 1 1 [])]⟩ ?_
 refine AL_inline (avs := [.p (encTable t1), .p (encDenial d2), .nils, .func (.func 83) [.loc 7 1 0 0, .loc 8 1 0 0]]) 26 rfl (guard_none rfl) rfl Tryz.func82 rfl Tryz.call82 Tryz.ntmps82 (by simp) (by simp only [go_sem, seval, h6F]; all_goals rfl) ?_
 intro i12 w13 h14
 obtain ⟨l15, h16, h⟩ := zB h
 replace h16 := Option.some.inj h16
 refine awp_le (st' := ⟨[(0, .p (encTable t1)), (1, .p (encDenial d2)), (2, .p (.slc (List.map encRow l15))), (3, .func (.func 83) [.loc 7 1 0 0, .loc 8 1 0 0])], [(7, .arr 134 1 1 [.mapo 16 1]), (8, .arr 52 1 1 [.own 200008 1 0 0]), (16, .map 1 (List.map AV.p (encK encArr3_int64 m10)) (List.map AV.p (encW PV.bool m10))), (200008, .arr 57 1 1 [])]⟩) (by simp only [go_sem, seval, h6F, ← h16]; all_goals ((repeat' refine And.intro ?_ ?_) <;> first | rfl | (simp; done) | (simp; rfl) | (simp [*]; done) | (simp [*]; rfl))) ?_
 clear h16
 refine zs (zr ?_)
 refine zU (zl (zn (zs (zs (zr ?_)))))
 refine zU (zl (zn ?_))
 rcases zI h with ⟨h17, h⟩ | ⟨h17, h⟩
 refine zi (zs (zr ?_))
 refine zU ?_
 obtain ⟨r18, h19, h⟩ := zB h
 refine zc (denial_satisfied_con l15 d2.Atoms _ h19) ?_
 refine zU ?_
 rcases zI h with ⟨h20, h⟩ | ⟨h20, h⟩
 refine zw 21 false ?_
 refine zg ?_
 refine zg ?_
 refine zM ⟨[(21, .p (.bool false)), (22, .func (.func 83) [.loc 7 1 0 0, .loc 8 1 0 0]), (23, .p (.slc (List.map encRow l15)))], [(7, .arr 134 1 1 [.mapo 16 1]), (8, .arr 52 1 1 [.own 200008 1 0 0]), (16, .map 1 (List.map AV.p (encK encArr3_int64 m10)) (List.map AV.p (encW PV.bool m10))), (200008, .arr 57 1 1 [])]⟩ ?_
 refine AL_inline (avs := [.p (.slc (List.map encRow l15)), .loc 7 1 0 0, .loc 8 1 0 0]) 73 rfl (guard_true' rfl rfl (by exact rfl) (by exact rfl)) rfl Tryz.func83 rfl Tryz.call83 Tryz.ntmps83 (by simp) (by simp only [go_sem, seval, h6F, h17, h20]; all_goals rfl) ?_
 intro i21 w22 h23
 show AWp _ _ _ ⟨[(0, .p (.slc (List.map encRow l15))), (1, .loc 7 1 0 0), (2, .loc 8 1 0 0)], [(7, .arr 134 1 1 [.mapo 16 1]), (8, .arr 52 1 1 [.own 200008 1 0 0]), (16, .map 1 (List.map AV.p (encK encArr3_int64 m10)) (List.map AV.p (encW PV.bool m10))), (200008, .arr 57 1 1 [])]⟩
 refine zs (zr ?_)
 refine zU (zl (zn (zs (zr ?_))))
 refine zU (zl (zn (zs (zs (zr ?_)))))
 refine zU (zl (zn (zb ?_)))
 obtain ⟨l24, h25, h⟩ := zB h
 refine zO (fun (s : List Int × Int) => ⟨[(1, .loc 7 1 0 0), (2, .loc 8 1 0 0), (5, .own 92 1 0 s.1.length), (9, .p (.slc (List.map encRow l15))), (10, .p (.int .i64 (l15.length : Int))), (11, .p (.int .i64 s.2))], [(7, .arr 134 1 1 [.mapo 16 1]), (8, .arr 52 1 1 [.own 200008 1 0 0]), (16, .map 1 (List.map AV.p (encK encArr3_int64 m10)) (List.map AV.p (encW PV.bool m10))), (92, .arr 2 1 1 (List.map AV.p (List.map (PV.int .i64) s.1))), (200008, .arr 57 1 1 (List.map AV.p (List.map (encL (PV.int .i64)) [])))]⟩) (fun (o26 : List Int) => tE ⟨Tryz.prog, 39, 73, X, [(7, .arr 134 1 1 [.mapo 16 1]), (8, .arr 52 1 1 [.own 200008 1 0 0]), (16, .map 1 (List.map AV.p (encK encArr3_int64 m10)) (List.map AV.p (encW PV.bool m10))), (200008, .arr 57 1 1 [])], i21, w22, False, h23⟩ (.exit 0) ⟨[(1, .loc 7 1 0 0), (2, .loc 8 1 0 0), (5, .own 92 1 0 o26.length)], [(7, .arr 134 1 1 [.mapo 16 1]), (8, .arr 52 1 1 [.own 200008 1 0 0]), (16, .map 1 (List.map AV.p (encK encArr3_int64 m10)) (List.map AV.p (encW PV.bool m10))), (92, .arr 2 1 1 (List.map AV.p (List.map (PV.int .i64) o26))), (200008, .arr 57 1 1 (List.map AV.p (List.map (encL (PV.int .i64)) [])))]⟩) h25 ?_ ?_
 clear h h5 h6 h6F h17 h19 h20 h25
 intro s x h
 obtain ⟨l27, t28⟩ := s
 simp only [denial_Violations_l81] at h
 dsimp only
 refine zs (zr ?_)
 refine zU (zl (zn (zs ?_)))
 rcases zI h with ⟨h29, h⟩ | ⟨h29, h⟩
 refine zi (zk (zn (zs (zb (zs (zr ?_))))))
 obtain ⟨x30, h31, h31a, h31b, h⟩ := zX h
 refine zU (zl (zn (zr ?_)))
 obtain ⟨h32, h⟩ := ite_some h
 refine zU (zl (yn (zn (zr ?_))))
 refine zU (zl ?_)
 cases h
 exact ⟨rfl, zE⟩
 refine zj (zx (ze ?_))
 cases h
 exact ⟨rfl, zE⟩
 try simp only at h
 refine zA (yh (zn (zs (zr ?_))))
 refine zU ?_
 refine zM ⟨[(1, .loc 7 1 0 0), (2, .loc 8 1 0 0), (5, .own 92 1 0 l24.length), (21, .own 92 1 0 l24.length)], [(7, .arr 134 1 1 [.mapo 16 1]), (8, .arr 52 1 1 [.own 200008 1 0 0]), (16, .map 1 (List.map AV.p (encK encArr3_int64 m10)) (List.map AV.p (encW PV.bool m10))), (92, .arr 2 1 1 (List.map AV.p (List.map (PV.int .i64) l24))), (200008, .arr 57 1 1 (List.map AV.p (List.map (encL (PV.int .i64)) [])))]⟩ ?_
 obtain ⟨l33, h34, h⟩ := zB h
 refine zSI srt84 h34 ?_
 have h35 := srtIF_len h34
 refine zM ⟨[(1, .loc 7 1 0 0), (2, .loc 8 1 0 0), (5, .own 92 1 0 l33.length), (22, .p (.tup []))], [(7, .arr 134 1 1 [.mapo 16 1]), (8, .arr 52 1 1 [.own 200008 1 0 0]), (16, .map 1 (List.map AV.p (encK encArr3_int64 m10)) (List.map AV.p (encW PV.bool m10))), (92, .arr 2 1 1 (List.map AV.p (List.map (PV.int .i64) l33))), (200008, .arr 57 1 1 (List.map AV.p (List.map (encL (PV.int .i64)) [])))]⟩ ?_
 clear h35
 refine zl (zn (zs (zr ?_)))
 refine zU (zl (zn (zs (zr ?_))))
 refine zM ⟨[(1, .loc 7 1 0 0), (2, .loc 8 1 0 0), (5, .p (.slc (List.map (PV.int .i64) l33))), (8, .loc 81 1 0 0)], [(7, .arr 134 1 1 [.mapo 16 1]), (8, .arr 52 1 1 [.own 200008 1 0 0]), (16, .map 1 (List.map AV.p (encK encArr3_int64 m10)) (List.map AV.p (encW PV.bool m10))), (81, .arr 137 3 1 [.p (.agg [.int .i64 0, .int .i64 0, .int .i64 0])]), (200008, .arr 57 1 1 (List.map AV.p (List.map (encL (PV.int .i64)) [])))]⟩ ?_
 refine zCpa 81 0 0 0 l33 Tryz.underlying137 Tryz.underlying57 ?_
 refine zl (zn (zs (zs (zr ?_))))
 refine zU (zl (zn ?_))
 rcases zI h with ⟨h36, h⟩ | ⟨h36, h⟩
 refine zj (zk (zn (zs (zr ?_))))
 refine zU (zl (zn (zq ?_)))
 refine inlQ_ret (by simp only [Tryz.results83]; simp only [go_sem, seval, h6F, h17, h20, h36]; exact rfl) ?_
 refine zU (zl (zn (zq (zt ?_))))
 refine inlQ_ret (by simp only [Tryz.results82]; simp only [go_sem, seval, h6F, h17, h20, h36]; exact rfl) ?_
 refine zU (zl ?_)
 cases h
 exact ⟨rfl, zE⟩
 have h36F := Bool.eq_false_iff.2 h36
 refine zi (zs (zr ?_))
 refine zU (zl (zn (zr ?_)))
 have h37 : roomB 1 24 = true := by decide
 refine zU (zl (zn (zs (zr ?_))))
 refine zU (zl (zn (zq ?_)))
 refine inlQ_ret (by simp only [Tryz.results83]; simp only [go_sem, seval, h6F, h17, h20, h36F]; exact rfl) ?_
 refine zU (zl (zn (zq (zt ?_))))
 refine inlQ_ret (by simp only [Tryz.results82]; simp only [go_sem, seval, h6F, h17, h20, h36F]; exact rfl) ?_
 refine zU (zl ?_)
 cases h
 exact ⟨rfl, zE⟩
 have h20F := Bool.eq_false_iff.2 h20
 refine zw 21 true ?_
 refine zh ?_
 refine zU (zl (zn (zq (zt ?_))))
 refine inlQ_ret (by simp only [Tryz.results82]; simp only [go_sem, seval, h6F, h17, h20F]; exact rfl) ?_
 refine zU (zl ?_)
 cases h
 exact ⟨rfl, zE⟩
 have h17F := Bool.eq_false_iff.2 h17
 refine zj (zk (zn (zs (zs (zr ?_)))))
 refine zU (zl (zn (zb ?_)))
 obtain ⟨o38, h39, h⟩ := zB h
 refine zO (fun (s : (List (Arr3_int64 × Bool)) × List (List Int) × Int) => ⟨[(2, .p (.slc (List.map encRow l15))), (3, .func (.func 83) [.loc 7 1 0 0, .loc 8 1 0 0]), (4, .loc 30 1 0 0), (5, .loc 31 1 0 0), (27, .p (.slc (List.map encRow t1.Rows))), (28, .p (.int .i64 (t1.Rows.length : Int))), (29, .p (.int .i64 s.2.2))], [(7, .arr 134 1 1 [.mapo 16 1]), (8, .arr 52 1 1 [.own 200008 2 0 s.2.1.length]), (16, .map 1 (List.map AV.p (encK encArr3_int64 s.1)) (List.map AV.p (encW PV.bool s.1))), (30, .arr 41 3 1 [.p (encTable t1)]), (31, .arr 24 2 1 [.p (encDenial d2)]), (200008, .arr 57 1 2 (List.map AV.p (List.map (encL (PV.int .i64)) s.2.1)))]⟩) (fun (o : ((List (Arr3_int64 × Bool)) × List (List Int)) ⊕ ((List (Arr3_int64 × Bool)) × List (List Int))) => match o with | .inl o40 => tE ⟨Tryz.prog, 47, 26, X, [(7, .arr 134 1 1 [.mapo 16 1]), (8, .arr 52 1 1 [.own 200008 1 0 0]), (16, .map 1 (List.map AV.p (encK encArr3_int64 m10)) (List.map AV.p (encW PV.bool m10))), (200008, .arr 57 1 1 [])], i12, w13, False, h14⟩ (.exit 0) ⟨[], [(7, .arr 134 1 1 [.mapo 16 1]), (8, .arr 52 1 1 [.own 200008 2 0 o40.2.length]), (16, .map 1 (List.map AV.p (encK encArr3_int64 o40.1)) (List.map AV.p (encW PV.bool o40.1))), (200008, .arr 57 1 2 (List.map AV.p (List.map (encL (PV.int .i64)) o40.2)))]⟩ | .inr o41 => tE ⟨Tryz.prog, 47, 26, X, [(7, .arr 134 1 1 [.mapo 16 1]), (8, .arr 52 1 1 [.own 200008 1 0 0]), (16, .map 1 (List.map AV.p (encK encArr3_int64 m10)) (List.map AV.p (encW PV.bool m10))), (200008, .arr 57 1 1 [])], i12, w13, False, h14⟩ .ret ⟨[(8, .p (.bool false))], [(7, .arr 134 1 1 [.mapo 16 1]), (8, .arr 52 1 1 [.own 200008 2 0 o41.2.length]), (16, .map 1 (List.map AV.p (encK encArr3_int64 o41.1)) (List.map AV.p (encW PV.bool o41.1))), (200008, .arr 57 1 2 (List.map AV.p (List.map (encL (PV.int .i64)) o41.2)))]⟩) h39 ?_ ?_
 clear h h5 h6 h6F h17 h17F h39
 intro s x h
 obtain ⟨f42, f43, t44⟩ := s
 simp only [denial_Violations_l160] at h
 dsimp only
 refine zs (zr ?_)
 refine zU (zl (zn (zs ?_)))
 rcases zI h with ⟨h45, h⟩ | ⟨h45, h⟩
 have h45T := eq_true h45
 refine zi (zk (zn (zs (zb (zs (zr ?_))))))
 obtain ⟨x46, h47, h47a, h47b, h⟩ := zX h
 refine zU (zl (zn (zs (zs (zr ?_)))))
 refine zU ?_
 obtain ⟨r48, h49, h⟩ := zB h
 refine zc (slices_ContainsFunc_Row_con l15 (fun (y50 : Row) => denial_visit_1 y50 x46) 125 [.imm [.int .i64 x46.ID, .slc (List.map encValue x46.Values)]] (fun y50 r h => denial_visit_1_con y50 x46 r h) _ h49) ?_
 refine zl (zn ?_)
 rcases zI h with ⟨h51, h⟩ | ⟨h51, h⟩
 refine zi (zx (ze (yh (zn (zr ?_)))))
 refine zU (zl ?_)
 cases h
 exact ⟨rfl, zE⟩
 have h51F := Bool.eq_false_iff.2 h51
 refine zj (zk (zn (zs ?_)))
 refine zdl 8 ?_
 refine yU ?_
 obtain ⟨h52, h⟩ := ite_some h
 refine yK cln126 65 encRow l15 _ rfl ⟨by unfold maxLen; omega, by omega⟩ ?_
 have h53 := @take_cut PV
 obtain ⟨h54, h⟩ := ite_some h
 refine yU ?_
 refine ydlS ?_
 refine zM ⟨[(2, .p (.slc (List.map encRow l15))), (3, .func (.func 83) [.loc 7 1 0 0, .loc 8 1 0 0]), (4, .loc 30 1 0 0), (5, .loc 31 1 0 0), (27, .p (.slc (List.map encRow t1.Rows))), (28, .p (.int .i64 (t1.Rows.length : Int))), (29, .p (.int .i64 t44)), (36, .p (encTable t1)), (37, .p (encDenial d2)), (42, .p (.slc (List.map encRow (l15 ++ [x46])))), (43, .func (.func 83) [.loc 7 1 0 0, .loc 8 1 0 0])], [(7, .arr 134 1 1 [.mapo 16 1]), (8, .arr 52 1 1 [.own 200008 2 0 f43.length]), (16, .map 1 (List.map AV.p (encK encArr3_int64 f42)) (List.map AV.p (encW PV.bool f42))), (30, .arr 41 3 1 [.p (encTable t1)]), (31, .arr 24 2 1 [.p (encDenial d2)]), (200008, .arr 57 1 2 (List.map AV.p (List.map (encL (PV.int .i64)) f43)))]⟩ ?_
 refine AL_inline (avs := [.p (encTable t1), .p (encDenial d2), .p (.slc (List.map encRow (l15 ++ [x46]))), .func (.func 83) [.loc 7 1 0 0, .loc 8 1 0 0]]) 112 rfl (guard_none rfl) rfl Tryz.func82 rfl Tryz.call82 Tryz.ntmps82 (by simp) (by simp only [go_sem, seval, h45T, h51F]; all_goals rfl) ?_
 intro i55 w56 h57
 obtain ⟨l58, h59, h⟩ := zB h
 replace h59 := Option.some.inj h59
 refine awp_le (st' := ⟨[(0, .p (encTable t1)), (1, .p (encDenial d2)), (2, .p (.slc (List.map encRow l58))), (3, .func (.func 83) [.loc 7 1 0 0, .loc 8 1 0 0])], [(7, .arr 134 1 1 [.mapo 16 1]), (8, .arr 52 1 1 [.own 200008 2 0 f43.length]), (16, .map 1 (List.map AV.p (encK encArr3_int64 f42)) (List.map AV.p (encW PV.bool f42))), (30, .arr 41 3 1 [.p (encTable t1)]), (31, .arr 24 2 1 [.p (encDenial d2)]), (200008, .arr 57 1 2 (List.map AV.p (List.map (encL (PV.int .i64)) f43)))]⟩) (by simp only [go_sem, seval, h45T, h51F, ← h59]; all_goals ((repeat' refine And.intro ?_ ?_) <;> first | rfl | (simp; done) | (simp; rfl) | (simp [*]; done) | (simp [*]; rfl))) ?_
 clear h59
 refine zs (zr ?_)
 refine zU (zl (zn (zs (zs (zr ?_)))))
 refine zU (zl (zn ?_))
 rcases zI h with ⟨h60, h⟩ | ⟨h60, h⟩
 refine zi (zs (zr ?_))
 refine zU ?_
 obtain ⟨r61, h62, h⟩ := zB h
 refine zc (denial_satisfied_con l58 d2.Atoms _ h62) ?_
 refine zU ?_
 rcases zI h with ⟨h63, h⟩ | ⟨h63, h⟩
 refine zw 21 false ?_
 refine zg ?_
 refine zg ?_
 refine zM ⟨[(21, .p (.bool false)), (22, .func (.func 83) [.loc 7 1 0 0, .loc 8 1 0 0]), (23, .p (.slc (List.map encRow l58)))], [(7, .arr 134 1 1 [.mapo 16 1]), (8, .arr 52 1 1 [.own 200008 2 0 f43.length]), (16, .map 1 (List.map AV.p (encK encArr3_int64 f42)) (List.map AV.p (encW PV.bool f42))), (30, .arr 41 3 1 [.p (encTable t1)]), (31, .arr 24 2 1 [.p (encDenial d2)]), (200008, .arr 57 1 2 (List.map AV.p (List.map (encL (PV.int .i64)) f43)))]⟩ ?_
 refine AL_inline (avs := [.p (.slc (List.map encRow l58)), .loc 7 1 0 0, .loc 8 1 0 0]) 159 rfl (guard_true' rfl rfl (by exact rfl) (by exact rfl)) rfl Tryz.func83 rfl Tryz.call83 Tryz.ntmps83 (by simp) (by simp only [go_sem, seval, h45T, h51F, h60, h63]; all_goals rfl) ?_
 intro i65 w66 h67
 show AWp _ _ _ ⟨[(0, .p (.slc (List.map encRow l58))), (1, .loc 7 1 0 0), (2, .loc 8 1 0 0)], [(7, .arr 134 1 1 [.mapo 16 1]), (8, .arr 52 1 1 [.own 200008 2 0 f43.length]), (16, .map 1 (List.map AV.p (encK encArr3_int64 f42)) (List.map AV.p (encW PV.bool f42))), (30, .arr 41 3 1 [.p (encTable t1)]), (31, .arr 24 2 1 [.p (encDenial d2)]), (200008, .arr 57 1 2 (List.map AV.p (List.map (encL (PV.int .i64)) f43)))]⟩
 refine zs (zr ?_)
 refine zU (zl (zn (zs (zr ?_))))
 refine zU (zl (zn (zs (zs (zr ?_)))))
 refine zU (zl (zn (zb ?_)))
 obtain ⟨l68, h69, h⟩ := zB h
 refine zO (fun (s : List Int × Int) => ⟨[(1, .loc 7 1 0 0), (2, .loc 8 1 0 0), (5, .own 178 1 0 s.1.length), (9, .p (.slc (List.map encRow l58))), (10, .p (.int .i64 (l58.length : Int))), (11, .p (.int .i64 s.2))], [(7, .arr 134 1 1 [.mapo 16 1]), (8, .arr 52 1 1 [.own 200008 2 0 f43.length]), (16, .map 1 (List.map AV.p (encK encArr3_int64 f42)) (List.map AV.p (encW PV.bool f42))), (30, .arr 41 3 1 [.p (encTable t1)]), (31, .arr 24 2 1 [.p (encDenial d2)]), (178, .arr 2 1 1 (List.map AV.p (List.map (PV.int .i64) s.1))), (200008, .arr 57 1 2 (List.map AV.p (List.map (encL (PV.int .i64)) f43)))]⟩) (fun (o70 : List Int) => tE ⟨Tryz.prog, 39, 159, X, [(7, .arr 134 1 1 [.mapo 16 1]), (8, .arr 52 1 1 [.own 200008 2 0 f43.length]), (16, .map 1 (List.map AV.p (encK encArr3_int64 f42)) (List.map AV.p (encW PV.bool f42))), (30, .arr 41 3 1 [.p (encTable t1)]), (31, .arr 24 2 1 [.p (encDenial d2)]), (200008, .arr 57 1 2 (List.map AV.p (List.map (encL (PV.int .i64)) f43)))], i65, w66, False, h67⟩ (.exit 0) ⟨[(1, .loc 7 1 0 0), (2, .loc 8 1 0 0), (5, .own 178 1 0 o70.length)], [(7, .arr 134 1 1 [.mapo 16 1]), (8, .arr 52 1 1 [.own 200008 2 0 f43.length]), (16, .map 1 (List.map AV.p (encK encArr3_int64 f42)) (List.map AV.p (encW PV.bool f42))), (30, .arr 41 3 1 [.p (encTable t1)]), (31, .arr 24 2 1 [.p (encDenial d2)]), (178, .arr 2 1 1 (List.map AV.p (List.map (PV.int .i64) o70))), (200008, .arr 57 1 2 (List.map AV.p (List.map (encL (PV.int .i64)) f43)))]⟩) h69 ?_ ?_
 clear h h45 h45T h47 h47a h47b h49 h51 h51F h52 h53 h54 h60 h62 h63 h69
 intro s x h
 obtain ⟨l71, t72⟩ := s
 simp only [denial_Violations_l134] at h
 dsimp only
 refine zs (zr ?_)
 refine zU (zl (zn (zs ?_)))
 rcases zI h with ⟨h73, h⟩ | ⟨h73, h⟩
 refine zi (zk (zn (zs (zb (zs (zr ?_))))))
 obtain ⟨x74, h75, h75a, h75b, h⟩ := zX h
 refine zU (zl (zn (zr ?_)))
 obtain ⟨h76, h⟩ := ite_some h
 refine zU (zl (yn (zn (zr ?_))))
 refine zU (zl ?_)
 cases h
 exact ⟨rfl, zE⟩
 refine zj (zx (ze ?_))
 cases h
 exact ⟨rfl, zE⟩
 try simp only at h
 refine zA (yh (zn (zs (zr ?_))))
 refine zU ?_
 refine zM ⟨[(1, .loc 7 1 0 0), (2, .loc 8 1 0 0), (5, .own 178 1 0 l68.length), (21, .own 178 1 0 l68.length)], [(7, .arr 134 1 1 [.mapo 16 1]), (8, .arr 52 1 1 [.own 200008 2 0 f43.length]), (16, .map 1 (List.map AV.p (encK encArr3_int64 f42)) (List.map AV.p (encW PV.bool f42))), (30, .arr 41 3 1 [.p (encTable t1)]), (31, .arr 24 2 1 [.p (encDenial d2)]), (178, .arr 2 1 1 (List.map AV.p (List.map (PV.int .i64) l68))), (200008, .arr 57 1 2 (List.map AV.p (List.map (encL (PV.int .i64)) f43)))]⟩ ?_
 obtain ⟨l77, h78, h⟩ := zB h
 refine zSI srt84 h78 ?_
 have h79 := srtIF_len h78
 refine zM ⟨[(1, .loc 7 1 0 0), (2, .loc 8 1 0 0), (5, .own 178 1 0 l77.length), (22, .p (.tup []))], [(7, .arr 134 1 1 [.mapo 16 1]), (8, .arr 52 1 1 [.own 200008 2 0 f43.length]), (16, .map 1 (List.map AV.p (encK encArr3_int64 f42)) (List.map AV.p (encW PV.bool f42))), (30, .arr 41 3 1 [.p (encTable t1)]), (31, .arr 24 2 1 [.p (encDenial d2)]), (178, .arr 2 1 1 (List.map AV.p (List.map (PV.int .i64) l77))), (200008, .arr 57 1 2 (List.map AV.p (List.map (encL (PV.int .i64)) f43)))]⟩ ?_
 clear h79
 refine zl (zn (zs (zr ?_)))
 refine zU (zl (zn (zs (zr ?_))))
 refine zM ⟨[(1, .loc 7 1 0 0), (2, .loc 8 1 0 0), (5, .p (.slc (List.map (PV.int .i64) l77))), (8, .loc 167 1 0 0)], [(7, .arr 134 1 1 [.mapo 16 1]), (8, .arr 52 1 1 [.own 200008 2 0 f43.length]), (16, .map 1 (List.map AV.p (encK encArr3_int64 f42)) (List.map AV.p (encW PV.bool f42))), (30, .arr 41 3 1 [.p (encTable t1)]), (31, .arr 24 2 1 [.p (encDenial d2)]), (167, .arr 137 3 1 [.p (.agg [.int .i64 0, .int .i64 0, .int .i64 0])]), (200008, .arr 57 1 2 (List.map AV.p (List.map (encL (PV.int .i64)) f43)))]⟩ ?_
 refine zCpa 167 0 0 0 l77 Tryz.underlying137 Tryz.underlying57 ?_
 refine zl (zn (zs (zs (zr ?_))))
 refine zU (zl (zn ?_))
 rcases zI h with ⟨h80, h⟩ | ⟨h80, h⟩
 refine zj (zk (zn (zs (zr ?_))))
 refine zU (zl (zn (zq ?_)))
 refine inlQ_ret (by simp only [Tryz.results83]; simp only [go_sem, seval, h45T, h51F, h60, h63, h80]; exact rfl) ?_
 refine zU (zl (zn (zq (zt ?_))))
 refine inlQ_ret (by simp only [Tryz.results82]; simp only [go_sem, seval, h45T, h51F, h60, h63, h80]; exact rfl) ?_
 refine zU (zl (zn ?_))
 rcases zI h with ⟨h81, h⟩ | ⟨h81, h⟩
 refine zj (zk (yn (zn (zr ?_))))
 refine zU (zl ?_)
 cases h
 exact ⟨rfl, zE⟩
 refine zi (zs (zr ?_))
 refine zU (zl (zn (zq (yr (zt ?_)))))
 cases h
 exact ⟨rfl, zE⟩
 have h80F := Bool.eq_false_iff.2 h80
 refine zi (zs (zr ?_))
 refine zU (zl (zn (zr ?_)))
 obtain ⟨h82, h⟩ := ite_some h
 refine zU (zl (zn (zs (zr ?_))))
 refine zU (zl (zn (zq ?_)))
 refine inlQ_ret (by simp only [Tryz.results83]; simp only [go_sem, seval, h45T, h51F, h60, h63, h80F]; exact rfl) ?_
 refine zU (zl (zn (zq (zt ?_))))
 refine inlQ_ret (by simp only [Tryz.results82]; simp only [go_sem, seval, h45T, h51F, h60, h63, h80F]; exact rfl) ?_
 refine zU (zl (zn ?_))
 rcases zI h with ⟨h83, h⟩ | ⟨h83, h⟩
 refine zj (zk (yn (zn (zr ?_))))
 refine zU (zl ?_)
 cases h
 exact ⟨rfl, zE⟩
 refine zi (zs (zr ?_))
 refine zU (zl (zn (zq (yr (zt ?_)))))
 cases h
 exact ⟨rfl, zE⟩
 have h63F := Bool.eq_false_iff.2 h63
 refine zw 21 true ?_
 refine zh ?_
 refine zU (zl (zn (zq (zt ?_))))
 refine inlQ_ret (by simp only [Tryz.results82]; simp only [go_sem, seval, h45T, h51F, h60, h63F]; exact rfl) ?_
 refine zU (zl (zn ?_))
 refine zj (zk (yn (zn (zr ?_))))
 refine zU (zl ?_)
 cases h
 exact ⟨rfl, zE⟩
 have h60F := Bool.eq_false_iff.2 h60
 refine zj (zk (zn (zs (zs (zr ?_)))))
 refine zU (zl (zn (zb ?_)))
 obtain ⟨o84, h85, h⟩ := zB h
 refine zO (fun (s : (List (Arr3_int64 × Bool)) × List (List Int) × Int) => ⟨[(2, .p (.slc (List.map encRow l58))), (3, .func (.func 83) [.loc 7 1 0 0, .loc 8 1 0 0]), (4, .loc 116 1 0 0), (5, .loc 117 1 0 0), (27, .p (.slc (List.map encRow t1.Rows))), (28, .p (.int .i64 (t1.Rows.length : Int))), (29, .p (.int .i64 s.2.2))], [(7, .arr 134 1 1 [.mapo 16 1]), (8, .arr 52 1 1 [.own 200008 3 0 s.2.1.length]), (16, .map 1 (List.map AV.p (encK encArr3_int64 s.1)) (List.map AV.p (encW PV.bool s.1))), (30, .arr 41 3 1 [.p (encTable t1)]), (31, .arr 24 2 1 [.p (encDenial d2)]), (116, .arr 41 3 1 [.p (encTable t1)]), (117, .arr 24 2 1 [.p (encDenial d2)]), (200008, .arr 57 1 3 (List.map AV.p (List.map (encL (PV.int .i64)) s.2.1)))]⟩) (fun (o : ((List (Arr3_int64 × Bool)) × List (List Int)) ⊕ ((List (Arr3_int64 × Bool)) × List (List Int))) => match o with | .inl o86 => tE ⟨Tryz.prog, 47, 112, X, [(7, .arr 134 1 1 [.mapo 16 1]), (8, .arr 52 1 1 [.own 200008 2 0 f43.length]), (16, .map 1 (List.map AV.p (encK encArr3_int64 f42)) (List.map AV.p (encW PV.bool f42))), (30, .arr 41 3 1 [.p (encTable t1)]), (31, .arr 24 2 1 [.p (encDenial d2)]), (200008, .arr 57 1 2 (List.map AV.p (List.map (encL (PV.int .i64)) f43)))], i55, w56, False, h57⟩ (.exit 0) ⟨[], [(7, .arr 134 1 1 [.mapo 16 1]), (8, .arr 52 1 1 [.own 200008 3 0 o86.2.length]), (16, .map 1 (List.map AV.p (encK encArr3_int64 o86.1)) (List.map AV.p (encW PV.bool o86.1))), (30, .arr 41 3 1 [.p (encTable t1)]), (31, .arr 24 2 1 [.p (encDenial d2)]), (200008, .arr 57 1 3 (List.map AV.p (List.map (encL (PV.int .i64)) o86.2)))]⟩ | .inr o87 => tE ⟨Tryz.prog, 47, 112, X, [(7, .arr 134 1 1 [.mapo 16 1]), (8, .arr 52 1 1 [.own 200008 2 0 f43.length]), (16, .map 1 (List.map AV.p (encK encArr3_int64 f42)) (List.map AV.p (encW PV.bool f42))), (30, .arr 41 3 1 [.p (encTable t1)]), (31, .arr 24 2 1 [.p (encDenial d2)]), (200008, .arr 57 1 2 (List.map AV.p (List.map (encL (PV.int .i64)) f43)))], i55, w56, False, h57⟩ .ret ⟨[(8, .p (.bool false))], [(7, .arr 134 1 1 [.mapo 16 1]), (8, .arr 52 1 1 [.own 200008 3 0 o87.2.length]), (16, .map 1 (List.map AV.p (encK encArr3_int64 o87.1)) (List.map AV.p (encW PV.bool o87.1))), (30, .arr 41 3 1 [.p (encTable t1)]), (31, .arr 24 2 1 [.p (encDenial d2)]), (200008, .arr 57 1 3 (List.map AV.p (List.map (encL (PV.int .i64)) o87.2)))]⟩) h85 ?_ ?_
 clear h h45 h45T h47 h47a h47b h49 h51 h51F h52 h53 h54 h60 h60F h85
 intro s x h
 obtain ⟨f88, f89, t90⟩ := s
 simp only [denial_Violations_l159] at h
 dsimp only
 refine zs (zr ?_)
 refine zU (zl (zn (zs ?_)))
 rcases zI h with ⟨h91, h⟩ | ⟨h91, h⟩
 have h91T := eq_true h91
 refine zi (zk (zn (zs (zb (zs (zr ?_))))))
 obtain ⟨x92, h93, h93a, h93b, h⟩ := zX h
 refine zU (zl (zn (zs (zs (zr ?_)))))
 refine zU ?_
 obtain ⟨r94, h95, h⟩ := zB h
 refine zc (slices_ContainsFunc_Row_con l58 (fun (y96 : Row) => denial_visit_1 y96 x92) 125 [.imm [.int .i64 x92.ID, .slc (List.map encValue x92.Values)]] (fun y96 r h => denial_visit_1_con y96 x92 r h) _ h95) ?_
 refine zl (zn ?_)
 rcases zI h with ⟨h97, h⟩ | ⟨h97, h⟩
 refine zi (zx (ze (yh (zn (zr ?_)))))
 refine zU (zl ?_)
 cases h
 exact ⟨rfl, zE⟩
 have h97F := Bool.eq_false_iff.2 h97
 refine zj (zk (zn (zs ?_)))
 refine zdl 8 ?_
 refine yU ?_
 obtain ⟨h98, h⟩ := ite_some h
 refine yK cln126 151 encRow l58 _ rfl ⟨by unfold maxLen; omega, by omega⟩ ?_
 have h99 := @take_cut PV
 obtain ⟨h100, h⟩ := ite_some h
 refine yU ?_
 refine ydlS ?_
 refine zM ⟨[(2, .p (.slc (List.map encRow l58))), (3, .func (.func 83) [.loc 7 1 0 0, .loc 8 1 0 0]), (4, .loc 116 1 0 0), (5, .loc 117 1 0 0), (27, .p (.slc (List.map encRow t1.Rows))), (28, .p (.int .i64 (t1.Rows.length : Int))), (29, .p (.int .i64 t90)), (36, .p (encTable t1)), (37, .p (encDenial d2)), (42, .p (.slc (List.map encRow (l58 ++ [x92])))), (43, .func (.func 83) [.loc 7 1 0 0, .loc 8 1 0 0])], [(7, .arr 134 1 1 [.mapo 16 1]), (8, .arr 52 1 1 [.own 200008 3 0 f89.length]), (16, .map 1 (List.map AV.p (encK encArr3_int64 f88)) (List.map AV.p (encW PV.bool f88))), (30, .arr 41 3 1 [.p (encTable t1)]), (31, .arr 24 2 1 [.p (encDenial d2)]), (116, .arr 41 3 1 [.p (encTable t1)]), (117, .arr 24 2 1 [.p (encDenial d2)]), (200008, .arr 57 1 3 (List.map AV.p (List.map (encL (PV.int .i64)) f89)))]⟩ ?_
 refine AL_inline (avs := [.p (encTable t1), .p (encDenial d2), .p (.slc (List.map encRow (l58 ++ [x92]))), .func (.func 83) [.loc 7 1 0 0, .loc 8 1 0 0]]) 198 rfl (guard_none rfl) rfl Tryz.func82 rfl Tryz.call82 Tryz.ntmps82 (by simp) (by simp only [go_sem, seval, h91T, h97F]; all_goals rfl) ?_
 intro i101 w102 h103
 obtain ⟨l104, h105, h⟩ := zB h
 replace h105 := Option.some.inj h105
 refine awp_le (st' := ⟨[(0, .p (encTable t1)), (1, .p (encDenial d2)), (2, .p (.slc (List.map encRow l104))), (3, .func (.func 83) [.loc 7 1 0 0, .loc 8 1 0 0])], [(7, .arr 134 1 1 [.mapo 16 1]), (8, .arr 52 1 1 [.own 200008 3 0 f89.length]), (16, .map 1 (List.map AV.p (encK encArr3_int64 f88)) (List.map AV.p (encW PV.bool f88))), (30, .arr 41 3 1 [.p (encTable t1)]), (31, .arr 24 2 1 [.p (encDenial d2)]), (116, .arr 41 3 1 [.p (encTable t1)]), (117, .arr 24 2 1 [.p (encDenial d2)]), (200008, .arr 57 1 3 (List.map AV.p (List.map (encL (PV.int .i64)) f89)))]⟩) (by simp only [go_sem, seval, h91T, h97F, ← h105]; all_goals ((repeat' refine And.intro ?_ ?_) <;> first | rfl | (simp; done) | (simp; rfl) | (simp [*]; done) | (simp [*]; rfl))) ?_
 clear h105
 refine zs (zr ?_)
 refine zU (zl (zn (zs (zs (zr ?_)))))
 refine zU (zl (zn ?_))
 rcases zI h with ⟨h106, h⟩ | ⟨h106, h⟩
 refine zi (zs (zr ?_))
 refine zU ?_
 obtain ⟨r107, h108, h⟩ := zB h
 refine zc (denial_satisfied_con l104 d2.Atoms _ h108) ?_
 refine zU ?_
 rcases zI h with ⟨h109, h⟩ | ⟨h109, h⟩
 refine zw 21 false ?_
 refine zg ?_
 refine zg ?_
 refine zM ⟨[(21, .p (.bool false)), (22, .func (.func 83) [.loc 7 1 0 0, .loc 8 1 0 0]), (23, .p (.slc (List.map encRow l104)))], [(7, .arr 134 1 1 [.mapo 16 1]), (8, .arr 52 1 1 [.own 200008 3 0 f89.length]), (16, .map 1 (List.map AV.p (encK encArr3_int64 f88)) (List.map AV.p (encW PV.bool f88))), (30, .arr 41 3 1 [.p (encTable t1)]), (31, .arr 24 2 1 [.p (encDenial d2)]), (116, .arr 41 3 1 [.p (encTable t1)]), (117, .arr 24 2 1 [.p (encDenial d2)]), (200008, .arr 57 1 3 (List.map AV.p (List.map (encL (PV.int .i64)) f89)))]⟩ ?_
 refine AL_inline (avs := [.p (.slc (List.map encRow l104)), .loc 7 1 0 0, .loc 8 1 0 0]) 245 rfl (guard_true' rfl rfl (by exact rfl) (by exact rfl)) rfl Tryz.func83 rfl Tryz.call83 Tryz.ntmps83 (by simp) (by simp only [go_sem, seval, h91T, h97F, h106, h109]; all_goals rfl) ?_
 intro i110 w111 h112
 show AWp _ _ _ ⟨[(0, .p (.slc (List.map encRow l104))), (1, .loc 7 1 0 0), (2, .loc 8 1 0 0)], [(7, .arr 134 1 1 [.mapo 16 1]), (8, .arr 52 1 1 [.own 200008 3 0 f89.length]), (16, .map 1 (List.map AV.p (encK encArr3_int64 f88)) (List.map AV.p (encW PV.bool f88))), (30, .arr 41 3 1 [.p (encTable t1)]), (31, .arr 24 2 1 [.p (encDenial d2)]), (116, .arr 41 3 1 [.p (encTable t1)]), (117, .arr 24 2 1 [.p (encDenial d2)]), (200008, .arr 57 1 3 (List.map AV.p (List.map (encL (PV.int .i64)) f89)))]⟩
 refine zs (zr ?_)
 refine zU (zl (zn (zs (zr ?_))))
 refine zU (zl (zn (zs (zs (zr ?_)))))
 refine zU (zl (zn (zb ?_)))
 obtain ⟨l113, h114, h⟩ := zB h
 refine zO (fun (s : List Int × Int) => ⟨[(1, .loc 7 1 0 0), (2, .loc 8 1 0 0), (5, .own 264 1 0 s.1.length), (9, .p (.slc (List.map encRow l104))), (10, .p (.int .i64 (l104.length : Int))), (11, .p (.int .i64 s.2))], [(7, .arr 134 1 1 [.mapo 16 1]), (8, .arr 52 1 1 [.own 200008 3 0 f89.length]), (16, .map 1 (List.map AV.p (encK encArr3_int64 f88)) (List.map AV.p (encW PV.bool f88))), (30, .arr 41 3 1 [.p (encTable t1)]), (31, .arr 24 2 1 [.p (encDenial d2)]), (116, .arr 41 3 1 [.p (encTable t1)]), (117, .arr 24 2 1 [.p (encDenial d2)]), (264, .arr 2 1 1 (List.map AV.p (List.map (PV.int .i64) s.1))), (200008, .arr 57 1 3 (List.map AV.p (List.map (encL (PV.int .i64)) f89)))]⟩) (fun (o115 : List Int) => tE ⟨Tryz.prog, 39, 245, X, [(7, .arr 134 1 1 [.mapo 16 1]), (8, .arr 52 1 1 [.own 200008 3 0 f89.length]), (16, .map 1 (List.map AV.p (encK encArr3_int64 f88)) (List.map AV.p (encW PV.bool f88))), (30, .arr 41 3 1 [.p (encTable t1)]), (31, .arr 24 2 1 [.p (encDenial d2)]), (116, .arr 41 3 1 [.p (encTable t1)]), (117, .arr 24 2 1 [.p (encDenial d2)]), (200008, .arr 57 1 3 (List.map AV.p (List.map (encL (PV.int .i64)) f89)))], i110, w111, False, h112⟩ (.exit 0) ⟨[(1, .loc 7 1 0 0), (2, .loc 8 1 0 0), (5, .own 264 1 0 o115.length)], [(7, .arr 134 1 1 [.mapo 16 1]), (8, .arr 52 1 1 [.own 200008 3 0 f89.length]), (16, .map 1 (List.map AV.p (encK encArr3_int64 f88)) (List.map AV.p (encW PV.bool f88))), (30, .arr 41 3 1 [.p (encTable t1)]), (31, .arr 24 2 1 [.p (encDenial d2)]), (116, .arr 41 3 1 [.p (encTable t1)]), (117, .arr 24 2 1 [.p (encDenial d2)]), (264, .arr 2 1 1 (List.map AV.p (List.map (PV.int .i64) o115))), (200008, .arr 57 1 3 (List.map AV.p (List.map (encL (PV.int .i64)) f89)))]⟩) h114 ?_ ?_
 clear h h91 h91T h93 h93a h93b h95 h97 h97F h98 h99 h100 h106 h108 h109 h114
 intro s x h
 obtain ⟨l116, t117⟩ := s
 simp only [denial_Violations_l151] at h
 dsimp only
 refine zs (zr ?_)
 refine zU (zl (zn (zs ?_)))
 rcases zI h with ⟨h118, h⟩ | ⟨h118, h⟩
 refine zi (zk (zn (zs (zb (zs (zr ?_))))))
 obtain ⟨x119, h120, h120a, h120b, h⟩ := zX h
 refine zU (zl (zn (zr ?_)))
 obtain ⟨h121, h⟩ := ite_some h
 refine zU (zl (yn (zn (zr ?_))))
 refine zU (zl ?_)
 cases h
 exact ⟨rfl, zE⟩
 refine zj (zx (ze ?_))
 cases h
 exact ⟨rfl, zE⟩
 try simp only at h
 refine zA (yh (zn (zs (zr ?_))))
 refine zU ?_
 refine zM ⟨[(1, .loc 7 1 0 0), (2, .loc 8 1 0 0), (5, .own 264 1 0 l113.length), (21, .own 264 1 0 l113.length)], [(7, .arr 134 1 1 [.mapo 16 1]), (8, .arr 52 1 1 [.own 200008 3 0 f89.length]), (16, .map 1 (List.map AV.p (encK encArr3_int64 f88)) (List.map AV.p (encW PV.bool f88))), (30, .arr 41 3 1 [.p (encTable t1)]), (31, .arr 24 2 1 [.p (encDenial d2)]), (116, .arr 41 3 1 [.p (encTable t1)]), (117, .arr 24 2 1 [.p (encDenial d2)]), (264, .arr 2 1 1 (List.map AV.p (List.map (PV.int .i64) l113))), (200008, .arr 57 1 3 (List.map AV.p (List.map (encL (PV.int .i64)) f89)))]⟩ ?_
 obtain ⟨l122, h123, h⟩ := zB h
 refine zSI srt84 h123 ?_
 have h124 := srtIF_len h123
 refine zM ⟨[(1, .loc 7 1 0 0), (2, .loc 8 1 0 0), (5, .own 264 1 0 l122.length), (22, .p (.tup []))], [(7, .arr 134 1 1 [.mapo 16 1]), (8, .arr 52 1 1 [.own 200008 3 0 f89.length]), (16, .map 1 (List.map AV.p (encK encArr3_int64 f88)) (List.map AV.p (encW PV.bool f88))), (30, .arr 41 3 1 [.p (encTable t1)]), (31, .arr 24 2 1 [.p (encDenial d2)]), (116, .arr 41 3 1 [.p (encTable t1)]), (117, .arr 24 2 1 [.p (encDenial d2)]), (264, .arr 2 1 1 (List.map AV.p (List.map (PV.int .i64) l122))), (200008, .arr 57 1 3 (List.map AV.p (List.map (encL (PV.int .i64)) f89)))]⟩ ?_
 clear h124
 refine zl (zn (zs (zr ?_)))
 refine zU (zl (zn (zs (zr ?_))))
 refine zM ⟨[(1, .loc 7 1 0 0), (2, .loc 8 1 0 0), (5, .p (.slc (List.map (PV.int .i64) l122))), (8, .loc 253 1 0 0)], [(7, .arr 134 1 1 [.mapo 16 1]), (8, .arr 52 1 1 [.own 200008 3 0 f89.length]), (16, .map 1 (List.map AV.p (encK encArr3_int64 f88)) (List.map AV.p (encW PV.bool f88))), (30, .arr 41 3 1 [.p (encTable t1)]), (31, .arr 24 2 1 [.p (encDenial d2)]), (116, .arr 41 3 1 [.p (encTable t1)]), (117, .arr 24 2 1 [.p (encDenial d2)]), (253, .arr 137 3 1 [.p (.agg [.int .i64 0, .int .i64 0, .int .i64 0])]), (200008, .arr 57 1 3 (List.map AV.p (List.map (encL (PV.int .i64)) f89)))]⟩ ?_
 refine zCpa 253 0 0 0 l122 Tryz.underlying137 Tryz.underlying57 ?_
 refine zl (zn (zs (zs (zr ?_))))
 refine zU (zl (zn ?_))
 rcases zI h with ⟨h125, h⟩ | ⟨h125, h⟩
 refine zj (zk (zn (zs (zr ?_))))
 refine zU (zl (zn (zq ?_)))
 refine inlQ_ret (by simp only [Tryz.results83]; simp only [go_sem, seval, h91T, h97F, h106, h109, h125]; exact rfl) ?_
 refine zU (zl (zn (zq (zt ?_))))
 refine inlQ_ret (by simp only [Tryz.results82]; simp only [go_sem, seval, h91T, h97F, h106, h109, h125]; exact rfl) ?_
 refine zU (zl (zn ?_))
 rcases zI h with ⟨h126, h⟩ | ⟨h126, h⟩
 refine zj (zk (yn (zn (zr ?_))))
 refine zU (zl ?_)
 cases h
 exact ⟨rfl, zE⟩
 refine zi (zs (zr ?_))
 refine zU (zl (zn (zq (yr (zt ?_)))))
 cases h
 exact ⟨rfl, zE⟩
 have h125F := Bool.eq_false_iff.2 h125
 refine zi (zs (zr ?_))
 refine zU (zl (zn (zr ?_)))
 obtain ⟨h127, h⟩ := ite_some h
 refine zU (zl (zn (zs (zr ?_))))
 refine zU (zl (zn (zq ?_)))
 refine inlQ_ret (by simp only [Tryz.results83]; simp only [go_sem, seval, h91T, h97F, h106, h109, h125F]; exact rfl) ?_
 refine zU (zl (zn (zq (zt ?_))))
 refine inlQ_ret (by simp only [Tryz.results82]; simp only [go_sem, seval, h91T, h97F, h106, h109, h125F]; exact rfl) ?_
 refine zU (zl (zn ?_))
 rcases zI h with ⟨h128, h⟩ | ⟨h128, h⟩
 refine zj (zk (yn (zn (zr ?_))))
 refine zU (zl ?_)
 cases h
 exact ⟨rfl, zE⟩
 refine zi (zs (zr ?_))
 refine zU (zl (zn (zq (yr (zt ?_)))))
 cases h
 exact ⟨rfl, zE⟩
 have h109F := Bool.eq_false_iff.2 h109
 refine zw 21 true ?_
 refine zh ?_
 refine zU (zl (zn (zq (zt ?_))))
 refine inlQ_ret (by simp only [Tryz.results82]; simp only [go_sem, seval, h91T, h97F, h106, h109F]; exact rfl) ?_
 refine zU (zl (zn ?_))
 refine zj (zk (yn (zn (zr ?_))))
 refine zU (zl ?_)
 cases h
 exact ⟨rfl, zE⟩
 have h106F := Bool.eq_false_iff.2 h106
 refine zj (zk (zn (zs (zs (zr ?_)))))
 refine zU (zl (zn (zb ?_)))
 obtain ⟨o129, h130, h⟩ := zB h
 refine zO (fun (s : (List (Arr3_int64 × Bool)) × List (List Int) × Int) => ⟨[(2, .p (.slc (List.map encRow l104))), (3, .func (.func 83) [.loc 7 1 0 0, .loc 8 1 0 0]), (4, .loc 202 1 0 0), (5, .loc 203 1 0 0), (27, .p (.slc (List.map encRow t1.Rows))), (28, .p (.int .i64 (t1.Rows.length : Int))), (29, .p (.int .i64 s.2.2))], [(7, .arr 134 1 1 [.mapo 16 1]), (8, .arr 52 1 1 [.own 200008 4 0 s.2.1.length]), (16, .map 1 (List.map AV.p (encK encArr3_int64 s.1)) (List.map AV.p (encW PV.bool s.1))), (30, .arr 41 3 1 [.p (encTable t1)]), (31, .arr 24 2 1 [.p (encDenial d2)]), (116, .arr 41 3 1 [.p (encTable t1)]), (117, .arr 24 2 1 [.p (encDenial d2)]), (202, .arr 41 3 1 [.p (encTable t1)]), (203, .arr 24 2 1 [.p (encDenial d2)]), (200008, .arr 57 1 4 (List.map AV.p (List.map (encL (PV.int .i64)) s.2.1)))]⟩) (fun (o : ((List (Arr3_int64 × Bool)) × List (List Int)) ⊕ ((List (Arr3_int64 × Bool)) × List (List Int))) => match o with | .inl o131 => tE ⟨Tryz.prog, 47, 198, X, [(7, .arr 134 1 1 [.mapo 16 1]), (8, .arr 52 1 1 [.own 200008 3 0 f89.length]), (16, .map 1 (List.map AV.p (encK encArr3_int64 f88)) (List.map AV.p (encW PV.bool f88))), (30, .arr 41 3 1 [.p (encTable t1)]), (31, .arr 24 2 1 [.p (encDenial d2)]), (116, .arr 41 3 1 [.p (encTable t1)]), (117, .arr 24 2 1 [.p (encDenial d2)]), (200008, .arr 57 1 3 (List.map AV.p (List.map (encL (PV.int .i64)) f89)))], i101, w102, False, h103⟩ (.exit 0) ⟨[], [(7, .arr 134 1 1 [.mapo 16 1]), (8, .arr 52 1 1 [.own 200008 4 0 o131.2.length]), (16, .map 1 (List.map AV.p (encK encArr3_int64 o131.1)) (List.map AV.p (encW PV.bool o131.1))), (30, .arr 41 3 1 [.p (encTable t1)]), (31, .arr 24 2 1 [.p (encDenial d2)]), (116, .arr 41 3 1 [.p (encTable t1)]), (117, .arr 24 2 1 [.p (encDenial d2)]), (200008, .arr 57 1 4 (List.map AV.p (List.map (encL (PV.int .i64)) o131.2)))]⟩ | .inr o132 => tE ⟨Tryz.prog, 47, 198, X, [(7, .arr 134 1 1 [.mapo 16 1]), (8, .arr 52 1 1 [.own 200008 3 0 f89.length]), (16, .map 1 (List.map AV.p (encK encArr3_int64 f88)) (List.map AV.p (encW PV.bool f88))), (30, .arr 41 3 1 [.p (encTable t1)]), (31, .arr 24 2 1 [.p (encDenial d2)]), (116, .arr 41 3 1 [.p (encTable t1)]), (117, .arr 24 2 1 [.p (encDenial d2)]), (200008, .arr 57 1 3 (List.map AV.p (List.map (encL (PV.int .i64)) f89)))], i101, w102, False, h103⟩ .ret ⟨[(8, .p (.bool false))], [(7, .arr 134 1 1 [.mapo 16 1]), (8, .arr 52 1 1 [.own 200008 4 0 o132.2.length]), (16, .map 1 (List.map AV.p (encK encArr3_int64 o132.1)) (List.map AV.p (encW PV.bool o132.1))), (30, .arr 41 3 1 [.p (encTable t1)]), (31, .arr 24 2 1 [.p (encDenial d2)]), (116, .arr 41 3 1 [.p (encTable t1)]), (117, .arr 24 2 1 [.p (encDenial d2)]), (200008, .arr 57 1 4 (List.map AV.p (List.map (encL (PV.int .i64)) o132.2)))]⟩) h130 ?_ ?_
 clear h h91 h91T h93 h93a h93b h95 h97 h97F h98 h99 h100 h106 h106F h130
 intro s x h
 obtain ⟨f133, f134, t135⟩ := s
 simp only [denial_Violations_l158] at h
 dsimp only
 refine zs (zr ?_)
 refine zU (zl (zn (zs ?_)))
 rcases zI h with ⟨h136, h⟩ | ⟨h136, h⟩
 have h136T := eq_true h136
 refine zi (zk (zn (zs (zb (zs (zr ?_))))))
 obtain ⟨x137, h138, h138a, h138b, h⟩ := zX h
 refine zU (zl (zn (zs (zs (zr ?_)))))
 refine zU ?_
 obtain ⟨r139, h140, h⟩ := zB h
 refine zc (slices_ContainsFunc_Row_con l104 (fun (y141 : Row) => denial_visit_1 y141 x137) 125 [.imm [.int .i64 x137.ID, .slc (List.map encValue x137.Values)]] (fun y141 r h => denial_visit_1_con y141 x137 r h) _ h140) ?_
 refine zl (zn ?_)
 rcases zI h with ⟨h142, h⟩ | ⟨h142, h⟩
 refine zi (zx (ze (yh (zn (zr ?_)))))
 refine zU (zl ?_)
 cases h
 exact ⟨rfl, zE⟩
 have h142F := Bool.eq_false_iff.2 h142
 refine zj (zk (zn (zs ?_)))
 refine zdl 8 ?_
 refine yU ?_
 obtain ⟨h143, h⟩ := ite_some h
 refine yK cln126 237 encRow l104 _ rfl ⟨by unfold maxLen; omega, by omega⟩ ?_
 have h144 := @take_cut PV
 obtain ⟨h145, h⟩ := ite_some h
 refine yU ?_
 refine ydlS ?_
 refine zM ⟨[(2, .p (.slc (List.map encRow l104))), (3, .func (.func 83) [.loc 7 1 0 0, .loc 8 1 0 0]), (4, .loc 202 1 0 0), (5, .loc 203 1 0 0), (27, .p (.slc (List.map encRow t1.Rows))), (28, .p (.int .i64 (t1.Rows.length : Int))), (29, .p (.int .i64 t135)), (36, .p (encTable t1)), (37, .p (encDenial d2)), (42, .p (.slc (List.map encRow (l104 ++ [x137])))), (43, .func (.func 83) [.loc 7 1 0 0, .loc 8 1 0 0])], [(7, .arr 134 1 1 [.mapo 16 1]), (8, .arr 52 1 1 [.own 200008 4 0 f134.length]), (16, .map 1 (List.map AV.p (encK encArr3_int64 f133)) (List.map AV.p (encW PV.bool f133))), (30, .arr 41 3 1 [.p (encTable t1)]), (31, .arr 24 2 1 [.p (encDenial d2)]), (116, .arr 41 3 1 [.p (encTable t1)]), (117, .arr 24 2 1 [.p (encDenial d2)]), (202, .arr 41 3 1 [.p (encTable t1)]), (203, .arr 24 2 1 [.p (encDenial d2)]), (200008, .arr 57 1 4 (List.map AV.p (List.map (encL (PV.int .i64)) f134)))]⟩ ?_
 refine AL_inline (avs := [.p (encTable t1), .p (encDenial d2), .p (.slc (List.map encRow (l104 ++ [x137]))), .func (.func 83) [.loc 7 1 0 0, .loc 8 1 0 0]]) 284 rfl (guard_none rfl) rfl Tryz.func82 rfl Tryz.call82 Tryz.ntmps82 (by simp) (by simp only [go_sem, seval, h136T, h142F]; all_goals rfl) ?_
 intro i146 w147 h148
 obtain ⟨l149, h150, h⟩ := zB h
 replace h150 := Option.some.inj h150
 refine awp_le (st' := ⟨[(0, .p (encTable t1)), (1, .p (encDenial d2)), (2, .p (.slc (List.map encRow l149))), (3, .func (.func 83) [.loc 7 1 0 0, .loc 8 1 0 0])], [(7, .arr 134 1 1 [.mapo 16 1]), (8, .arr 52 1 1 [.own 200008 4 0 f134.length]), (16, .map 1 (List.map AV.p (encK encArr3_int64 f133)) (List.map AV.p (encW PV.bool f133))), (30, .arr 41 3 1 [.p (encTable t1)]), (31, .arr 24 2 1 [.p (encDenial d2)]), (116, .arr 41 3 1 [.p (encTable t1)]), (117, .arr 24 2 1 [.p (encDenial d2)]), (202, .arr 41 3 1 [.p (encTable t1)]), (203, .arr 24 2 1 [.p (encDenial d2)]), (200008, .arr 57 1 4 (List.map AV.p (List.map (encL (PV.int .i64)) f134)))]⟩) (by simp only [go_sem, seval, h136T, h142F, ← h150]; all_goals ((repeat' refine And.intro ?_ ?_) <;> first | rfl | (simp; done) | (simp; rfl) | (simp [*]; done) | (simp [*]; rfl))) ?_
 clear h150
 refine zs (zr ?_)
 refine zU (zl (zn (zs (zs (zr ?_)))))
 refine zU (zl (zn ?_))
 rcases zI h with ⟨h151, h⟩ | ⟨h151, h⟩
 refine zi (zs (zr ?_))
 refine zU ?_
 obtain ⟨r152, h153, h⟩ := zB h
 refine zc (denial_satisfied_con l149 d2.Atoms _ h153) ?_
 refine zU ?_
 rcases zI h with ⟨h154, h⟩ | ⟨h154, h⟩
 refine zw 21 false ?_
 refine zg ?_
 refine zg ?_
 refine zM ⟨[(21, .p (.bool false)), (22, .func (.func 83) [.loc 7 1 0 0, .loc 8 1 0 0]), (23, .p (.slc (List.map encRow l149)))], [(7, .arr 134 1 1 [.mapo 16 1]), (8, .arr 52 1 1 [.own 200008 4 0 f134.length]), (16, .map 1 (List.map AV.p (encK encArr3_int64 f133)) (List.map AV.p (encW PV.bool f133))), (30, .arr 41 3 1 [.p (encTable t1)]), (31, .arr 24 2 1 [.p (encDenial d2)]), (116, .arr 41 3 1 [.p (encTable t1)]), (117, .arr 24 2 1 [.p (encDenial d2)]), (202, .arr 41 3 1 [.p (encTable t1)]), (203, .arr 24 2 1 [.p (encDenial d2)]), (200008, .arr 57 1 4 (List.map AV.p (List.map (encL (PV.int .i64)) f134)))]⟩ ?_
 refine AL_inline (avs := [.p (.slc (List.map encRow l149)), .loc 7 1 0 0, .loc 8 1 0 0]) 331 rfl (guard_true' rfl rfl (by exact rfl) (by exact rfl)) rfl Tryz.func83 rfl Tryz.call83 Tryz.ntmps83 (by simp) (by simp only [go_sem, seval, h136T, h142F, h151, h154]; all_goals rfl) ?_
 intro i155 w156 h157
 show AWp _ _ _ ⟨[(0, .p (.slc (List.map encRow l149))), (1, .loc 7 1 0 0), (2, .loc 8 1 0 0)], [(7, .arr 134 1 1 [.mapo 16 1]), (8, .arr 52 1 1 [.own 200008 4 0 f134.length]), (16, .map 1 (List.map AV.p (encK encArr3_int64 f133)) (List.map AV.p (encW PV.bool f133))), (30, .arr 41 3 1 [.p (encTable t1)]), (31, .arr 24 2 1 [.p (encDenial d2)]), (116, .arr 41 3 1 [.p (encTable t1)]), (117, .arr 24 2 1 [.p (encDenial d2)]), (202, .arr 41 3 1 [.p (encTable t1)]), (203, .arr 24 2 1 [.p (encDenial d2)]), (200008, .arr 57 1 4 (List.map AV.p (List.map (encL (PV.int .i64)) f134)))]⟩
 refine zs (zr ?_)
 refine zU (zl (zn (zs (zr ?_))))
 refine zU (zl (zn (zs (zs (zr ?_)))))
 refine zU (zl (zn (zb ?_)))
 obtain ⟨l158, h159, h⟩ := zB h
 refine zO (fun (s : List Int × Int) => ⟨[(1, .loc 7 1 0 0), (2, .loc 8 1 0 0), (5, .own 350 1 0 s.1.length), (9, .p (.slc (List.map encRow l149))), (10, .p (.int .i64 (l149.length : Int))), (11, .p (.int .i64 s.2))], [(7, .arr 134 1 1 [.mapo 16 1]), (8, .arr 52 1 1 [.own 200008 4 0 f134.length]), (16, .map 1 (List.map AV.p (encK encArr3_int64 f133)) (List.map AV.p (encW PV.bool f133))), (30, .arr 41 3 1 [.p (encTable t1)]), (31, .arr 24 2 1 [.p (encDenial d2)]), (116, .arr 41 3 1 [.p (encTable t1)]), (117, .arr 24 2 1 [.p (encDenial d2)]), (202, .arr 41 3 1 [.p (encTable t1)]), (203, .arr 24 2 1 [.p (encDenial d2)]), (350, .arr 2 1 1 (List.map AV.p (List.map (PV.int .i64) s.1))), (200008, .arr 57 1 4 (List.map AV.p (List.map (encL (PV.int .i64)) f134)))]⟩) (fun (o160 : List Int) => tE ⟨Tryz.prog, 39, 331, X, [(7, .arr 134 1 1 [.mapo 16 1]), (8, .arr 52 1 1 [.own 200008 4 0 f134.length]), (16, .map 1 (List.map AV.p (encK encArr3_int64 f133)) (List.map AV.p (encW PV.bool f133))), (30, .arr 41 3 1 [.p (encTable t1)]), (31, .arr 24 2 1 [.p (encDenial d2)]), (116, .arr 41 3 1 [.p (encTable t1)]), (117, .arr 24 2 1 [.p (encDenial d2)]), (202, .arr 41 3 1 [.p (encTable t1)]), (203, .arr 24 2 1 [.p (encDenial d2)]), (200008, .arr 57 1 4 (List.map AV.p (List.map (encL (PV.int .i64)) f134)))], i155, w156, False, h157⟩ (.exit 0) ⟨[(1, .loc 7 1 0 0), (2, .loc 8 1 0 0), (5, .own 350 1 0 o160.length)], [(7, .arr 134 1 1 [.mapo 16 1]), (8, .arr 52 1 1 [.own 200008 4 0 f134.length]), (16, .map 1 (List.map AV.p (encK encArr3_int64 f133)) (List.map AV.p (encW PV.bool f133))), (30, .arr 41 3 1 [.p (encTable t1)]), (31, .arr 24 2 1 [.p (encDenial d2)]), (116, .arr 41 3 1 [.p (encTable t1)]), (117, .arr 24 2 1 [.p (encDenial d2)]), (202, .arr 41 3 1 [.p (encTable t1)]), (203, .arr 24 2 1 [.p (encDenial d2)]), (350, .arr 2 1 1 (List.map AV.p (List.map (PV.int .i64) o160))), (200008, .arr 57 1 4 (List.map AV.p (List.map (encL (PV.int .i64)) f134)))]⟩) h159 ?_ ?_
 clear h h136 h136T h138 h138a h138b h140 h142 h142F h143 h144 h145 h151 h153 h154 h159
 intro s x h
 obtain ⟨l161, t162⟩ := s
 simp only [denial_Violations_l156] at h
 dsimp only
 refine zs (zr ?_)
 refine zU (zl (zn (zs ?_)))
 rcases zI h with ⟨h163, h⟩ | ⟨h163, h⟩
 refine zi (zk (zn (zs (zb (zs (zr ?_))))))
 obtain ⟨x164, h165, h165a, h165b, h⟩ := zX h
 refine zU (zl (zn (zr ?_)))
 obtain ⟨h166, h⟩ := ite_some h
 refine zU (zl (yn (zn (zr ?_))))
 refine zU (zl ?_)
 cases h
 exact ⟨rfl, zE⟩
 refine zj (zx (ze ?_))
 cases h
 exact ⟨rfl, zE⟩
 try simp only at h
 refine zA (yh (zn (zs (zr ?_))))
 refine zU ?_
 refine zM ⟨[(1, .loc 7 1 0 0), (2, .loc 8 1 0 0), (5, .own 350 1 0 l158.length), (21, .own 350 1 0 l158.length)], [(7, .arr 134 1 1 [.mapo 16 1]), (8, .arr 52 1 1 [.own 200008 4 0 f134.length]), (16, .map 1 (List.map AV.p (encK encArr3_int64 f133)) (List.map AV.p (encW PV.bool f133))), (30, .arr 41 3 1 [.p (encTable t1)]), (31, .arr 24 2 1 [.p (encDenial d2)]), (116, .arr 41 3 1 [.p (encTable t1)]), (117, .arr 24 2 1 [.p (encDenial d2)]), (202, .arr 41 3 1 [.p (encTable t1)]), (203, .arr 24 2 1 [.p (encDenial d2)]), (350, .arr 2 1 1 (List.map AV.p (List.map (PV.int .i64) l158))), (200008, .arr 57 1 4 (List.map AV.p (List.map (encL (PV.int .i64)) f134)))]⟩ ?_
 obtain ⟨l167, h168, h⟩ := zB h
 refine zSI srt84 h168 ?_
 have h169 := srtIF_len h168
 refine zM ⟨[(1, .loc 7 1 0 0), (2, .loc 8 1 0 0), (5, .own 350 1 0 l167.length), (22, .p (.tup []))], [(7, .arr 134 1 1 [.mapo 16 1]), (8, .arr 52 1 1 [.own 200008 4 0 f134.length]), (16, .map 1 (List.map AV.p (encK encArr3_int64 f133)) (List.map AV.p (encW PV.bool f133))), (30, .arr 41 3 1 [.p (encTable t1)]), (31, .arr 24 2 1 [.p (encDenial d2)]), (116, .arr 41 3 1 [.p (encTable t1)]), (117, .arr 24 2 1 [.p (encDenial d2)]), (202, .arr 41 3 1 [.p (encTable t1)]), (203, .arr 24 2 1 [.p (encDenial d2)]), (350, .arr 2 1 1 (List.map AV.p (List.map (PV.int .i64) l167))), (200008, .arr 57 1 4 (List.map AV.p (List.map (encL (PV.int .i64)) f134)))]⟩ ?_
 clear h169
 refine zl (zn (zs (zr ?_)))
 refine zU (zl (zn (zs (zr ?_))))
 refine zM ⟨[(1, .loc 7 1 0 0), (2, .loc 8 1 0 0), (5, .p (.slc (List.map (PV.int .i64) l167))), (8, .loc 339 1 0 0)], [(7, .arr 134 1 1 [.mapo 16 1]), (8, .arr 52 1 1 [.own 200008 4 0 f134.length]), (16, .map 1 (List.map AV.p (encK encArr3_int64 f133)) (List.map AV.p (encW PV.bool f133))), (30, .arr 41 3 1 [.p (encTable t1)]), (31, .arr 24 2 1 [.p (encDenial d2)]), (116, .arr 41 3 1 [.p (encTable t1)]), (117, .arr 24 2 1 [.p (encDenial d2)]), (202, .arr 41 3 1 [.p (encTable t1)]), (203, .arr 24 2 1 [.p (encDenial d2)]), (339, .arr 137 3 1 [.p (.agg [.int .i64 0, .int .i64 0, .int .i64 0])]), (200008, .arr 57 1 4 (List.map AV.p (List.map (encL (PV.int .i64)) f134)))]⟩ ?_
 refine zCpa 339 0 0 0 l167 Tryz.underlying137 Tryz.underlying57 ?_
 refine zl (zn (zs (zs (zr ?_))))
 refine zU (zl (zn ?_))
 rcases zI h with ⟨h170, h⟩ | ⟨h170, h⟩
 refine zj (zk (zn (zs (zr ?_))))
 refine zU (zl (zn (zq ?_)))
 refine inlQ_ret (by simp only [Tryz.results83]; simp only [go_sem, seval, h136T, h142F, h151, h154, h170]; exact rfl) ?_
 refine zU (zl (zn (zq (zt ?_))))
 refine inlQ_ret (by simp only [Tryz.results82]; simp only [go_sem, seval, h136T, h142F, h151, h154, h170]; exact rfl) ?_
 refine zU (zl (zn ?_))
 rcases zI h with ⟨h171, h⟩ | ⟨h171, h⟩
 refine zj (zk (yn (zn (zr ?_))))
 refine zU (zl ?_)
 cases h
 exact ⟨rfl, zE⟩
 refine zi (zs (zr ?_))
 refine zU (zl (zn (zq (yr (zt ?_)))))
 cases h
 exact ⟨rfl, zE⟩
 have h170F := Bool.eq_false_iff.2 h170
 refine zi (zs (zr ?_))
 refine zU (zl (zn (zr ?_)))
 obtain ⟨h172, h⟩ := ite_some h
 refine zU (zl (zn (zs (zr ?_))))
 refine zU (zl (zn (zq ?_)))
 refine inlQ_ret (by simp only [Tryz.results83]; simp only [go_sem, seval, h136T, h142F, h151, h154, h170F]; exact rfl) ?_
 refine zU (zl (zn (zq (zt ?_))))
 refine inlQ_ret (by simp only [Tryz.results82]; simp only [go_sem, seval, h136T, h142F, h151, h154, h170F]; exact rfl) ?_
 refine zU (zl (zn ?_))
 rcases zI h with ⟨h173, h⟩ | ⟨h173, h⟩
 refine zj (zk (yn (zn (zr ?_))))
 refine zU (zl ?_)
 cases h
 exact ⟨rfl, zE⟩
 refine zi (zs (zr ?_))
 refine zU (zl (zn (zq (yr (zt ?_)))))
 cases h
 exact ⟨rfl, zE⟩
 have h154F := Bool.eq_false_iff.2 h154
 refine zw 21 true ?_
 refine zh ?_
 refine zU (zl (zn (zq (zt ?_))))
 refine inlQ_ret (by simp only [Tryz.results82]; simp only [go_sem, seval, h136T, h142F, h151, h154F]; exact rfl) ?_
 refine zU (zl (zn ?_))
 refine zj (zk (yn (zn (zr ?_))))
 refine zU (zl ?_)
 cases h
 exact ⟨rfl, zE⟩
 have h151F := Bool.eq_false_iff.2 h151
 refine zj (zk (zn (zs (zs (zr ?_)))))
 refine zU (zl (zn (zb ?_)))
 obtain ⟨o174, h175, h⟩ := zB h
 refine zO (fun (s : Int) => ⟨[(2, .p (.slc (List.map encRow l149))), (3, .func (.func 83) [.loc 7 1 0 0, .loc 8 1 0 0]), (4, .loc 288 1 0 0), (5, .loc 289 1 0 0), (27, .p (.slc (List.map encRow t1.Rows))), (28, .p (.int .i64 (t1.Rows.length : Int))), (29, .p (.int .i64 s))], [(7, .arr 134 1 1 [.mapo 16 1]), (8, .arr 52 1 1 [.own 200008 4 0 f134.length]), (16, .map 1 (List.map AV.p (encK encArr3_int64 f133)) (List.map AV.p (encW PV.bool f133))), (30, .arr 41 3 1 [.p (encTable t1)]), (31, .arr 24 2 1 [.p (encDenial d2)]), (116, .arr 41 3 1 [.p (encTable t1)]), (117, .arr 24 2 1 [.p (encDenial d2)]), (202, .arr 41 3 1 [.p (encTable t1)]), (203, .arr 24 2 1 [.p (encDenial d2)]), (288, .arr 41 3 1 [.p (encTable t1)]), (289, .arr 24 2 1 [.p (encDenial d2)]), (200008, .arr 57 1 4 (List.map AV.p (List.map (encL (PV.int .i64)) f134)))]⟩) (fun (o176 : Unit) => tE ⟨Tryz.prog, 47, 284, X, [(7, .arr 134 1 1 [.mapo 16 1]), (8, .arr 52 1 1 [.own 200008 4 0 f134.length]), (16, .map 1 (List.map AV.p (encK encArr3_int64 f133)) (List.map AV.p (encW PV.bool f133))), (30, .arr 41 3 1 [.p (encTable t1)]), (31, .arr 24 2 1 [.p (encDenial d2)]), (116, .arr 41 3 1 [.p (encTable t1)]), (117, .arr 24 2 1 [.p (encDenial d2)]), (202, .arr 41 3 1 [.p (encTable t1)]), (203, .arr 24 2 1 [.p (encDenial d2)]), (200008, .arr 57 1 4 (List.map AV.p (List.map (encL (PV.int .i64)) f134)))], i146, w147, False, h148⟩ (.exit 0) ⟨[], [(7, .arr 134 1 1 [.mapo 16 1]), (8, .arr 52 1 1 [.own 200008 4 0 f134.length]), (16, .map 1 (List.map AV.p (encK encArr3_int64 f133)) (List.map AV.p (encW PV.bool f133))), (30, .arr 41 3 1 [.p (encTable t1)]), (31, .arr 24 2 1 [.p (encDenial d2)]), (116, .arr 41 3 1 [.p (encTable t1)]), (117, .arr 24 2 1 [.p (encDenial d2)]), (202, .arr 41 3 1 [.p (encTable t1)]), (203, .arr 24 2 1 [.p (encDenial d2)]), (200008, .arr 57 1 4 (List.map AV.p (List.map (encL (PV.int .i64)) f134)))]⟩) h175 ?_ ?_
 clear h h136 h136T h138 h138a h138b h140 h142 h142F h143 h144 h145 h151 h151F h175
 intro t177 x h
 simp only [denial_Violations_l157] at h
 refine zs (zr ?_)
 refine zU (zl (zn (zs ?_)))
 rcases zI h with ⟨h178, h⟩ | ⟨h178, h⟩
 refine zi (zk (zn (zs (zb (zs (zr ?_))))))
 obtain ⟨x179, h180, h180a, h180b, h⟩ := zX h
 refine zU (zl (zn (zs (zs (zr ?_)))))
 refine zU ?_
 obtain ⟨r181, h182, h⟩ := zB h
 refine zc (slices_ContainsFunc_Row_con l149 (fun (y183 : Row) => denial_visit_1 y183 x179) 125 [.imm [.int .i64 x179.ID, .slc (List.map encValue x179.Values)]] (fun y183 r h => denial_visit_1_con y183 x179 r h) _ h182) ?_
 refine zl (zn ?_)
 rcases zI h with ⟨h184, h⟩ | ⟨h184, h⟩
 refine zi (zx (ze (yh (zn (zr ?_)))))
 refine zU (zl ?_)
 cases h
 exact ⟨rfl, zE⟩
 cases h
 refine zj (zx (ze ?_))
 cases h
 exact ⟨rfl, zE⟩
 cases o174
 try simp only at h
 refine zA (yh (zn (zs (zr ?_))))
 refine zU (zl (zn (zq ?_)))
 refine inlQ_ret (by simp only [Tryz.results82]; simp only [go_sem, seval, h136T, h142F, h151F]; exact rfl) ?_
 refine zU (zl (zn ?_))
 refine zj (zk (yn (zn (zr ?_))))
 refine zU (zl ?_)
 cases h
 exact ⟨rfl, zE⟩
 have h136T := eq_false h136
 refine zj (zx (ze ?_))
 cases h
 exact ⟨rfl, zE⟩
 rcases o129 with ⟨f185, b186⟩ | ⟨f187, b188⟩
 try simp only at h
 refine zA (yh (zn (zs (zr ?_))))
 refine zU (zl (zn (zq ?_)))
 refine inlQ_ret (by simp only [Tryz.results82]; simp only [go_sem, seval, h91T, h97F, h106F]; exact rfl) ?_
 refine zU (zl (zn ?_))
 refine zj (zk (yn (zn (zr ?_))))
 refine zU (zl ?_)
 cases h
 exact ⟨rfl, zE⟩
 try simp only at h
 refine zA (yr (zt ?_))
 refine inlQ_ret (by simp only [Tryz.results82]; simp only [go_sem, seval, h91T, h97F, h106F]; exact rfl) ?_
 refine zU (zl (zn ?_))
 refine zi (zs (zr ?_))
 refine zU (zl (zn (zq (yr (zt ?_)))))
 cases h
 exact ⟨rfl, zE⟩
 have h91T := eq_false h91
 refine zj (zx (ze ?_))
 cases h
 exact ⟨rfl, zE⟩
 rcases o84 with ⟨f189, b190⟩ | ⟨f191, b192⟩
 try simp only at h
 refine zA (yh (zn (zs (zr ?_))))
 refine zU (zl (zn (zq ?_)))
 refine inlQ_ret (by simp only [Tryz.results82]; simp only [go_sem, seval, h45T, h51F, h60F]; exact rfl) ?_
 refine zU (zl (zn ?_))
 refine zj (zk (yn (zn (zr ?_))))
 refine zU (zl ?_)
 cases h
 exact ⟨rfl, zE⟩
 try simp only at h
 refine zA (yr (zt ?_))
 refine inlQ_ret (by simp only [Tryz.results82]; simp only [go_sem, seval, h45T, h51F, h60F]; exact rfl) ?_
 refine zU (zl (zn ?_))
 refine zi (zs (zr ?_))
 refine zU (zl (zn (zq (yr (zt ?_)))))
 cases h
 exact ⟨rfl, zE⟩
 have h45T := eq_false h45
 refine zj (zx (ze ?_))
 cases h
 exact ⟨rfl, zE⟩
 rcases o38 with ⟨f193, b194⟩ | ⟨f195, b196⟩
 try simp only at h
 refine zA (yh (zn (zs (zr ?_))))
 refine zU (zl (zn (zq ?_)))
 refine inlQ_ret (by simp only [Tryz.results82]; simp only [go_sem, seval, h6F, h17F]; exact rfl) ?_
 refine zU (zl ?_)
 cases h
 exact ⟨rfl, zE⟩
 try simp only at h
 refine zA (yr (zt ?_))
 refine inlQ_ret (by simp only [Tryz.results82]; simp only [go_sem, seval, h6F, h17F]; exact rfl) ?_
 refine zU (zl ?_)
 cases h
 exact ⟨rfl, zE⟩
 obtain ⟨o197, a198⟩ := o7
 try simp only at h
 refine zA (zn (zs (zs (zr ?_))))
 refine zU (zl (zn ?_))
 rcases zI h with ⟨h199, h⟩ | ⟨h199, h⟩
 refine zj (zk (zn (zs (zr ?_))))
 refine zU ?_
 refine zM ⟨[(8, .loc 8 1 0 0), (23, .own 200008 1 0 o197.length)], [(8, .arr 52 1 1 [.own 200008 1 0 o197.length]), (200008, .arr 57 1 1 (List.map AV.p (List.map (encL (PV.int .i64)) o197)))]⟩ ?_
 obtain ⟨l200, h201, h⟩ := zB h
 refine zSF srt85 (encL (PV.int .i64)) (fun (y202 : List Int) (y203 : List Int) => slices_Compare_int64 y202 y203) h201 (fun y202 y203 r h => slices_Compare_int64_con y202 y203 r h) ?_
 have h204 := srtF_len h201
 refine zM ⟨[(8, .loc 8 1 0 0), (24, .p (.tup []))], [(8, .arr 52 1 1 [.own 200008 1 0 l200.length]), (200008, .arr 57 1 1 (List.map AV.p (List.map (encL (PV.int .i64)) l200)))]⟩ ?_
 clear h204
 refine zl (zn (zs (zr ?_)))
 refine zU (zl (zn (zq ?_)))
 cases h
 exact zT Tryz.results29
 refine zi (zs (zr ?_))
 refine zU (zl (zn (zq (zt ?_))))
 cases h
 exact zT Tryz.results29
end Go.Proofs.YtlaodgbkpmdhoaaGreatDoor
set_option linter.unusedVariables false
set_option linter.unusedSimpArgs false
namespace Go.Proofs.YtlaodgbkpmdhoaaGreatDoor
open Go Go.Ab
set_option maxHeartbeats 4000000 in
theorem drossref01_Of_con {D : Prop} (c1 : Int) (r2 : Value) (h : drossref01_Of c1 = some r2) : Con D Tryz.prog 104 [(.int .u8 c1)] (encValue r2) := by
 refine zP Tryz.call104 Tryz.func104 rfl Tryz.ntmps104 fun X w hT => ?_
 simp only [drossref01_Of] at h
 refine zs (zr ?_)
 refine zU (zl (zn (zs (zs (zr ?_)))))
 refine zU (zl (zn (zb (zs (zr ?_)))))
 refine zU (zl (zn ?_))
 rcases zI h with ⟨h3, h⟩ | ⟨h3, h⟩
 refine zi (zs (zr ?_))
 refine zU (zl (zn (zq (yr (zt ?_)))))
 cases h
 exact zT Tryz.results104
 refine zj (zs (zr ?_))
 refine zU (zl (zn ?_))
 rcases zI h with ⟨h4, h⟩ | ⟨h4, h⟩
 refine zi (zs (zr ?_))
 refine zU (zl (zn (zq (yr (zt ?_)))))
 cases h
 exact zT Tryz.results104
 refine zj (zs (zr ?_))
 refine zU (zl (zn ?_))
 rcases zI h with ⟨h5, h⟩ | ⟨h5, h⟩
 refine zi (zs (zr ?_))
 refine zU (zl (zn (zq (yr (zt ?_)))))
 cases h
 exact zT Tryz.results104
 refine zj (zs (zr ?_))
 refine zU (zl (zn ?_))
 rcases zI h with ⟨h6, h⟩ | ⟨h6, h⟩
 refine zi (zs (zr ?_))
 refine zU (zl (zn (zq (yr (zt ?_)))))
 cases h
 exact zT Tryz.results104
 refine zj (zs (zr ?_))
 refine zU (zl (zn ?_))
 rcases zI h with ⟨h7, h⟩ | ⟨h7, h⟩
 refine zi (zs (zr ?_))
 refine zU (zl (zn (zq (yr (zt ?_)))))
 cases h
 exact zT Tryz.results104
 refine zj (zs (zr ?_))
 refine zU (zl (zn ?_))
 rcases zI h with ⟨h8, h⟩ | ⟨h8, h⟩
 refine zi (zs (zr ?_))
 refine zU (zl (zn (zq (yr (zt ?_)))))
 cases h
 exact zT Tryz.results104
 refine zj (zs (zr ?_))
 refine zU (zl (zn ?_))
 rcases zI h with ⟨h9, h⟩ | ⟨h9, h⟩
 refine zi (zs (zr ?_))
 refine zU (zl (zn (zq (yr (zt ?_)))))
 cases h
 exact zT Tryz.results104
 refine zj (zs (zr ?_))
 refine zU (zl (zn ?_))
 rcases zI h with ⟨h10, h⟩ | ⟨h10, h⟩
 refine zi (zs (zr ?_))
 refine zU (zl (zn (zq (yr (zt ?_)))))
 cases h
 exact zT Tryz.results104
 refine zj (zs (zr ?_))
 refine zU (zl (zn ?_))
 rcases zI h with ⟨h11, h⟩ | ⟨h11, h⟩
 refine zi (zs (zr ?_))
 refine zU (zl (zn (zq (yr (zt ?_)))))
 cases h
 exact zT Tryz.results104
 refine zj (zs (zr ?_))
 refine zU (zl (zn ?_))
 rcases zI h with ⟨h12, h⟩ | ⟨h12, h⟩
 refine zi (zs (zr ?_))
 refine zU (zl (zn (zq (yr (zt ?_)))))
 cases h
 exact zT Tryz.results104
 refine zj (zs (zr ?_))
 refine zU (zl (zn ?_))
 rcases zI h with ⟨h13, h⟩ | ⟨h13, h⟩
 refine zi (zs (zr ?_))
 refine zU (zl (zn (zq (yr (zt ?_)))))
 cases h
 exact zT Tryz.results104
 refine zj (zk (yn (zn (zs (zr ?_)))))
 refine zU (zl (zn (zq ?_)))
 cases h
 exact zT Tryz.results104
end Go.Proofs.YtlaodgbkpmdhoaaGreatDoor
set_option linter.unusedVariables false
set_option linter.unusedSimpArgs false
namespace Go.Proofs.YtlaodgbkpmdhoaaGreatDoor
open Go Go.Ab
set_option maxHeartbeats 4000000 in
theorem drossref03_Wide_con {D : Prop} (x1 : Drossref03_Recipe) (n2 : Int) (r3 : Table) (h : drossref03_Wide x1 n2 = some r3) : Con D Tryz.prog 49 [(encDrossref03_Recipe x1), (.int .i64 n2)] (encTable r3) := by
 refine zP Tryz.call49 Tryz.func49 rfl Tryz.ntmps49 fun X w hT => ?_
 simp only [drossref03_Wide] at h
 refine zs (zr ?_)
 refine zU (zl (zn (zs (zr ?_))))
 obtain ⟨h4, h⟩ := ite_some h
 obtain ⟨h5, h⟩ := ite_some h
 refine zW 4 ?_
 obtain ⟨l6, h7, h⟩ := zB h
 replace h7 := Option.some.inj h7
 refine AL_le (st' := ⟨[(1, .p (.int .i64 n2)), (2, .loc 2 1 0 0), (4, .loc 4 1 0 0), (10, .own 10 1 0 0), (13, .own 11 1 0 n2.toNat)], [(2, .arr 36 3 1 [.p (encDrossref03_Recipe x1)]), (4, .arr 41 3 1 [.agg [.p (.str []), .nils, .nils]]), (10, .arr 9 1 1 []), (11, .arr 9 1 1 (List.map AV.p (List.map PV.str l6)))]⟩) (by simp only [go_sem, seval, ← h7]; all_goals ((repeat' refine And.intro ?_ ?_) <;> first | rfl | (simp; done) | (simp; rfl) | (simp [*]; done) | (simp [*]; rfl))) ?_
 have h7n : l6.length = 8 := by rw [← h7]; rfl
 clear h7
 obtain ⟨h8, h⟩ := ite_some h
 refine zU (zl (zn (zs (zs (zr ?_)))))
 refine zU (zl (zn (zb ?_)))
 obtain ⟨t9, h10, h⟩ := zB h
 refine zO (fun (s : List Row × Int) => ⟨[(1, .p (.int .i64 n2)), (2, .loc 2 1 0 0), (4, .loc 4 1 0 0), (5, .loc 5 1 0 0), (6, .p (.int .i64 s.2))], [(2, .arr 36 3 1 [.p (encDrossref03_Recipe x1)]), (4, .arr 41 3 1 [.agg [.p (.str []), .nils, .nils]]), (5, .arr 41 3 1 [.agg [.p (.str [114]), .own 10 1 0 ((l6.take n2.toNat)).length, .own 64 1 0 s.1.length]]), (10, .arr 9 1 1 (List.map AV.p (List.map PV.str (l6.take n2.toNat)))), (64, .arr 55 2 1 (List.map AV.p (List.map encRow s.1)))]⟩) (fun (o11 : List Row) => tE (cX Tryz.f49 X w D hT) (.exit 0) ⟨[(4, .loc 4 1 0 0), (5, .loc 5 1 0 0)], [(4, .arr 41 3 1 [.agg [.p (.str []), .nils, .nils]]), (5, .arr 41 3 1 [.agg [.p (.str [114]), .own 10 1 0 ((l6.take n2.toNat)).length, .own 64 1 0 o11.length]]), (10, .arr 9 1 1 (List.map AV.p (List.map PV.str (l6.take n2.toNat)))), (64, .arr 55 2 1 (List.map AV.p (List.map encRow o11)))]⟩) h10 ?_ ?_
 clear h h4 h5 h7n h8 h10
 intro s x h
 obtain ⟨t12, i13⟩ := s
 simp only [drossref03_Wide_l4] at h
 dsimp only
 refine zs (zs (zr ?_))
 refine zU (zl (zn ?_))
 rcases zI h with ⟨h14, h⟩ | ⟨h14, h⟩
 refine zi (zk (zn (zs (zb (zs (zr ?_))))))
 refine zU (zl (zn (zs (zs (zr ?_)))))
 refine zU (zl (zn (zb ?_)))
 obtain ⟨r15, h16, h⟩ := zB h
 refine zO (fun (s : List Value × Int) => ⟨[(1, .p (.int .i64 n2)), (2, .loc 2 1 0 0), (4, .loc 4 1 0 0), (5, .loc 5 1 0 0), (6, .p (.int .i64 i13)), (7, .loc 7 1 0 0), (8, .p (.int .i64 s.2))], [(2, .arr 36 3 1 [.p (encDrossref03_Recipe x1)]), (4, .arr 41 3 1 [.agg [.p (.str []), .nils, .nils]]), (5, .arr 41 3 1 [.agg [.p (.str [114]), .own 10 1 0 ((l6.take n2.toNat)).length, .own 64 1 0 t12.length]]), (7, .arr 55 2 1 [.agg [.p (.int .i64 (IntKind.i64.wrap (1 + (IntKind.i64.wrap (i13 * (IntKind.i64.wrap (1 + (IntKind.i64.wrap (Int.tmod x1.Gap 3))))))))), .own 58 1 0 s.1.length]]), (10, .arr 9 1 1 (List.map AV.p (List.map PV.str (l6.take n2.toNat)))), (58, .arr 27 3 1 (List.map AV.p (List.map encValue s.1))), (64, .arr 55 2 1 (List.map AV.p (List.map encRow t12)))]⟩) (fun (o17 : List Value) => tE (cX Tryz.f49 X w D hT) (.exit 2) ⟨[(1, .p (.int .i64 n2)), (2, .loc 2 1 0 0), (4, .loc 4 1 0 0), (5, .loc 5 1 0 0), (6, .p (.int .i64 i13)), (7, .loc 7 1 0 0)], [(2, .arr 36 3 1 [.p (encDrossref03_Recipe x1)]), (4, .arr 41 3 1 [.agg [.p (.str []), .nils, .nils]]), (5, .arr 41 3 1 [.agg [.p (.str [114]), .own 10 1 0 ((l6.take n2.toNat)).length, .own 64 1 0 t12.length]]), (7, .arr 55 2 1 [.agg [.p (.int .i64 (IntKind.i64.wrap (1 + (IntKind.i64.wrap (i13 * (IntKind.i64.wrap (1 + (IntKind.i64.wrap (Int.tmod x1.Gap 3))))))))), .own 58 1 0 o17.length]]), (10, .arr 9 1 1 (List.map AV.p (List.map PV.str (l6.take n2.toNat)))), (58, .arr 27 3 1 (List.map AV.p (List.map encValue o17))), (64, .arr 55 2 1 (List.map AV.p (List.map encRow t12)))]⟩) h16 ?_ ?_
 clear h h14 h16
 intro s x h
 obtain ⟨r18, k19⟩ := s
 simp only [drossref03_Wide_l3] at h
 dsimp only
 refine zs (zs (zr ?_))
 refine zU (zl (zn ?_))
 rcases zI h with ⟨h20, h⟩ | ⟨h20, h⟩
 refine zi (zk (zn (zs (zb (zs (zr ?_))))))
 refine zU (zl (zn (zs (zs (zr ?_)))))
 obtain ⟨x21, h22, h22a, h22b, h⟩ := zX h
 refine zU (zl (zn ?_))
 rcases zI h with ⟨h23, h⟩ | ⟨h23, h⟩
 refine zi (zr ?_)
 obtain ⟨x24, h25, h25a, h25b, h⟩ := zX h
 refine zU (zl (zn (zd ?_)))
 refine yU ?_
 obtain ⟨r26, h27, h⟩ := zB h
 refine yc (drossref01_Of_con x24 _ h27) ?_
 obtain ⟨h28, h⟩ := ite_some h
 refine yU ?_
 refine yd (yn (zn (zr ?_)))
 refine zU (zl ?_)
 cases h
 exact ⟨rfl, zE⟩
 refine zj (zk (zn (zd ?_)))
 refine yU ?_
 obtain ⟨r29, h30, h⟩ := zB h
 refine yc (drossref01_Of_con 0 _ h30) ?_
 obtain ⟨h31, h⟩ := ite_some h
 refine yU ?_
 refine yd (yn (zn (zr ?_)))
 refine zU (zl ?_)
 cases h
 exact ⟨rfl, zE⟩
 refine zj (zx (ze ?_))
 cases h
 exact ⟨rfl, zE⟩
 try simp only at h
 refine zA (yh (zn (zr ?_)))
 refine zW 4 ?_
 refine zM ⟨[(1, .p (.int .i64 n2)), (2, .loc 2 1 0 0), (4, .loc 4 1 0 0), (5, .loc 5 1 0 0), (6, .p (.int .i64 i13)), (61, .own 64 1 0 t12.length), (63, .own 63 1 0 1)], [(2, .arr 36 3 1 [.p (encDrossref03_Recipe x1)]), (4, .arr 41 3 1 [.agg [.p (.str []), .nils, .nils]]), (5, .arr 41 3 1 [.agg [.p (.str [114]), .own 10 1 0 ((l6.take n2.toNat)).length, .own 64 1 0 t12.length]]), (10, .arr 9 1 1 (List.map AV.p (List.map PV.str (l6.take n2.toNat)))), (63, .arr 55 2 1 [.p (.agg [.int .i64 (IntKind.i64.wrap (1 + (IntKind.i64.wrap (i13 * (IntKind.i64.wrap (1 + (IntKind.i64.wrap (Int.tmod x1.Gap 3)))))))), .slc (List.map encValue r15)])]), (64, .arr 55 2 1 (List.map AV.p (List.map encRow t12)))]⟩ ?_
 obtain ⟨h32, h⟩ := ite_some h
 refine zU (zl (yn (zn (zr ?_))))
 refine zU (zl ?_)
 cases h
 exact ⟨rfl, zE⟩
 refine zj (zx (ze ?_))
 cases h
 exact ⟨rfl, zE⟩
 try simp only at h
 refine zA (yh (zn (zs (zr ?_))))
 refine zU (zl (zn (zq ?_)))
 cases h
 exact zT Tryz.results49
end Go.Proofs.YtlaodgbkpmdhoaaGreatDoor
set_option linter.unusedVariables false
set_option linter.unusedSimpArgs false
namespace Go.Proofs.YtlaodgbkpmdhoaaGreatDoor
open Go Go.Ab
set_option maxHeartbeats 4000000 in
theorem drosslaw18_at_con {D : Prop} (v1 : Int) (a2 : Int) (r3 : Term) (h : drosslaw18_at v1 a2 = some r3) : Con D Tryz.prog 50 [(.int .i64 v1), (.int .i64 a2)] (encTerm r3) := by
 refine zP Tryz.call50 Tryz.func50 rfl Tryz.ntmps50 fun X w hT => ?_
 simp only [drosslaw18_at] at h
 refine zs (zr ?_)
 refine zU (zl (zn (zs (zr ?_))))
 refine zU (zl (zn (zq ?_)))
 cases h
 exact zT Tryz.results50
end Go.Proofs.YtlaodgbkpmdhoaaGreatDoor
set_option linter.unusedVariables false
set_option linter.unusedSimpArgs false
namespace Go.Proofs.YtlaodgbkpmdhoaaGreatDoor
open Go Go.Ab
set_option maxHeartbeats 4000000 in
theorem drosslaw18_num_con {D : Prop} (n1 : Int) (r2 : Term) (h : drosslaw18_num n1 = some r2) : Con D Tryz.prog 51 [(.int .i64 n1)] (encTerm r2) := by
 refine zP Tryz.call51 Tryz.func51 rfl Tryz.ntmps51 fun X w hT => ?_
 simp only [drosslaw18_num] at h
 refine zs (zr ?_)
 refine zU (zl (zn (zs (zr ?_))))
 refine zU (zl (zn (zq ?_)))
 cases h
 exact zT Tryz.results51
end Go.Proofs.YtlaodgbkpmdhoaaGreatDoor
set_option linter.unusedVariables false
set_option linter.unusedSimpArgs false
namespace Go.Proofs.YtlaodgbkpmdhoaaGreatDoor
open Go Go.Ab
set_option maxRecDepth 20000 in
set_option maxHeartbeats 4000000 in
theorem drosslaw18_awake_con  (r1 : Bool) (h : drosslaw18_awake = some r1) : Con False Tryz.prog 11 [] (.bool r1) := by
 refine zP Tryz.call11 Tryz.func11 rfl Tryz.ntmps11 fun X w hT => ?_
 simp only [drosslaw18_awake] at h
 refine zs (zr ?_)
 refine zU (zl (zn (zs (zr ?_))))
 refine zU ?_
 refine zM ⟨[(17, .p (.agg [.int .u8 0, .int .u8 0, .slc (List.map (encL (PV.int .u8)) [[2, 1], [2, 2], [11, 2]])]))], []⟩ ?_
 obtain ⟨r2, h3, h⟩ := zB h
 refine zc (drossref03_Wide_con (Drossref03_Recipe.mk 0 0 [[2, 1], [2, 2], [11, 2]]) 2 _ h3) ?_
 refine zU (zl (zn (zs (zr ?_))))
 refine zU ?_
 obtain ⟨r4, h5, h⟩ := zB h
 refine zc (denial_FromFD_con 2 (FD.mk 1 2) _ h5) ?_
 refine zU (zl (zn (zs (zr ?_))))
 obtain ⟨r6, h7, h⟩ := zB h
 refine zc (drosslaw18_at_con 1 0 _ h7) ?_
 obtain ⟨r8, h9, h⟩ := zB h
 refine zc (drosslaw18_at_con 2 0 _ h9) ?_
 refine zU ?_
 obtain ⟨r10, h11, h⟩ := zB h
 refine zc (drosslaw18_at_con 1 1 _ h11) ?_
 obtain ⟨r12, h13, h⟩ := zB h
 refine zc (drosslaw18_at_con 2 1 _ h13) ?_
 refine zU (zl (zn (zs (zr ?_))))
 refine zU ?_
 refine zM ⟨[(1, .loc 1 1 0 0), (2, .p (.slc (List.map encDenial r4.1))), (3, .p (.int .i64 r4.2)), (4, .loc 4 1 0 0), (33, .p (encTable r2)), (34, .p (.agg [.int .i64 2, .slc (List.map encAtom [(Atom.mk r6 1 r8), (Atom.mk r10 2 r12)])]))], [(1, .arr 41 3 1 [.p (encTable r2)]), (4, .arr 24 2 1 [.p (.agg [.int .i64 2, .slc (List.map encAtom [(Atom.mk r6 1 r8), (Atom.mk r10 2 r12)])])])]⟩ ?_
 obtain ⟨r14, h15, h⟩ := zB h
 refine zc (denial_Violations_con r2 (Denial.mk 2 [(Atom.mk r6 1 r8), (Atom.mk r10 2 r12)]) _ h15) ?_
 refine zU (zl (zn (zs (zd ?_))))
 refine yU ?_
 obtain ⟨r16, h17, h⟩ := zB h
 refine yc (drosslaw18_at_con 1 0 _ h17) ?_
 obtain ⟨r18, h19, h⟩ := zB h
 refine yc (drosslaw18_num_con 6 _ h19) ?_
 refine yV 1 ?_
 refine yS 43 ?_
 refine yU ?_
 obtain ⟨r20, h21, h⟩ := zB h
 refine yc (denial_Violations_con r2 (Denial.mk 1 [(Atom.mk r16 3 r18)]) _ h21) ?_
 refine yU ?_
 refine yd (zn (zs (zr ?_)))
 refine zU ?_
 refine zM ⟨[(2, .p (.slc (List.map encDenial r4.1))), (3, .p (.int .i64 r4.2)), (4, .loc 4 1 0 0), (5, .p (.slc (List.map (encL (PV.int .i64)) r14.1))), (6, .p (.int .i64 r14.2)), (7, .p (.slc (List.map (encL (PV.int .i64)) r20.1))), (8, .p (.int .i64 r20.2)), (51, .p (.agg [.slc (List.map (PV.int .i64) [0]), .slc (List.map (PV.int .i64) [1])]))], [(4, .arr 24 2 1 [.p (.agg [.int .i64 2, .slc (List.map encAtom [(Atom.mk r6 1 r8), (Atom.mk r10 2 r12)])])])]⟩ ?_
 obtain ⟨r22, h23, h⟩ := zB h
 refine zc (denial_FromOD_con 2 (OD.mk [0] [1]) _ h23) ?_
 refine zU (zl (zn (zs (zs (zr ?_)))))
 refine zU ?_
 rcases zI h with ⟨h24, h⟩ | ⟨h24, h⟩
 refine zw 57 true ?_
 refine zh ?_
 refine zU ?_
 refine zh ?_
 refine zU ?_
 refine zh ?_
 refine zU ?_
 refine zh ?_
 refine zU ?_
 refine zh ?_
 refine zU ?_
 refine zh ?_
 refine zU ?_
 refine zh ?_
 refine zU (zl (zn ?_))
 refine zi (zs (zr ?_))
 refine zU (zl (zn (zq (zt ?_))))
 cases h
 exact zT Tryz.results11
 refine zw 57 false ?_
 refine zg ?_
 refine zg ?_
 refine zU ?_
 rcases zI h with ⟨h25, h⟩ | ⟨h25, h⟩
 refine zw 61 true ?_
 refine zh ?_
 refine zU ?_
 refine zh ?_
 refine zU ?_
 refine zh ?_
 refine zU ?_
 refine zh ?_
 refine zU ?_
 refine zh ?_
 refine zU ?_
 refine zh ?_
 refine zU (zl (zn ?_))
 refine zi (zs (zr ?_))
 refine zU (zl (zn (zq (zt ?_))))
 cases h
 exact zT Tryz.results11
 refine zw 61 false ?_
 refine zg ?_
 refine zg ?_
 refine zU ?_
 rcases zI h with ⟨h26, h⟩ | ⟨h26, h⟩
 refine zw 65 true ?_
 refine zh ?_
 refine zU ?_
 refine zh ?_
 refine zU ?_
 refine zh ?_
 refine zU ?_
 refine zh ?_
 refine zU ?_
 refine zh ?_
 refine zU (zl (zn ?_))
 refine zi (zs (zr ?_))
 refine zU (zl (zn (zq (zt ?_))))
 cases h
 exact zT Tryz.results11
 refine zw 65 false ?_
 refine zg ?_
 refine zg ?_
 refine zU ?_
 rcases zI h with ⟨h27, h⟩ | ⟨h27, h⟩
 refine zw 69 true ?_
 refine zh ?_
 refine zU ?_
 refine zh ?_
 refine zU ?_
 refine zh ?_
 refine zU ?_
 refine zh ?_
 refine zU (zl (zn ?_))
 refine zi (zs (zr ?_))
 refine zU (zl (zn (zq (zt ?_))))
 cases h
 exact zT Tryz.results11
 refine zw 69 false ?_
 refine zg ?_
 refine zg ?_
 refine zg ?_
 obtain ⟨r28, h29, h⟩ := zB h
 refine zc (drossref18_Same_con r4.1 [(Denial.mk 2 [(Atom.mk r6 1 r8), (Atom.mk r10 2 r12)])] _ h29) ?_
 refine zg ?_
 refine zU ?_
 rcases zI h with ⟨h30, h⟩ | ⟨h30, h⟩
 refine zw 76 false ?_
 refine zg ?_
 refine zg ?_
 refine zg ?_
 obtain ⟨r31, h32, h⟩ := zB h
 refine zc (drossref18_Lists_con r14.1 [[1, 2]] _ h32) ?_
 refine zg ?_
 refine zU ?_
 rcases zI h with ⟨h33, h⟩ | ⟨h33, h⟩
 refine zw 83 false ?_
 refine zg ?_
 refine zg ?_
 refine zg ?_
 refine zg ?_
 obtain ⟨r34, h35, h⟩ := zB h
 refine zc (drossref18_Lists_con r20.1 [[1], [2]] _ h35) ?_
 refine zg ?_
 refine zU ?_
 rcases zI h with ⟨h36, h⟩ | ⟨h36, h⟩
 refine zw 91 false ?_
 refine zg ?_
 refine zg ?_
 refine zg ?_
 refine zU (zl (zn ?_))
 rcases zI h with ⟨h37, h⟩ | ⟨h37, h⟩
 refine zi (zs (zr ?_))
 refine zU (zl (zn (zq (zt ?_))))
 cases h
 exact zT Tryz.results11
 refine zj (zk (zn (zs (zr ?_))))
 obtain ⟨r38, h39, h⟩ := zB h
 refine zc (drosslaw18_at_con 1 0 _ h39) ?_
 obtain ⟨r40, h41, h⟩ := zB h
 refine zc (drosslaw18_at_con 1 1 _ h41) ?_
 refine zU ?_
 obtain ⟨r42, h43, h⟩ := zB h
 refine zc (drosslaw18_at_con 1 1 _ h43) ?_
 obtain ⟨r44, h45, h⟩ := zB h
 refine zc (drosslaw18_num_con 5 _ h45) ?_
 refine zU ?_
 obtain ⟨r46, h47, h⟩ := zB h
 refine zc (drosslaw18_num_con 6 _ h47) ?_
 obtain ⟨r48, h49, h⟩ := zB h
 refine zc (drosslaw18_at_con 1 0 _ h49) ?_
 refine zU (zl (zn (zs (zr ?_))))
 obtain ⟨r50, h51, h⟩ := zB h
 refine zc (drosslaw18_at_con 1 0 _ h51) ?_
 obtain ⟨r52, h53, h⟩ := zB h
 refine zc (drosslaw18_num_con 2 _ h53) ?_
 refine zU ?_
 obtain ⟨r54, h55, h⟩ := zB h
 refine zc (drosslaw18_num_con 1 _ h55) ?_
 obtain ⟨r56, h57, h⟩ := zB h
 refine zc (drosslaw18_at_con 1 0 _ h57) ?_
 refine zU (zl (zn (zs (zr ?_))))
 refine zU ?_
 obtain ⟨r58, h59, h⟩ := zB h
 refine zc (denial_Contradictory_con [(Atom.mk r38 3 r40), (Atom.mk r42 4 r44), (Atom.mk r46 3 r48)] _ h59) ?_
 refine zU ?_
 rcases zI h with ⟨h60, h⟩ | ⟨h60, h⟩
 refine zw 115 true ?_
 refine zg ?_
 obtain ⟨r61, h62, h⟩ := zB h
 replace h := h.symm
 refine zc (denial_Contradictory_con [(Atom.mk r50 3 r52), (Atom.mk r54 3 r56)] _ h62) ?_
 refine zg ?_
 refine zU (zl (zn (zq ?_)))
 cases h
 exact zT Tryz.results11
 refine zw 115 false ?_
 refine zh ?_
 refine zU (zl (zn (zq ?_)))
 cases h
 exact zT Tryz.results11
 refine zw 91 true ?_
 refine zh ?_
 refine zU (zl (zn ?_))
 refine zi (zs (zr ?_))
 refine zU (zl (zn (zq (zt ?_))))
 cases h
 exact zT Tryz.results11
 refine zw 83 true ?_
 refine zh ?_
 refine zU ?_
 refine zh ?_
 refine zU (zl (zn ?_))
 refine zi (zs (zr ?_))
 refine zU (zl (zn (zq (zt ?_))))
 cases h
 exact zT Tryz.results11
 refine zw 76 true ?_
 refine zh ?_
 refine zU ?_
 refine zh ?_
 refine zU ?_
 refine zh ?_
 refine zU (zl (zn ?_))
 refine zi (zs (zr ?_))
 refine zU (zl (zn (zq (zt ?_))))
 cases h
 exact zT Tryz.results11
end Go.Proofs.YtlaodgbkpmdhoaaGreatDoor
set_option linter.unusedVariables false
set_option linter.unusedSimpArgs false
namespace Go.Proofs.YtlaodgbkpmdhoaaGreatDoor
open Go Go.Ab
set_option maxHeartbeats 4000000 in
theorem drossref03_Table_con {D : Prop} (x1 : Drossref03_Recipe) (m2 : Int) (r3 : Table × Bool) (h : drossref03_Table x1 m2 = some r3) : Con D Tryz.prog 15 [(encDrossref03_Recipe x1), (.int .i64 m2)] (.tup [(encTable r3.1), (.bool r3.2)]) := by
 refine zP Tryz.call15 Tryz.func15 rfl Tryz.ntmps15 fun X w hT => ?_
 simp only [drossref03_Table] at h
 refine zs (zr ?_)
 refine zU (zl (zn (zs (zs (zr ?_)))))
 refine zU (zl (zn ?_))
 rcases zI h with ⟨h4, h⟩ | ⟨h4, h⟩
 refine zi (zs (zr ?_))
 refine zU (zl (zn (zq (zt ?_))))
 cases h
 exact zT Tryz.results15
 refine zj (zk (zn (zs (zr ?_))))
 refine zU ?_
 obtain ⟨r5, h6, h⟩ := zB h
 refine zc (drossref03_Wide_con x1 (IntKind.i64.wrap (Int.tmod x1.Attrs 6)) _ h6) ?_
 refine zU (zl (zn (zq ?_)))
 cases h
 exact zT Tryz.results15
end Go.Proofs.YtlaodgbkpmdhoaaGreatDoor
set_option linter.unusedVariables false
set_option linter.unusedSimpArgs false
namespace Go.Proofs.YtlaodgbkpmdhoaaGreatDoor
open Go Go.Ab
set_option maxHeartbeats 4000000 in
theorem drosslaw18_together_con (t1 : Table) (l2 : List Denial) (r3 : List (List Int) × Bool) (h : drosslaw18_together t1 l2 = some r3) : Con False Tryz.prog 20 [(encTable t1), (.slc (List.map encDenial l2))] (.tup [(.slc (List.map (encL (PV.int .i64)) r3.1)), (.bool r3.2)]) := by
 refine zP Tryz.call20 Tryz.func20 rfl Tryz.ntmps20 fun X w hT => ?_
 simp only [drosslaw18_together] at h
 refine zs (zr ?_)
 refine zU (zl (zn (zs (zr ?_))))
 refine zU (zl (zn (zs (zs (zr ?_)))))
 refine zU (zl (zn (zb ?_)))
 obtain ⟨o4, h5, h⟩ := zB h
 refine zO (fun (s : List (List Int) × Int) => ⟨[(2, .loc 2 1 0 0), (6, .own 230006 1 0 s.1.length), (13, .p (.slc (List.map encDenial l2))), (14, .p (.int .i64 (l2.length : Int))), (15, .p (.int .i64 s.2))], [(2, .arr 41 3 1 [.p (encTable t1)]), (230006, .arr 57 1 1 (List.map AV.p (List.map (encL (PV.int .i64)) s.1)))]⟩) (fun (o : (List (List Int)) ⊕ (List (List Int) × Bool)) => match o with | .inl o6 => tE (cX Tryz.f20 X w False hT) (.exit 0) ⟨[(6, .own 230006 1 0 o6.length)], [(230006, .arr 57 1 1 (List.map AV.p (List.map (encL (PV.int .i64)) o6)))]⟩ | .inr o7 => tR Tryz.prog Tryz.f20 (.tup [(.slc (List.map (encL (PV.int .i64)) o7.1)), (.bool o7.2)])) h5 ?_ ?_
 clear h h5
 intro s x h
 obtain ⟨o8, t9⟩ := s
 simp only [drosslaw18_together_l22] at h
 dsimp only
 refine zs (zr ?_)
 refine zU (zl (zn (zs ?_)))
 rcases zI h with ⟨h10, h⟩ | ⟨h10, h⟩
 refine zi (zk (zn (zs (zb (zs (zr ?_))))))
 obtain ⟨x11, h12, h12a, h12b, h⟩ := zX h
 refine zU (zl (zn (zs (zr ?_))))
 refine zU ?_
 obtain ⟨r13, h14, h⟩ := zB h
 refine zc (denial_Violations_con t1 x11 _ h14) ?_
 refine zU (zl (zn (zs (zs (zr ?_)))))
 refine zU (zl (zn ?_))
 rcases zI h with ⟨h15, h⟩ | ⟨h15, h⟩
 refine zi (zs (zr ?_))
 refine zU (zl (zn (zq (zt (yr (zt ?_))))))
 cases h
 exact ⟨rfl, zT Tryz.results20⟩
 refine zj (zk (zn (zs (zr ?_))))
 refine zU (zl (zn (zb ?_)))
 obtain ⟨o16, h17, h⟩ := zB h
 refine zO (fun (s : List (List Int) × Int) => ⟨[(2, .loc 2 1 0 0), (6, .own 230006 1 0 s.1.length), (13, .p (.slc (List.map encDenial l2))), (14, .p (.int .i64 (l2.length : Int))), (15, .p (.int .i64 t9)), (27, .p (.slc (List.map (encL (PV.int .i64)) r13.1))), (28, .p (.int .i64 (r13.1.length : Int))), (29, .p (.int .i64 s.2))], [(2, .arr 41 3 1 [.p (encTable t1)]), (230006, .arr 57 1 1 (List.map AV.p (List.map (encL (PV.int .i64)) s.1)))]⟩) (fun (o18 : List (List Int)) => tE (cX Tryz.f20 X w False hT) (.exit 2) ⟨[(2, .loc 2 1 0 0), (6, .own 230006 1 0 o18.length), (13, .p (.slc (List.map encDenial l2))), (14, .p (.int .i64 (l2.length : Int))), (15, .p (.int .i64 t9))], [(2, .arr 41 3 1 [.p (encTable t1)]), (230006, .arr 57 1 1 (List.map AV.p (List.map (encL (PV.int .i64)) o18)))]⟩) h17 ?_ ?_
 clear h h10 h12 h12a h12b h14 h15 h17
 intro s x h
 obtain ⟨o19, t20⟩ := s
 simp only [drosslaw18_together_l21] at h
 dsimp only
 refine zs (zr ?_)
 refine zU (zl (zn (zs ?_)))
 rcases zI h with ⟨h21, h⟩ | ⟨h21, h⟩
 have h21T := eq_true h21
 refine zi (zk (zn (zs (zb (zs (zr ?_))))))
 obtain ⟨x22, h23, h23a, h23b, h⟩ := zX h
 refine zU (zl (zn (zr ?_)))
 refine zU ?_
 refine zM ⟨[(2, .loc 2 1 0 0), (13, .p (.slc (List.map encDenial l2))), (14, .p (.int .i64 (l2.length : Int))), (15, .p (.int .i64 t9)), (27, .p (.slc (List.map (encL (PV.int .i64)) r13.1))), (28, .p (.int .i64 (r13.1.length : Int))), (29, .p (.int .i64 t20)), (33, .own 230006 1 0 o19.length), (34, .p (.slc (List.map (PV.int .i64) x22)))], [(2, .arr 41 3 1 [.p (encTable t1)]), (230006, .arr 57 1 1 (List.map AV.p (List.map (encL (PV.int .i64)) o19)))]⟩ ?_
 refine AL_inline (avs := [.own 230006 1 0 o19.length, .p (.slc (List.map (PV.int .i64) x22))]) 39 rfl (guard_none rfl) rfl Tryz.func46 rfl Tryz.call46 Tryz.ntmps46 (by simp) (by simp only [go_sem, seval, h21T]; all_goals rfl) ?_
 intro i24 w25 h26
 show AWp _ _ _ ⟨[(0, .own 230006 1 0 o19.length), (1, .p (.slc (List.map (PV.int .i64) x22)))], [(2, .arr 41 3 1 [.p (encTable t1)]), (230006, .arr 57 1 1 (List.map AV.p (List.map (encL (PV.int .i64)) o19)))]⟩
 refine zs (zr ?_)
 refine zU (zl (zn (zs (zs (zr ?_)))))
 refine zU (zl (zn (zb ?_)))
 obtain ⟨o27, h28, h⟩ := zB h
 refine zO (fun (s : Int) => ⟨[(0, .own 230006 1 0 o19.length), (1, .p (.slc (List.map (PV.int .i64) x22))), (5, .p (.int .i64 s))], [(2, .arr 41 3 1 [.p (encTable t1)]), (230006, .arr 57 1 1 (List.map AV.p (List.map (encL (PV.int .i64)) o19)))]⟩) (fun (o : (Unit) ⊕ (Unit)) => match o with | .inl o29 => tE ⟨Tryz.prog, 70, 39, X, [(2, .arr 41 3 1 [.p (encTable t1)]), (230006, .arr 57 1 1 (List.map AV.p (List.map (encL (PV.int .i64)) o19)))], i24, w25, False, h26⟩ (.exit 0) ⟨[(0, .own 230006 1 0 o19.length), (1, .p (.slc (List.map (PV.int .i64) x22)))], [(2, .arr 41 3 1 [.p (encTable t1)]), (230006, .arr 57 1 1 (List.map AV.p (List.map (encL (PV.int .i64)) o19)))]⟩ | .inr o30 => tE ⟨Tryz.prog, 70, 39, X, [(2, .arr 41 3 1 [.p (encTable t1)]), (230006, .arr 57 1 1 (List.map AV.p (List.map (encL (PV.int .i64)) o19)))], i24, w25, False, h26⟩ .ret ⟨[(4, .own 230006 1 0 o19.length)], [(2, .arr 41 3 1 [.p (encTable t1)]), (230006, .arr 57 1 1 (List.map AV.p (List.map (encL (PV.int .i64)) o19)))]⟩) h28 ?_ ?_
 clear h h21 h21T h23 h23a h23b h28
 intro i31 x h
 simp only [drosslaw18_together_l19] at h
 refine zs (zs (zr ?_))
 refine zU (zl (zn ?_))
 rcases zI h with ⟨h32, h⟩ | ⟨h32, h⟩
 refine zi (zk (zn (zs (zb (zs (zr ?_))))))
 obtain ⟨x33, h34, h34a, h34b, h⟩ := zX h
 refine zU ?_
 obtain ⟨r35, h36, h⟩ := zB h
 refine zc (drossref18_Before_con x33 x22 _ h36) ?_
 refine zU ?_
 rcases zI h with ⟨h37, h⟩ | ⟨h37, h⟩
 refine zw 20 false ?_
 refine zh ?_
 refine zU (zl (zn ?_))
 refine zj (zk (yn (zn (zr ?_))))
 refine zU (zl ?_)
 cases h
 exact ⟨rfl, zE⟩
 refine zw 20 true ?_
 refine zg ?_
 refine zg ?_
 refine zg ?_
 refine zg ?_
 refine zg ?_
 obtain ⟨r38, h39, h⟩ := zB h
 refine zc (drossref18_Before_con x22 x33 _ h39) ?_
 refine zg ?_
 refine zU (zl (zn ?_))
 rcases zI h with ⟨h40, h⟩ | ⟨h40, h⟩
 refine zj (zk (yn (zn (zr ?_))))
 refine zU (zl ?_)
 cases h
 exact ⟨rfl, zE⟩
 refine zi (zs (zr ?_))
 refine zU (zl (zn (zq (yr (zt ?_)))))
 cases h
 exact ⟨rfl, zE⟩
 refine zj (zx (ze ?_))
 cases h
 exact ⟨rfl, zE⟩
 rcases o27 with ⟨⟩ | ⟨⟩
 try simp only at h
 refine zA (yh (zn (zs (zr ?_))))
 obtain ⟨h41, h⟩ := ite_some h
 refine zU (zl (zn (zs (zs (zr ?_)))))
 refine zU (zl (zn (zb ?_)))
 obtain ⟨l42, h43, h⟩ := zB h
 refine zO (fun (s : List (List Int) × Int) => ⟨[(0, .own 230006 2 0 s.1.length), (6, .p (.int .i64 s.2))], [(2, .arr 41 3 1 [.p (encTable t1)]), (230006, .arr 57 1 2 (List.map AV.p (List.map (encL (PV.int .i64)) s.1)))]⟩) (fun (o44 : List (List Int)) => tE ⟨Tryz.prog, 70, 39, X, [(2, .arr 41 3 1 [.p (encTable t1)]), (230006, .arr 57 1 1 (List.map AV.p (List.map (encL (PV.int .i64)) o19)))], i24, w25, False, h26⟩ (.exit 2) ⟨[(0, .own 230006 2 0 o44.length)], [(2, .arr 41 3 1 [.p (encTable t1)]), (230006, .arr 57 1 2 (List.map AV.p (List.map (encL (PV.int .i64)) o44)))]⟩) h43 ?_ ?_
 clear h h21 h21T h23 h23a h23b h28 h41 h43
 intro s x h
 obtain ⟨l45, k46⟩ := s
 simp only [drosslaw18_together_l20] at h
 dsimp only
 refine zs (zs (zd ?_))
 refine yU ?_
 rcases zI h with ⟨h47, h⟩ | ⟨h47, h⟩
 refine yw 39 true ?_
 refine yg ?_
 refine yg ?_
 obtain ⟨x48, h49, h49a, h49b, h⟩ := zX h
 refine yg ?_
 refine yg ?_
 refine yg ?_
 refine yg ?_
 refine yg ?_
 obtain ⟨x50, h51, h51a, h51b, h⟩ := zX h
 refine yg ?_
 refine yg ?_
 obtain ⟨r52, h53, h⟩ := zB h
 refine yc (drossref18_Before_con x48 x50 _ h53) ?_
 refine yU ?_
 refine yd (zn ?_)
 rcases zI h with ⟨h54, h⟩ | ⟨h54, h⟩
 refine zi (zk (zn (zs (zb (zd ?_)))))
 obtain ⟨x55, h56, h56a, h56b, h⟩ := zX h
 have h56B := eq_true (by simpa only [List.length_set] using h56b)
 refine yU ?_
 refine yd (yn (zn (zr ?_)))
 refine zU (zl ?_)
 cases h
 exact ⟨rfl, zE⟩
 refine zj (zx (ze ?_))
 cases h
 exact ⟨rfl, zE⟩
 refine yw 39 false ?_
 refine yk ?_
 refine yU ?_
 refine yd (zn ?_)
 refine zj (zx (ze ?_))
 cases h
 exact ⟨rfl, zE⟩
 try simp only at h
 refine zA (yh (zn (zs (zr ?_))))
 refine zU (zl (zn (zq ?_)))
 refine inlQ_ret (by simp only [Tryz.results46]; simp only [go_sem, seval, h21T]; exact rfl) ?_
 refine zU (zl (yn (zn (zr ?_))))
 refine zU (zl ?_)
 cases h
 exact ⟨rfl, zE⟩
 try simp only at h
 refine zA (yr (zt ?_))
 refine inlQ_ret (by simp only [Tryz.results46]; simp only [go_sem, seval, h21T]; exact rfl) ?_
 refine zU (zl (yn (zn (zr ?_))))
 refine zU (zl ?_)
 cases h
 exact ⟨rfl, zE⟩
 have h21T := eq_false h21
 refine zj (zx (ze ?_))
 cases h
 exact ⟨rfl, zE⟩
 try simp only at h
 refine zA (yh (yn (zn (zr ?_))))
 refine zU (zl ?_)
 cases h
 exact ⟨rfl, zE⟩
 refine zj (zx (ze ?_))
 cases h
 exact ⟨rfl, zE⟩
 rcases o4 with o57 | r58
 try simp only at h
 refine zA (yh (zn (zs (zr ?_))))
 refine zU (zl (zn (zq ?_)))
 cases h
 exact zT Tryz.results20
 try simp only at h
 refine zZ fun s hq => ?_
 refine yr (zt ?_)
 cases h
 exact hq
end Go.Proofs.YtlaodgbkpmdhoaaGreatDoor
set_option linter.unusedVariables false
set_option linter.unusedSimpArgs false
namespace Go.Proofs.YtlaodgbkpmdhoaaGreatDoor
open Go Go.Ab
set_option maxHeartbeats 4000000 in
theorem slices_IndexFunc_Cell_con {D : Prop} (s1 : List Cell) (f2 : Cell → Option (Bool)) (f2_k : FuncId) (f2_cs : List PV) (f2_h : ∀ (y3 : Cell) (r4 : Bool), f2 y3 = some r4 → Con D Tryz.prog f2_k ((encCell y3) :: f2_cs) (.bool r4)) (r5 : Int) (h : slices_IndexFunc_Cell s1 f2 = some r5) : Con D Tryz.prog 169 [(.slc (List.map encCell s1)), .func (.func f2_k) f2_cs] (.int .i64 r5) := by
 refine zP Tryz.call169 Tryz.func169 rfl Tryz.ntmps169 fun X w hT => ?_
 simp only [slices_IndexFunc_Cell] at h
 refine zs (zr ?_)
 refine zU (zl (zn (zs (zs (zr ?_)))))
 refine zU (zl (zn (zb ?_)))
 obtain ⟨o6, h7, h⟩ := zB h
 refine zO (fun (s : Int) => ⟨[(0, .p (.slc (List.map encCell s1))), (1, .p (.func (.func f2_k) f2_cs)), (7, .p (.int .i64 (s1.length : Int))), (8, .p (.int .i64 s))], []⟩) (fun (o : (Unit) ⊕ (Int)) => match o with | .inl o8 => tE (cX Tryz.f169 X w D hT) (.exit 0) ⟨[], []⟩ | .inr o9 => tR Tryz.prog Tryz.f169 (.int .i64 o9)) h7 ?_ ?_
 clear h h7
 intro t10 x h
 simp only [slices_IndexFunc_Cell_l1] at h
 refine zs (zr ?_)
 refine zU (zl (zn (zs ?_)))
 rcases zI h with ⟨h11, h⟩ | ⟨h11, h⟩
 refine zi (zk (zn (zs (zb (zs (zr ?_))))))
 refine zU (zl (zn (zs (zr ?_))))
 obtain ⟨x12, h13, h13a, h13b, h⟩ := zX h
 refine zU ?_
 obtain ⟨r14, h15, h⟩ := zB h
 refine zc (f2_h x12 _ h15) ?_
 refine zl (zn ?_)
 rcases zI h with ⟨h16, h⟩ | ⟨h16, h⟩
 refine zi (zs (zr ?_))
 refine zU (zl (zn (zq (yr (zt ?_)))))
 cases h
 exact ⟨rfl, zT Tryz.results169⟩
 refine zj (zk (yn (zn (zr ?_))))
 refine zU (zl ?_)
 cases h
 exact ⟨rfl, zE⟩
 refine zj (zx (ze ?_))
 cases h
 exact ⟨rfl, zE⟩
 rcases o6 with ⟨⟩ | r17
 try simp only at h
 refine zA (yh (zn (zs (zr ?_))))
 refine zU (zl (zn (zq ?_)))
 cases h
 exact zT Tryz.results169
 try simp only at h
 refine zZ fun s hq => ?_
 refine yr (zt ?_)
 cases h
 exact hq
end Go.Proofs.YtlaodgbkpmdhoaaGreatDoor
set_option linter.unusedVariables false
set_option linter.unusedSimpArgs false
namespace Go.Proofs.YtlaodgbkpmdhoaaGreatDoor
open Go Go.Ab
set_option maxHeartbeats 4000000 in
theorem slices_ContainsFunc_Cell_con {D : Prop} (s1 : List Cell) (f2 : Cell → Option (Bool)) (f2_k : FuncId) (f2_cs : List PV) (f2_h : ∀ (y3 : Cell) (r4 : Bool), f2 y3 = some r4 → Con D Tryz.prog f2_k ((encCell y3) :: f2_cs) (.bool r4)) (r5 : Bool) (h : slices_ContainsFunc_Cell s1 f2 = some r5) : Con D Tryz.prog 135 [(.slc (List.map encCell s1)), .func (.func f2_k) f2_cs] (.bool r5) := by
 refine zP Tryz.call135 Tryz.func135 rfl Tryz.ntmps135 fun X w hT => ?_
 simp only [slices_ContainsFunc_Cell] at h
 refine zs (zr ?_)
 refine zU (zl (zn (zs (zr ?_))))
 refine zU ?_
 obtain ⟨r6, h7, h⟩ := zB h
 refine zc (slices_IndexFunc_Cell_con s1 f2 f2_k f2_cs f2_h _ h7) ?_
 refine zU (zl (zn (zq ?_)))
 cases h
 exact zT Tryz.results135
end Go.Proofs.YtlaodgbkpmdhoaaGreatDoor
set_option linter.unusedVariables false
set_option linter.unusedSimpArgs false
namespace Go.Proofs.YtlaodgbkpmdhoaaGreatDoor
open Go Go.Ab
set_option maxRecDepth 20000 in
set_option maxHeartbeats 4000000 in
theorem conditional_Valid_1_con {D : Prop} (p1 : Cell) (r2 : Bool) (h : conditional_Valid_1 p1 = some r2) : Con D Tryz.prog 136 [(encCell p1)] (.bool r2) := by
 refine zP Tryz.call136 Tryz.func136 rfl Tryz.ntmps136 fun X w hT => ?_
 simp only [conditional_Valid_1] at h
 refine zs (zr ?_)
 refine zU (zl (zn (zs (zr ?_))))
 refine zU ?_
 rcases zI h with ⟨h3, h⟩ | ⟨h3, h⟩
 refine zw 5 true ?_
 refine zg ?_
 refine zg ?_
 refine zg ?_
 refine zg ?_
 refine zU ?_
 rcases zI h with ⟨h4, h⟩ | ⟨h4, h⟩
 replace h := h.symm
 refine zw 11 false ?_
 refine zg ?_
 refine zg ?_
 refine zg ?_
 refine zg ?_
 refine zw 15 false ?_
 refine zh ?_
 refine zg ?_
 refine zU (zl (zn (zq ?_)))
 cases h
 exact zT Tryz.results136
 refine zw 11 true ?_
 refine zh ?_
 refine zU (zl (zn (zq ?_)))
 cases h
 exact zT Tryz.results136
 refine zw 5 false ?_
 refine zh ?_
 refine zU ?_
 refine zg ?_
 refine zg ?_
 refine zg ?_
 refine zg ?_
 refine zw 15 true ?_
 refine zg ?_
 refine zg ?_
 obtain ⟨r5, h6, h⟩ := zB h
 replace h := h.symm
 refine zc (value_Valid_con p1.Value _ h6) ?_
 refine zg ?_
 refine zg ?_
 refine zU (zl (zn (zq ?_)))
 cases h
 exact zT Tryz.results136
end Go.Proofs.YtlaodgbkpmdhoaaGreatDoor
set_option linter.unusedVariables false
set_option linter.unusedSimpArgs false
namespace Go.Proofs.YtlaodgbkpmdhoaaGreatDoor
open Go Go.Ab
set_option maxRecDepth 20000 in
set_option maxHeartbeats 4000000 in
theorem conditional_Valid_con {D : Prop} (n1 : Int) (c2 : CFD) (r3 : Bool) (h : conditional_Valid n1 c2 = some r3) : Con D Tryz.prog 98 [(.int .i64 n1), (encCFD c2)] (.bool r3) := by
 refine zP Tryz.call98 Tryz.func98 rfl Tryz.ntmps98 fun X w hT => ?_
 simp only [conditional_Valid] at h
 refine zs (zr ?_)
 refine zU (zl (zn (zs (zs (zr ?_)))))
 refine zU ?_
 rcases zI h with ⟨h4, h⟩ | ⟨h4, h⟩
 refine zw 10 true ?_
 refine zh ?_
 refine zU ?_
 refine zh ?_
 refine zU ?_
 refine zh ?_
 refine zU ?_
 refine zh ?_
 refine zU (zl (zn ?_))
 refine zi (zs (zr ?_))
 refine zU (zl (zn (zq (zt ?_))))
 cases h
 exact zT Tryz.results98
 refine zw 10 false ?_
 refine zg ?_
 refine zg ?_
 refine zU ?_
 rcases zI h with ⟨h5, h⟩ | ⟨h5, h⟩
 refine zw 14 true ?_
 refine zh ?_
 refine zU ?_
 refine zh ?_
 refine zU ?_
 refine zh ?_
 refine zU (zl (zn ?_))
 refine zi (zs (zr ?_))
 refine zU (zl (zn (zq (zt ?_))))
 cases h
 exact zT Tryz.results98
 refine zw 14 false ?_
 refine zg ?_
 refine zg ?_
 refine zg ?_
 refine zU ?_
 rcases zI h with ⟨h6, h⟩ | ⟨h6, h⟩
 refine zw 19 true ?_
 refine zh ?_
 refine zU ?_
 refine zh ?_
 refine zU (zl (zn ?_))
 refine zi (zs (zr ?_))
 refine zU (zl (zn (zq (zt ?_))))
 cases h
 exact zT Tryz.results98
 refine zw 19 false ?_
 refine zg ?_
 refine zg ?_
 refine zg ?_
 refine zg ?_
 refine zU ?_
 rcases zI h with ⟨h7, h⟩ | ⟨h7, h⟩
 refine zw 25 true ?_
 refine zh ?_
 refine zU (zl (zn ?_))
 refine zi (zs (zr ?_))
 refine zU (zl (zn (zq (zt ?_))))
 cases h
 exact zT Tryz.results98
 refine zw 25 false ?_
 refine zg ?_
 refine zg ?_
 refine zg ?_
 refine zg ?_
 refine zg ?_
 refine zg ?_
 refine zg ?_
 refine zg ?_
 refine zU (zl (zn ?_))
 rcases zI h with ⟨h8, h⟩ | ⟨h8, h⟩
 refine zi (zs (zr ?_))
 refine zU (zl (zn (zq (zt ?_))))
 cases h
 exact zT Tryz.results98
 refine zj (zk (zn (zs (zr ?_))))
 refine zU (zl (zn (zs (zs (zr ?_)))))
 refine zU (zl (zn (zb ?_)))
 obtain ⟨o9, h10, h⟩ := zB h
 refine zO (fun (s : Int × Int) => ⟨[(0, .p (.int .i64 n1)), (3, .loc 3 1 0 0), (5, .p (.int .i64 s.1)), (36, .p (.slc (List.map (PV.int .i64) c2.Lhs))), (37, .p (.int .i64 (c2.Lhs.length : Int))), (38, .p (.int .i64 s.2))], [(3, .arr 91 3 1 [.p (encCFD c2)])]⟩) (fun (o : (Unit) ⊕ (Bool)) => match o with | .inl o11 => tE (cX Tryz.f98 X w D hT) (.exit 0) ⟨[(3, .loc 3 1 0 0)], [(3, .arr 91 3 1 [.p (encCFD c2)])]⟩ | .inr o12 => tR Tryz.prog Tryz.f98 (.bool o12)) h10 ?_ ?_
 clear h h4 h5 h6 h7 h8 h10
 intro s x h
 obtain ⟨b13, t14⟩ := s
 simp only [conditional_Valid_l1] at h
 dsimp only
 refine zs (zr ?_)
 refine zU (zl (zn (zs ?_)))
 rcases zI h with ⟨h15, h⟩ | ⟨h15, h⟩
 refine zi (zk (zn (zs (zb (zs (zr ?_))))))
 obtain ⟨x16, h17, h17a, h17b, h⟩ := zX h
 refine zU (zl (zn (zs (zs (zr ?_)))))
 refine zU ?_
 rcases zI h with ⟨h18, h⟩ | ⟨h18, h⟩
 refine zw 45 true ?_
 refine zh ?_
 refine zU ?_
 refine zh ?_
 refine zU (zl (zn ?_))
 refine zi (zs (zr ?_))
 refine zU (zl (zn (zq (zt (yr (zt ?_))))))
 cases h
 exact ⟨rfl, zT Tryz.results98⟩
 refine zw 45 false ?_
 refine zg ?_
 refine zg ?_
 refine zg ?_
 refine zU ?_
 rcases zI h with ⟨h19, h⟩ | ⟨h19, h⟩
 refine zw 50 true ?_
 refine zh ?_
 refine zU (zl (zn ?_))
 refine zi (zs (zr ?_))
 refine zU (zl (zn (zq (zt (yr (zt ?_))))))
 cases h
 exact ⟨rfl, zT Tryz.results98⟩
 refine zw 50 false ?_
 refine zg ?_
 refine zg ?_
 refine zg ?_
 refine zg ?_
 refine zU (zl (zn ?_))
 rcases zI h with ⟨h20, h⟩ | ⟨h20, h⟩
 refine zi (zs (zr ?_))
 refine zU (zl (zn (zq (zt (yr (zt ?_))))))
 cases h
 exact ⟨rfl, zT Tryz.results98⟩
 refine zj (zk (zn (zr ?_)))
 refine zU (zl (yn (zn (zr ?_))))
 refine zU (zl ?_)
 cases h
 exact ⟨rfl, zE⟩
 refine zj (zx (ze ?_))
 cases h
 exact ⟨rfl, zE⟩
 rcases o9 with ⟨⟩ | r21
 try simp only at h
 refine zA (yh (zn (zs (zr ?_))))
 refine zU ?_
 obtain ⟨r22, h23, h⟩ := zB h
 refine zc (slices_ContainsFunc_Cell_con c2.Pattern (fun (y24 : Cell) => conditional_Valid_1 y24) 136 [] (fun y24 r h => conditional_Valid_1_con y24 r h) _ h23) ?_
 refine zU (zl (zn (zq ?_)))
 cases h
 exact zT Tryz.results98
 try simp only at h
 refine zZ fun s hq => ?_
 refine yr (zt ?_)
 cases h
 exact hq
end Go.Proofs.YtlaodgbkpmdhoaaGreatDoor
set_option linter.unusedVariables false
set_option linter.unusedSimpArgs false
namespace Go.Proofs.YtlaodgbkpmdhoaaGreatDoor
open Go Go.Ab
set_option maxHeartbeats 4000000 in
theorem denial_is_con {D : Prop} (o1 : Int) (a2 : Int) (v3 : Value) (r4 : Atom) (h : denial_is o1 a2 v3 = some r4) : Con D Tryz.prog 99 [(.int .i64 o1), (.int .i64 a2), (encValue v3)] (encAtom r4) := by
 refine zP Tryz.call99 Tryz.func99 rfl Tryz.ntmps99 fun X w hT => ?_
 simp only [denial_is] at h
 refine zs (zr ?_)
 refine zU (zl (zn (zs (zd ?_))))
 refine yU ?_
 obtain ⟨r5, h6, h⟩ := zB h
 refine yc (denial_of_con 1 a2 _ h6) ?_
 refine yU ?_
 refine yd (zn (zq ?_))
 cases h
 exact zT Tryz.results99
end Go.Proofs.YtlaodgbkpmdhoaaGreatDoor
set_option linter.unusedVariables false
set_option linter.unusedSimpArgs false
namespace Go.Proofs.YtlaodgbkpmdhoaaGreatDoor
open Go Go.Ab
set_option maxRecDepth 20000 in
set_option maxHeartbeats 4000000 in
theorem denial_FromCFD_con {D : Prop} (n1 : Int) (c2 : CFD) (r3 : List Denial × Int) (h : denial_FromCFD n1 c2 = some r3) : Con D Tryz.prog 42 [(.int .i64 n1), (encCFD c2)] (.tup [(.slc (List.map encDenial r3.1)), (.int .i64 r3.2)]) := by
 refine zP Tryz.call42 Tryz.func42 rfl Tryz.ntmps42 fun X w hT => ?_
 simp only [denial_FromCFD] at h
 refine zs (zr ?_)
 refine zU (zl (zn (zs (zs (zr ?_)))))
 refine zU ?_
 obtain ⟨r4, h5, h⟩ := zB h
 refine zc (denial_inRange_con n1 _ h5) ?_
 refine zU ?_
 rcases zI h with ⟨h6, h⟩ | ⟨h6, h⟩
 refine zw 14 false ?_
 refine zg ?_
 refine zg ?_
 obtain ⟨r7, h8, h⟩ := zB h
 refine zc (conditional_Valid_con n1 c2 _ h8) ?_
 refine zg ?_
 refine zU (zl (zn ?_))
 rcases zI h with ⟨h9, h⟩ | ⟨h9, h⟩
 refine zj (zk (zn (zs (zr ?_))))
 refine zU (zl (zn (zs (zs (zr ?_)))))
 refine zU (zl (zn (zb ?_)))
 obtain ⟨o10, h11, h⟩ := zB h
 refine zO (fun (s : List Atom × List Atom × Int) => ⟨[(3, .loc 3 1 0 0), (6, .loc 6 1 0 0), (7, .loc 7 1 0 0), (23, .p (.slc (List.map (PV.int .i64) c2.Lhs))), (24, .p (.int .i64 (c2.Lhs.length : Int))), (25, .p (.int .i64 s.2.2))], [(3, .arr 91 3 1 [.p (encCFD c2)]), (6, .arr 24 2 1 [.agg [.p (.int .i64 1), .own 55 1 0 s.1.length]]), (7, .arr 24 2 1 [.agg [.p (.int .i64 2), .own 35 1 0 s.2.1.length]]), (35, .arr 31 11 1 (List.map AV.p (List.map encAtom s.2.1))), (55, .arr 31 11 1 (List.map AV.p (List.map encAtom s.1)))]⟩) (fun (o12 : List Atom × List Atom) => tE (cX Tryz.f42 X w D hT) (.exit 0) ⟨[(3, .loc 3 1 0 0), (6, .loc 6 1 0 0), (7, .loc 7 1 0 0)], [(3, .arr 91 3 1 [.p (encCFD c2)]), (6, .arr 24 2 1 [.agg [.p (.int .i64 1), .own 55 1 0 o12.1.length]]), (7, .arr 24 2 1 [.agg [.p (.int .i64 2), .own 35 1 0 o12.2.length]]), (35, .arr 31 11 1 (List.map AV.p (List.map encAtom o12.2))), (55, .arr 31 11 1 (List.map AV.p (List.map encAtom o12.1)))]⟩) h11 ?_ ?_
 clear h h5 h6 h8 h9 h11
 intro s x h
 obtain ⟨o13, t14, t15⟩ := s
 simp only [denial_FromCFD_l1] at h
 dsimp only
 refine zs (zr ?_)
 refine zU (zl (zn (zs ?_)))
 rcases zI h with ⟨h16, h⟩ | ⟨h16, h⟩
 refine zi (zk (zn (zs (zb (zs (zr ?_))))))
 obtain ⟨x17, h18, h18a, h18b, h⟩ := zX h
 refine zU (zl (zn (zs (zd ?_))))
 refine yU ?_
 obtain ⟨r19, h20, h⟩ := zB h
 refine yc (denial_both_con 1 x17 _ h20) ?_
 obtain ⟨h21, h⟩ := ite_some h
 refine yU ?_
 refine yd (zn (zs (zr ?_)))
 obtain ⟨x22, h23, h23a, h23b, h⟩ := zX h
 refine zU (zl (zn ?_))
 rcases zI h with ⟨h24, h⟩ | ⟨h24, h⟩
 refine zj (zk (yn (zn (zr ?_))))
 refine zU (zl ?_)
 cases h
 exact ⟨rfl, zE⟩
 refine zi (zs (zd ?_))
 refine yU ?_
 obtain ⟨r25, h26, h⟩ := zB h
 refine yc (denial_is_con 1 x17 x22.Value _ h26) ?_
 obtain ⟨h27, h⟩ := ite_some h
 refine yU ?_
 refine yd (zn (zd ?_))
 refine yU ?_
 obtain ⟨r28, h29, h⟩ := zB h
 refine yc (denial_is_con 1 x17 x22.Value _ h29) ?_
 obtain ⟨h30, h⟩ := ite_some h
 refine yU ?_
 refine yd (yn (zn (zr ?_)))
 refine zU (zl ?_)
 cases h
 exact ⟨rfl, zE⟩
 refine zj (zx (ze ?_))
 cases h
 exact ⟨rfl, zE⟩
 obtain ⟨o31, t32⟩ := o10
 try simp only at h
 refine zA (yh (zn (zs (zr ?_))))
 obtain ⟨x33, h34, h34a, h34b, h⟩ := zX h
 have h34N := nat_get h34
 refine zU (zl (zn (zs (zd ?_))))
 refine yU ?_
 obtain ⟨r35, h36, h⟩ := zB h
 refine yc (denial_both_con 2 c2.Rhs _ h36) ?_
 obtain ⟨h37, h⟩ := ite_some h
 refine yU ?_
 refine yd (zn (zs (zs (zr ?_))))
 refine zU (zl (zn ?_))
 rcases zI h with ⟨h38, h⟩ | ⟨h38, h⟩
 refine zi (zs (zr ?_))
 refine zU (zl (zn (zq (zt ?_))))
 cases h
 exact zT Tryz.results42
 refine zj (zk (zn (zs (zs (zr ?_)))))
 refine zU (zl (zn ?_))
 rcases zI h with ⟨h39, h⟩ | ⟨h39, h⟩
 refine zi (zs (zr ?_))
 refine zU (zl (zn (zq (zt ?_))))
 cases h
 exact zT Tryz.results42
 refine zj (zk (zn (zs (zd ?_))))
 refine yU ?_
 obtain ⟨r40, h41, h⟩ := zB h
 refine yc (denial_is_con 2 c2.Rhs x33.Value _ h41) ?_
 obtain ⟨h42, h⟩ := ite_some h
 refine yU ?_
 refine yd (zn (zs (zr ?_)))
 refine zU (zl (zn (zq ?_)))
 cases h
 exact zT Tryz.results42
 refine zi (zs (zr ?_))
 refine zU (zl (zn (zq (zt ?_))))
 cases h
 exact zT Tryz.results42
 refine zw 14 true ?_
 refine zh ?_
 refine zU (zl (zn ?_))
 refine zi (zs (zr ?_))
 refine zU (zl (zn (zq (zt ?_))))
 cases h
 exact zT Tryz.results42
end Go.Proofs.YtlaodgbkpmdhoaaGreatDoor
set_option linter.unusedVariables false
set_option linter.unusedSimpArgs false
namespace Go.Proofs.YtlaodgbkpmdhoaaGreatDoor
open Go Go.Ab
set_option maxHeartbeats 4000000 in
theorem drossref18_at_con {D : Prop} (v1 : Int) (a2 : Int) (r3 : Term) (h : drossref18_at v1 a2 = some r3) : Con D Tryz.prog 62 [(.int .i64 v1), (.int .i64 a2)] (encTerm r3) := by
 refine zP Tryz.call62 Tryz.func62 rfl Tryz.ntmps62 fun X w hT => ?_
 simp only [drossref18_at] at h
 refine zs (zr ?_)
 refine zU (zl (zn (zs (zr ?_))))
 refine zU (zl (zn (zq ?_)))
 cases h
 exact zT Tryz.results62
end Go.Proofs.YtlaodgbkpmdhoaaGreatDoor
set_option linter.unusedVariables false
set_option linter.unusedSimpArgs false
namespace Go.Proofs.YtlaodgbkpmdhoaaGreatDoor
open Go Go.Ab
set_option maxHeartbeats 4000000 in
theorem drossref18_equal_con {D : Prop} (a1 : Int) (r2 : Atom) (h : drossref18_equal a1 = some r2) : Con D Tryz.prog 61 [(.int .i64 a1)] (encAtom r2) := by
 refine zP Tryz.call61 Tryz.func61 rfl Tryz.ntmps61 fun X w hT => ?_
 simp only [drossref18_equal] at h
 refine zs (zr ?_)
 refine zU (zl (zn (zs (zr ?_))))
 refine zU ?_
 obtain ⟨r3, h4, h⟩ := zB h
 refine zc (drossref18_at_con 1 a1 _ h4) ?_
 refine zU ?_
 obtain ⟨r5, h6, h⟩ := zB h
 refine zc (drossref18_at_con 2 a1 _ h6) ?_
 refine zU (zl (zn (zq ?_)))
 cases h
 exact zT Tryz.results61
end Go.Proofs.YtlaodgbkpmdhoaaGreatDoor
set_option linter.unusedVariables false
set_option linter.unusedSimpArgs false
namespace Go.Proofs.YtlaodgbkpmdhoaaGreatDoor
open Go Go.Ab
set_option maxHeartbeats 4000000 in
theorem drossref18_range16_con {D : Prop} (n1 : Int) (r2 : Bool) (h : drossref18_range16 n1 = some r2) : Con D Tryz.prog 70 [(.int .i64 n1)] (.bool r2) := by
 refine zP Tryz.call70 Tryz.func70 rfl Tryz.ntmps70 fun X w hT => ?_
 simp only [drossref18_range16] at h
 refine zs (zr ?_)
 refine zU (zl (zn (zs (zr ?_))))
 refine zU ?_
 rcases zI h with ⟨h3, h⟩ | ⟨h3, h⟩
 replace h := h.symm
 refine zw 5 true ?_
 refine zg ?_
 refine zg ?_
 refine zU (zl (zn (zq ?_)))
 cases h
 exact zT Tryz.results70
 refine zw 5 false ?_
 refine zh ?_
 refine zU (zl (zn (zq ?_)))
 cases h
 exact zT Tryz.results70
end Go.Proofs.YtlaodgbkpmdhoaaGreatDoor
set_option linter.unusedVariables false
set_option linter.unusedSimpArgs false
namespace Go.Proofs.YtlaodgbkpmdhoaaGreatDoor
open Go Go.Ab
set_option maxHeartbeats 4000000 in
theorem drossref01_Valid_con {D : Prop} (v1 : Value) (r2 : Bool) (h : drossref01_Valid v1 = some r2) : Con D Tryz.prog 107 [(encValue v1)] (.bool r2) := by
 refine zP Tryz.call107 Tryz.func107 rfl Tryz.ntmps107 fun X w hT => ?_
 simp only [drossref01_Valid] at h
 refine zs (zr ?_)
 refine zU (zl (zn (zs (zs (zr ?_)))))
 refine zU (zl (zn (zb (zs (zr ?_)))))
 refine zU (zl (zn ?_))
 rcases zI h with ⟨h3, h⟩ | ⟨h3, h⟩
 refine zi (zs (zr ?_))
 refine zU ?_
 rcases zI h with ⟨h4, h⟩ | ⟨h4, h⟩
 replace h := h.symm
 refine zw 10 true ?_
 refine zg ?_
 refine zg ?_
 refine zg ?_
 refine zU (zl (zn (zq (yr (zt ?_)))))
 cases h
 exact zT Tryz.results107
 refine zw 10 false ?_
 refine zh ?_
 refine zU (zl (zn (zq (yr (zt ?_)))))
 cases h
 exact zT Tryz.results107
 refine zj (zs (zr ?_))
 refine zU (zl (zn ?_))
 rcases zI h with ⟨h5, h⟩ | ⟨h5, h⟩
 refine zi (zs (zr ?_))
 refine zU (zl (zn (zq (yr (zt ?_)))))
 cases h
 exact zT Tryz.results107
 refine zj (zs (zr ?_))
 refine zU (zl (zn ?_))
 rcases zI h with ⟨h6, h⟩ | ⟨h6, h⟩
 refine zi (zs (zr ?_))
 refine zU ?_
 rcases zI h with ⟨h7, h⟩ | ⟨h7, h⟩
 replace h := h.symm
 refine zw 25 true ?_
 refine zg ?_
 refine zg ?_
 refine zg ?_
 refine zg ?_
 refine zU (zl (zn (zq (yr (zt ?_)))))
 cases h
 exact zT Tryz.results107
 refine zw 25 false ?_
 refine zh ?_
 refine zU (zl (zn (zq (yr (zt ?_)))))
 cases h
 exact zT Tryz.results107
 refine zj (zk (yn (zn (zs (zr ?_)))))
 refine zU ?_
 rcases zI h with ⟨h8, h⟩ | ⟨h8, h⟩
 refine zw 34 true ?_
 refine zg ?_
 refine zg ?_
 refine zg ?_
 refine zU ?_
 rcases zI h with ⟨h9, h⟩ | ⟨h9, h⟩
 replace h := h.symm
 refine zw 39 true ?_
 refine zg ?_
 refine zg ?_
 refine zg ?_
 refine zU (zl (zn (zq ?_)))
 cases h
 exact zT Tryz.results107
 refine zw 39 false ?_
 refine zh ?_
 refine zU (zl (zn (zq ?_)))
 cases h
 exact zT Tryz.results107
 refine zw 34 false ?_
 refine zh ?_
 refine zU ?_
 refine zh ?_
 refine zU (zl (zn (zq ?_)))
 cases h
 exact zT Tryz.results107
end Go.Proofs.YtlaodgbkpmdhoaaGreatDoor
set_option linter.unusedVariables false
set_option linter.unusedSimpArgs false
namespace Go.Proofs.YtlaodgbkpmdhoaaGreatDoor
open Go Go.Ab
set_option maxRecDepth 20000 in
set_option maxHeartbeats 4000000 in
theorem drossref16_Valid_con {D : Prop} (n1 : Int) (c2 : CFD) (r3 : Bool) (h : drossref16_Valid n1 c2 = some r3) : Con D Tryz.prog 100 [(.int .i64 n1), (encCFD c2)] (.bool r3) := by
 refine zP Tryz.call100 Tryz.func100 rfl Tryz.ntmps100 fun X w hT => ?_
 simp only [drossref16_Valid] at h
 refine zs (zr ?_)
 refine zU (zl (zn (zs (zs (zr ?_)))))
 refine zU ?_
 rcases zI h with ⟨h4, h⟩ | ⟨h4, h⟩
 refine zw 10 true ?_
 refine zh ?_
 refine zU ?_
 refine zh ?_
 refine zU ?_
 refine zh ?_
 refine zU ?_
 refine zh ?_
 refine zU (zl (zn ?_))
 refine zi (zs (zr ?_))
 refine zU (zl (zn (zq (zt ?_))))
 cases h
 exact zT Tryz.results100
 refine zw 10 false ?_
 refine zg ?_
 refine zg ?_
 refine zU ?_
 rcases zI h with ⟨h5, h⟩ | ⟨h5, h⟩
 refine zw 14 true ?_
 refine zh ?_
 refine zU ?_
 refine zh ?_
 refine zU ?_
 refine zh ?_
 refine zU (zl (zn ?_))
 refine zi (zs (zr ?_))
 refine zU (zl (zn (zq (zt ?_))))
 cases h
 exact zT Tryz.results100
 refine zw 14 false ?_
 refine zg ?_
 refine zg ?_
 refine zg ?_
 refine zg ?_
 refine zg ?_
 refine zg ?_
 refine zg ?_
 refine zg ?_
 refine zU ?_
 rcases zI h with ⟨h6, h⟩ | ⟨h6, h⟩
 refine zw 24 true ?_
 refine zh ?_
 refine zU ?_
 refine zh ?_
 refine zU (zl (zn ?_))
 refine zi (zs (zr ?_))
 refine zU (zl (zn (zq (zt ?_))))
 cases h
 exact zT Tryz.results100
 refine zw 24 false ?_
 refine zg ?_
 refine zg ?_
 refine zg ?_
 refine zU ?_
 rcases zI h with ⟨h7, h⟩ | ⟨h7, h⟩
 refine zw 29 true ?_
 refine zh ?_
 refine zU (zl (zn ?_))
 refine zi (zs (zr ?_))
 refine zU (zl (zn (zq (zt ?_))))
 cases h
 exact zT Tryz.results100
 refine zw 29 false ?_
 refine zg ?_
 refine zg ?_
 refine zg ?_
 refine zg ?_
 refine zU (zl (zn ?_))
 rcases zI h with ⟨h8, h⟩ | ⟨h8, h⟩
 refine zi (zs (zr ?_))
 refine zU (zl (zn (zq (zt ?_))))
 cases h
 exact zT Tryz.results100
 refine zj (zk (zn (zs (zs (zr ?_)))))
 refine zU (zl (zn (zb ?_)))
 obtain ⟨o9, h10, h⟩ := zB h
 refine zO (fun (s : Int) => ⟨[(0, .p (.int .i64 n1)), (3, .loc 3 1 0 0), (5, .p (.int .i64 s))], [(3, .arr 91 3 1 [.p (encCFD c2)])]⟩) (fun (o : (Unit) ⊕ (Bool)) => match o with | .inl o11 => tE (cX Tryz.f100 X w D hT) (.exit 0) ⟨[(3, .loc 3 1 0 0)], [(3, .arr 91 3 1 [.p (encCFD c2)])]⟩ | .inr o12 => tR Tryz.prog Tryz.f100 (.bool o12)) h10 ?_ ?_
 clear h h4 h5 h6 h7 h8 h10
 intro i13 x h
 simp only [drossref16_Valid_l1] at h
 refine zs (zs (zr ?_))
 refine zU (zl (zn ?_))
 rcases zI h with ⟨h14, h⟩ | ⟨h14, h⟩
 refine zi (zk (zn (zs (zb (zs (zd ?_))))))
 obtain ⟨x15, h16, h16a, h16b, h⟩ := zX h
 refine yU ?_
 rcases zI h with ⟨h17, h⟩ | ⟨h17, h⟩
 refine yw 48 true ?_
 refine yk ?_
 refine yU ?_
 refine yk ?_
 refine yU ?_
 refine yk ?_
 refine yU ?_
 refine yd (zn ?_)
 refine zi (zs (zr ?_))
 refine zU (zl (zn (zq (yr (zt ?_)))))
 cases h
 exact ⟨rfl, zT Tryz.results100⟩
 refine yw 48 false ?_
 refine yg ?_
 refine yg ?_
 refine yg ?_
 refine yg ?_
 refine yg ?_
 refine yg ?_
 refine yg ?_
 refine yU ?_
 rcases zI h with ⟨h18, h⟩ | ⟨h18, h⟩
 refine yw 57 true ?_
 refine yk ?_
 refine yU ?_
 refine yk ?_
 refine yU ?_
 refine yd (zn ?_)
 refine zi (zs (zr ?_))
 refine zU (zl (zn (zq (yr (zt ?_)))))
 cases h
 exact ⟨rfl, zT Tryz.results100⟩
 refine yw 57 false ?_
 refine yg ?_
 refine yg ?_
 refine yg ?_
 refine yg ?_
 refine yg ?_
 refine yg ?_
 refine yg ?_
 refine yg ?_
 refine yU ?_
 rcases zI h with ⟨h19, h⟩ | ⟨h19, h⟩
 refine yw 67 true ?_
 refine yk ?_
 refine yU ?_
 refine yd (zn ?_)
 refine zi (zs (zr ?_))
 refine zU (zl (zn (zq (yr (zt ?_)))))
 cases h
 exact ⟨rfl, zT Tryz.results100⟩
 refine yw 67 false ?_
 refine yg ?_
 refine yg ?_
 refine yg ?_
 rcases zI h with ⟨h20, h⟩ | ⟨h20, h⟩
 refine yw 70 true ?_
 refine yg ?_
 refine yg ?_
 refine yg ?_
 refine yg ?_
 refine yg ?_
 refine yg ?_
 refine yg ?_
 refine yg ?_
 refine yg ?_
 obtain ⟨x21, h22, h22a, h22b, h⟩ := zX h
 refine yg ?_
 refine yg ?_
 refine yg ?_
 refine yg ?_
 refine yU ?_
 refine yd (zn ?_)
 rcases zI h with ⟨h23, h⟩ | ⟨h23, h⟩
 refine zi (zs (zr ?_))
 refine zU (zl (zn (zq (yr (zt ?_)))))
 cases h
 exact ⟨rfl, zT Tryz.results100⟩
 refine zj (zk (yn (zn (zr ?_))))
 refine zU (zl ?_)
 cases h
 exact ⟨rfl, zE⟩
 replace h := h.symm
 refine yw 70 false ?_
 refine yk ?_
 refine yg ?_
 refine yU ?_
 refine yd (zn ?_)
 refine zj (zk (yn (zn (zr ?_))))
 refine zU (zl ?_)
 cases h
 exact ⟨rfl, zE⟩
 refine zj (zx (ze ?_))
 cases h
 exact ⟨rfl, zE⟩
 rcases o9 with ⟨⟩ | r24
 try simp only at h
 refine zA (yh (zn (zs (zs (zr ?_)))))
 refine zU (zl (zn (zb ?_)))
 obtain ⟨o25, h26, h⟩ := zB h
 refine zO (fun (s : Int) => ⟨[(3, .loc 3 1 0 0), (6, .p (.int .i64 s))], [(3, .arr 91 3 1 [.p (encCFD c2)])]⟩) (fun (o : (Unit) ⊕ (Bool)) => match o with | .inl o27 => tE (cX Tryz.f100 X w D hT) (.exit 2) ⟨[], []⟩ | .inr o28 => tR Tryz.prog Tryz.f100 (.bool o28)) h26 ?_ ?_
 clear h h4 h5 h6 h7 h8 h10 h26
 intro i29 x h
 simp only [drossref16_Valid_l2] at h
 refine zs (zs (zr ?_))
 refine zU (zl (zn ?_))
 rcases zI h with ⟨h30, h⟩ | ⟨h30, h⟩
 refine zi (zk (zn (zs (zb (zs (zr ?_))))))
 obtain ⟨x31, h32, h32a, h32b, h⟩ := zX h
 refine zU (zl (zn (zs (zr ?_))))
 refine zU ?_
 rcases zI h with ⟨h33, h⟩ | ⟨h33, h⟩
 refine zw 99 true ?_
 refine zg ?_
 refine zg ?_
 refine zg ?_
 refine zg ?_
 refine zU ?_
 rcases zI h with ⟨h34, h⟩ | ⟨h34, h⟩
 refine zw 105 false ?_
 refine zg ?_
 refine zg ?_
 obtain ⟨r35, h36, h⟩ := zB h
 refine zc (drossref01_Valid_con x31.Value _ h36) ?_
 refine zg ?_
 refine zU (zl (zn ?_))
 rcases zI h with ⟨h37, h⟩ | ⟨h37, h⟩
 refine zj (zk (yn (zn (zr ?_))))
 refine zU (zl ?_)
 cases h
 exact ⟨rfl, zE⟩
 refine zi (zs (zr ?_))
 refine zU (zl (zn (zq (yr (zt ?_)))))
 cases h
 exact ⟨rfl, zT Tryz.results100⟩
 refine zw 105 true ?_
 refine zh ?_
 refine zU (zl (zn ?_))
 refine zi (zs (zr ?_))
 refine zU (zl (zn (zq (yr (zt ?_)))))
 cases h
 exact ⟨rfl, zT Tryz.results100⟩
 refine zw 99 false ?_
 refine zh ?_
 refine zU ?_
 refine zg ?_
 refine zg ?_
 obtain ⟨r38, h39, h⟩ := zB h
 refine zc (drossref01_Valid_con x31.Value _ h39) ?_
 refine zg ?_
 refine zU (zl (zn ?_))
 rcases zI h with ⟨h40, h⟩ | ⟨h40, h⟩
 refine zj (zk (yn (zn (zr ?_))))
 refine zU (zl ?_)
 cases h
 exact ⟨rfl, zE⟩
 refine zi (zs (zr ?_))
 refine zU (zl (zn (zq (yr (zt ?_)))))
 cases h
 exact ⟨rfl, zT Tryz.results100⟩
 refine zj (zx (ze ?_))
 cases h
 exact ⟨rfl, zE⟩
 rcases o25 with ⟨⟩ | r41
 try simp only at h
 refine zA (yh (zn (zs (zr ?_))))
 refine zU (zl (zn (zq ?_)))
 cases h
 exact zT Tryz.results100
 try simp only at h
 refine zZ fun s hq => ?_
 refine yr (zt ?_)
 cases h
 exact hq
 try simp only at h
 refine zZ fun s hq => ?_
 refine yr (zt ?_)
 cases h
 exact hq
end Go.Proofs.YtlaodgbkpmdhoaaGreatDoor
set_option linter.unusedVariables false
set_option linter.unusedSimpArgs false
namespace Go.Proofs.YtlaodgbkpmdhoaaGreatDoor
open Go Go.Ab
set_option maxRecDepth 20000 in
set_option maxHeartbeats 4000000 in
theorem drossref18_FromCFD_con {D : Prop} (n1 : Int) (c2 : CFD) (r3 : List Denial × Int) (h : drossref18_FromCFD n1 c2 = some r3) : Con D Tryz.prog 43 [(.int .i64 n1), (encCFD c2)] (.tup [(.slc (List.map encDenial r3.1)), (.int .i64 r3.2)]) := by
 refine zP Tryz.call43 Tryz.func43 rfl Tryz.ntmps43 fun X w hT => ?_
 simp only [drossref18_FromCFD] at h
 refine zs (zr ?_)
 refine zU (zl (zn (zs (zs (zr ?_)))))
 refine zU ?_
 obtain ⟨r4, h5, h⟩ := zB h
 refine zc (drossref18_range16_con n1 _ h5) ?_
 refine zU ?_
 rcases zI h with ⟨h6, h⟩ | ⟨h6, h⟩
 refine zw 14 false ?_
 refine zg ?_
 refine zg ?_
 obtain ⟨r7, h8, h⟩ := zB h
 refine zc (drossref16_Valid_con n1 c2 _ h8) ?_
 refine zg ?_
 refine zU (zl (zn ?_))
 rcases zI h with ⟨h9, h⟩ | ⟨h9, h⟩
 refine zj (zk (zn (zs (zr ?_))))
 refine zU (zl (zn (zs (zs (zr ?_)))))
 refine zU (zl (zn (zb ?_)))
 obtain ⟨o10, h11, h⟩ := zB h
 refine zO (fun (s : List Atom × List Atom × Int) => ⟨[(3, .loc 3 1 0 0), (6, .loc 6 1 0 0), (7, .loc 7 1 0 0), (8, .p (.int .i64 s.2.2))], [(3, .arr 91 3 1 [.p (encCFD c2)]), (6, .arr 24 2 1 [.agg [.p (.int .i64 1), .own 65 1 0 s.1.length]]), (7, .arr 24 2 1 [.agg [.p (.int .i64 2), .own 38 1 0 s.2.1.length]]), (38, .arr 31 11 1 (List.map AV.p (List.map encAtom s.2.1))), (65, .arr 31 11 1 (List.map AV.p (List.map encAtom s.1)))]⟩) (fun (o12 : List Atom × List Atom) => tE (cX Tryz.f43 X w D hT) (.exit 0) ⟨[(3, .loc 3 1 0 0), (6, .loc 6 1 0 0), (7, .loc 7 1 0 0)], [(3, .arr 91 3 1 [.p (encCFD c2)]), (6, .arr 24 2 1 [.agg [.p (.int .i64 1), .own 65 1 0 o12.1.length]]), (7, .arr 24 2 1 [.agg [.p (.int .i64 2), .own 38 1 0 o12.2.length]]), (38, .arr 31 11 1 (List.map AV.p (List.map encAtom o12.2))), (65, .arr 31 11 1 (List.map AV.p (List.map encAtom o12.1)))]⟩) h11 ?_ ?_
 clear h h5 h6 h8 h9 h11
 intro s x h
 obtain ⟨o13, t14, i15⟩ := s
 simp only [drossref18_FromCFD_l1] at h
 dsimp only
 refine zs (zs (zr ?_))
 refine zU (zl (zn ?_))
 rcases zI h with ⟨h16, h⟩ | ⟨h16, h⟩
 refine zi (zk (zn (zs (zb (zs (zd ?_))))))
 obtain ⟨x17, h18, h18a, h18b, h⟩ := zX h
 refine yU ?_
 obtain ⟨r19, h20, h⟩ := zB h
 refine yc (drossref18_equal_con x17 _ h20) ?_
 obtain ⟨h21, h⟩ := ite_some h
 refine yU ?_
 refine yd (zn (zs (zr ?_)))
 obtain ⟨x22, h23, h23a, h23b, h⟩ := zX h
 refine zU (zl (zn ?_))
 rcases zI h with ⟨h24, h⟩ | ⟨h24, h⟩
 refine zj (zk (yn (zn (zr ?_))))
 refine zU (zl ?_)
 cases h
 exact ⟨rfl, zE⟩
 refine zi (zs (zd ?_))
 refine yU ?_
 obtain ⟨r25, h26, h⟩ := zB h
 refine yc (drossref18_at_con 1 x17 _ h26) ?_
 refine yU ?_
 refine yd (zn (zd ?_))
 obtain ⟨h27, h⟩ := ite_some h
 obtain ⟨h28, h⟩ := ite_some h
 refine yU ?_
 refine yd (yn (zn (zr ?_)))
 refine zU (zl ?_)
 cases h
 exact ⟨rfl, zE⟩
 refine zj (zx (ze ?_))
 cases h
 exact ⟨rfl, zE⟩
 obtain ⟨o29, t30⟩ := o10
 try simp only at h
 refine zA (yh (zn (zs (zr ?_))))
 obtain ⟨x31, h32, h32a, h32b, h⟩ := zX h
 have h32N := nat_get h32
 refine zU (zl (zn (zs (zd ?_))))
 refine yU ?_
 obtain ⟨r33, h34, h⟩ := zB h
 refine yc (drossref18_at_con 1 c2.Rhs _ h34) ?_
 refine yU ?_
 obtain ⟨r35, h36, h⟩ := zB h
 refine yc (drossref18_at_con 2 c2.Rhs _ h36) ?_
 obtain ⟨h37, h⟩ := ite_some h
 refine yU ?_
 refine yd (zn (zs (zs (zr ?_))))
 refine zU (zl (zn ?_))
 rcases zI h with ⟨h38, h⟩ | ⟨h38, h⟩
 refine zi (zs (zr ?_))
 refine zU (zl (zn (zq (zt ?_))))
 cases h
 exact zT Tryz.results43
 refine zj (zk (zn (zs (zs (zr ?_)))))
 refine zU (zl (zn ?_))
 rcases zI h with ⟨h39, h⟩ | ⟨h39, h⟩
 refine zi (zs (zr ?_))
 refine zU (zl (zn (zq (zt ?_))))
 cases h
 exact zT Tryz.results43
 refine zj (zk (zn (zs (zd ?_))))
 refine yU ?_
 obtain ⟨r40, h41, h⟩ := zB h
 refine yc (drossref18_at_con 1 c2.Rhs _ h41) ?_
 obtain ⟨h42, h⟩ := ite_some h
 refine yU ?_
 refine yd (zn (zs (zr ?_)))
 refine zU (zl (zn (zq ?_)))
 cases h
 exact zT Tryz.results43
 refine zi (zs (zr ?_))
 refine zU (zl (zn (zq (zt ?_))))
 cases h
 exact zT Tryz.results43
 refine zw 14 true ?_
 refine zh ?_
 refine zU (zl (zn ?_))
 refine zi (zs (zr ?_))
 refine zU (zl (zn (zq (zt ?_))))
 cases h
 exact zT Tryz.results43
end Go.Proofs.YtlaodgbkpmdhoaaGreatDoor
set_option linter.unusedVariables false
set_option linter.unusedSimpArgs false
namespace Go.Proofs.YtlaodgbkpmdhoaaGreatDoor
open Go Go.Ab
set_option maxHeartbeats 4000000 in
theorem drossref01_sign_con {D : Prop} (a1 : Int) (b2 : Int) (r3 : Int) (h : drossref01_sign a1 b2 = some r3) : Con D Tryz.prog 101 [(.int .i64 a1), (.int .i64 b2)] (.int .i64 r3) := by
 refine zP Tryz.call101 Tryz.func101 rfl Tryz.ntmps101 fun X w hT => ?_
 simp only [drossref01_sign] at h
 refine zs (zr ?_)
 refine zU (zl (zn (zs (zs (zr ?_)))))
 refine zU (zl (zn ?_))
 rcases zI h with ⟨h4, h⟩ | ⟨h4, h⟩
 refine zi (zs (zr ?_))
 refine zU (zl (zn (zq (zt ?_))))
 cases h
 exact zT Tryz.results101
 refine zj (zk (zn (zs (zs (zr ?_)))))
 refine zU (zl (zn ?_))
 rcases zI h with ⟨h5, h⟩ | ⟨h5, h⟩
 refine zi (zs (zr ?_))
 refine zU (zl (zn (zq (zt ?_))))
 cases h
 exact zT Tryz.results101
 refine zj (zk (zn (zs (zr ?_))))
 refine zU (zl (zn (zq ?_)))
 cases h
 exact zT Tryz.results101
end Go.Proofs.YtlaodgbkpmdhoaaGreatDoor
set_option linter.unusedVariables false
set_option linter.unusedSimpArgs false
namespace Go.Proofs.YtlaodgbkpmdhoaaGreatDoor
open Go Go.Ab
set_option maxRecDepth 20000 in
set_option maxHeartbeats 4000000 in
theorem drossref01_strings_con {D : Prop} (a1 : List UInt8) (b2 : List UInt8) (r3 : Int) (h : drossref01_strings a1 b2 = some r3) : Con D Tryz.prog 102 [(.str a1), (.str b2)] (.int .i64 r3) := by
 refine zP Tryz.call102 Tryz.func102 rfl Tryz.ntmps102 fun X w hT => ?_
 simp only [drossref01_strings] at h
 refine zs (zr ?_)
 refine zU (zl (zn (zs (zs (zr ?_)))))
 refine zU (zl (zn (zb ?_)))
 obtain ⟨o4, h5, h⟩ := zB h
 refine zO (fun (s : Int) => ⟨[(0, .p (.str a1)), (1, .p (.str b2)), (5, .p (.int .i64 s))], []⟩) (fun (o : (Unit) ⊕ (Int)) => match o with | .inl o6 => tE (cX Tryz.f102 X w D hT) (.exit 0) ⟨[(0, .p (.str a1)), (1, .p (.str b2))], []⟩ | .inr o7 => tR Tryz.prog Tryz.f102 (.int .i64 o7)) h5 ?_ ?_
 clear h h5
 intro i8 x h
 simp only [drossref01_strings_l1] at h
 refine zs (zs (zr ?_))
 refine zU ?_
 rcases zI h with ⟨h9, h⟩ | ⟨h9, h⟩
 refine zw 10 true ?_
 refine zg ?_
 refine zg ?_
 refine zg ?_
 refine zg ?_
 refine zU (zl (zn ?_))
 rcases zI h with ⟨h10, h⟩ | ⟨h10, h⟩
 refine zi (zk (zn (zs (zb (zs (zd ?_))))))
 obtain ⟨c11, h12, h12a, h12b, h⟩ := zX h
 obtain ⟨c13, h14, h14a, h14b, h⟩ := zX h
 refine yU ?_
 refine yd (zn ?_)
 rcases zI h with ⟨h15, h⟩ | ⟨h15, h⟩
 refine zi (zs (zd ?_))
 refine yU ?_
 obtain ⟨r16, h17, h⟩ := zB h
 refine yc (drossref01_sign_con (IntKind.i64.wrap ((c11.toNat : Nat) : Int)) (IntKind.i64.wrap ((c13.toNat : Nat) : Int)) _ h17) ?_
 refine yU ?_
 refine yd (zn (zq (yr (zt ?_))))
 cases h
 exact ⟨rfl, zT Tryz.results102⟩
 refine zj (zk (yn (zn (zr ?_))))
 refine zU (zl ?_)
 cases h
 exact ⟨rfl, zE⟩
 refine zj (zx (ze ?_))
 cases h
 exact ⟨rfl, zE⟩
 refine zw 10 false ?_
 refine zh ?_
 refine zU (zl (zn ?_))
 refine zj (zx (ze ?_))
 cases h
 exact ⟨rfl, zE⟩
 rcases o4 with ⟨⟩ | r18
 try simp only at h
 refine zA (yh (zn (zs (zr ?_))))
 refine zU ?_
 obtain ⟨r19, h20, h⟩ := zB h
 refine zc (drossref01_sign_con (a1.length : Int) (b2.length : Int) _ h20) ?_
 refine zU (zl (zn (zq ?_)))
 cases h
 exact zT Tryz.results102
 try simp only at h
 refine zZ fun s hq => ?_
 refine yr (zt ?_)
 cases h
 exact hq
end Go.Proofs.YtlaodgbkpmdhoaaGreatDoor
set_option linter.unusedVariables false
set_option linter.unusedSimpArgs false
namespace Go.Proofs.YtlaodgbkpmdhoaaGreatDoor
open Go Go.Ab
set_option maxHeartbeats 4000000 in
theorem drossref01_Compare_con {D : Prop} (a1 : Value) (b2 : Value) (r3 : Int) (h : drossref01_Compare a1 b2 = some r3) : Con D Tryz.prog 45 [(encValue a1), (encValue b2)] (.int .i64 r3) := by
 refine zP Tryz.call45 Tryz.func45 rfl Tryz.ntmps45 fun X w hT => ?_
 simp only [drossref01_Compare] at h
 refine zs (zr ?_)
 refine zU (zl (zn (zs (zs (zr ?_)))))
 refine zU ?_
 obtain ⟨r4, h5, h⟩ := zB h
 refine zc (drossref01_sign_con a1.Kind b2.Kind _ h5) ?_
 refine zU (zl (zn (zs (zr ?_))))
 refine zU (zl (zn ?_))
 rcases zI h with ⟨h6, h⟩ | ⟨h6, h⟩
 refine zi (zs (zr ?_))
 refine zU (zl (zn (zq (zt ?_))))
 cases h
 exact zT Tryz.results45
 refine zj (zk (zn (zs (zs (zr ?_)))))
 refine zU ?_
 obtain ⟨r7, h8, h⟩ := zB h
 refine zc (drossref01_sign_con a1.Num b2.Num _ h8) ?_
 refine zU (zl (zn (zs (zr ?_))))
 refine zU (zl (zn ?_))
 rcases zI h with ⟨h9, h⟩ | ⟨h9, h⟩
 refine zi (zs (zr ?_))
 refine zU (zl (zn (zq (zt ?_))))
 cases h
 exact zT Tryz.results45
 refine zj (zk (zn (zs (zr ?_))))
 refine zU ?_
 obtain ⟨r10, h11, h⟩ := zB h
 refine zc (drossref01_strings_con a1.Str b2.Str _ h11) ?_
 refine zU (zl (zn (zq ?_)))
 cases h
 exact zT Tryz.results45
end Go.Proofs.YtlaodgbkpmdhoaaGreatDoor
set_option linter.unusedVariables false
set_option linter.unusedSimpArgs false
namespace Go.Proofs.YtlaodgbkpmdhoaaGreatDoor
open Go Go.Ab
set_option maxRecDepth 20000 in
set_option maxHeartbeats 4000000 in
theorem drosslaw18_matches_con {D : Prop} (r1 : Row) (c2 : CFD) (r3 : Bool) (h : drosslaw18_matches r1 c2 = some r3) : Con D Tryz.prog 44 [(encRow r1), (encCFD c2)] (.bool r3) := by
 refine zP Tryz.call44 Tryz.func44 rfl Tryz.ntmps44 fun X w hT => ?_
 simp only [drosslaw18_matches] at h
 refine zs (zr ?_)
 refine zU (zl (zn (zs (zs (zr ?_)))))
 refine zU (zl (zn (zb ?_)))
 obtain ⟨o4, h5, h⟩ := zB h
 refine zO (fun (s : Int) => ⟨[(2, .loc 2 1 0 0), (3, .loc 3 1 0 0), (9, .p (.slc (List.map (PV.int .i64) c2.Lhs))), (10, .p (.int .i64 (c2.Lhs.length : Int))), (11, .p (.int .i64 s))], [(2, .arr 55 2 1 [.p (encRow r1)]), (3, .arr 91 3 1 [.p (encCFD c2)])]⟩) (fun (o : (Unit) ⊕ (Bool)) => match o with | .inl o6 => tE (cX Tryz.f44 X w D hT) (.exit 0) ⟨[], []⟩ | .inr o7 => tR Tryz.prog Tryz.f44 (.bool o7)) h5 ?_ ?_
 clear h h5
 intro t8 x h
 simp only [drosslaw18_matches_l1] at h
 refine zs (zr ?_)
 refine zU (zl (zn (zs ?_)))
 rcases zI h with ⟨h9, h⟩ | ⟨h9, h⟩
 refine zi (zk (zn (zs (zb (zs (zr ?_))))))
 obtain ⟨x10, h11, h11a, h11b, h⟩ := zX h
 refine zU (zl (zn (zs (zr ?_))))
 obtain ⟨x12, h13, h13a, h13b, h⟩ := zX h
 refine zU (zl (zn (zs (zd ?_))))
 refine yU ?_
 rcases zI h with ⟨h14, h⟩ | ⟨h14, h⟩
 refine yw 24 false ?_
 refine yk ?_
 refine yU ?_
 refine yd (zn ?_)
 refine zj (zk (yn (zn (zr ?_))))
 refine zU (zl ?_)
 cases h
 exact ⟨rfl, zE⟩
 refine yw 24 true ?_
 refine yg ?_
 refine yg ?_
 refine yg ?_
 refine yg ?_
 refine yg ?_
 obtain ⟨x15, h16, h16a, h16b, h⟩ := zX h
 refine yg ?_
 refine yg ?_
 obtain ⟨r17, h18, h⟩ := zB h
 refine yc (drossref01_Compare_con x12.Value x15 _ h18) ?_
 refine yg ?_
 refine yU ?_
 refine yd (zn ?_)
 rcases zI h with ⟨h19, h⟩ | ⟨h19, h⟩
 refine zi (zs (zr ?_))
 refine zU (zl (zn (zq (yr (zt ?_)))))
 cases h
 exact ⟨rfl, zT Tryz.results44⟩
 refine zj (zk (yn (zn (zr ?_))))
 refine zU (zl ?_)
 cases h
 exact ⟨rfl, zE⟩
 refine zj (zx (ze ?_))
 cases h
 exact ⟨rfl, zE⟩
 rcases o4 with ⟨⟩ | r20
 try simp only at h
 refine zA (yh (zn (zs (zr ?_))))
 refine zU (zl (zn (zq ?_)))
 cases h
 exact zT Tryz.results44
 try simp only at h
 refine zZ fun s hq => ?_
 refine yr (zt ?_)
 cases h
 exact hq
end Go.Proofs.YtlaodgbkpmdhoaaGreatDoor
set_option linter.unusedVariables false
set_option linter.unusedSimpArgs false
namespace Go.Proofs.YtlaodgbkpmdhoaaGreatDoor
open Go Go.Ab
set_option maxRecDepth 20000 in
set_option maxHeartbeats 4000000 in
theorem drosslaw18_DenialCFD_1_con {D : Prop} (a1 : Int) (c2 : Row) (c3 : Row) (r4 : Bool) (h : drosslaw18_DenialCFD_1 a1 c2 c3 = some r4) : Con D Tryz.prog 48 [(.int .i64 a1), .imm [.int .i64 c2.ID, .slc (List.map encValue c2.Values)], .imm [.int .i64 c3.ID, .slc (List.map encValue c3.Values)]] (.bool r4) := by
 refine zP Tryz.call48 Tryz.func48 rfl Tryz.ntmps48 fun X w hT => ?_
 simp only [drosslaw18_DenialCFD_1] at h
 refine zs (zr ?_)
 refine zU (zl (zn (zs (zd ?_))))
 obtain ⟨x5, h6, h6a, h6b, h⟩ := zX h
 obtain ⟨x7, h8, h8a, h8b, h⟩ := zX h
 refine yU ?_
 obtain ⟨r9, h10, h⟩ := zB h
 refine yc (drossref01_Compare_con x5 x7 _ h10) ?_
 refine yU ?_
 refine yd (zn (zq ?_))
 cases h
 exact zT Tryz.results48
end Go.Proofs.YtlaodgbkpmdhoaaGreatDoor
set_option linter.unusedVariables false
set_option linter.unusedSimpArgs false
namespace Go.Proofs.YtlaodgbkpmdhoaaGreatDoor
open Go Go.Ab
set_option maxRecDepth 20000 in
set_option maxHeartbeats 4000000 in
theorem drosslaw18_DenialCFD_con (x1 : Drossref03_Recipe) (c2 : CFD) (r3 : Bool) (h : drosslaw18_DenialCFD x1 c2 = some r3) : Con False Tryz.prog 10 [(encDrossref03_Recipe x1), (encCFD c2)] (.bool r3) := by
 refine zP Tryz.call10 Tryz.func10 rfl Tryz.ntmps10 fun X w hT => ?_
 simp only [drosslaw18_DenialCFD] at h
 refine zs (zr ?_)
 refine zU (zl (zn (zs (zr ?_))))
 refine zU ?_
 obtain ⟨r4, h5, h⟩ := zB h
 refine zc (drossref03_Table_con x1 7 _ h5) ?_
 refine zU (zl (zn (zs ?_)))
 obtain ⟨t6, h7, h⟩ := zB h
 refine zJ (fun (o8 : Bool) => tE (cX Tryz.f10 X w False hT) .normal ⟨[(3, .loc 3 1 0 0), (5, .loc 5 1 0 0), (44, .p (.bool o8))], [(3, .arr 91 3 1 [.p (encCFD c2)]), (5, .arr 41 3 1 [.p (encTable r4.1)])]⟩) t6 ?_ ?_
 replace h := h7
 clear h7
 refine zr ?_
 obtain ⟨r9, h10, h⟩ := zB h
 refine zc (drosslaw18_awake_con  _ h10) ?_
 refine zU ?_
 rcases zI h with ⟨h11, h⟩ | ⟨h11, h⟩
 refine zw 29 false ?_
 refine zg ?_
 refine zg ?_
 refine zU ?_
 rcases zI h with ⟨h12, h⟩ | ⟨h12, h⟩
 refine zw 33 false ?_
 refine zg ?_
 refine zg ?_
 refine zg ?_
 refine zg ?_
 refine zU ?_
 rcases zI h with ⟨h13, h⟩ | ⟨h13, h⟩
 refine zw 39 true ?_
 refine zh ?_
 refine zU (zl ?_)
 cases h
 exact ⟨rfl, zE⟩
 replace h := h.symm
 refine zw 39 false ?_
 refine zg ?_
 refine zg ?_
 refine zg ?_
 refine zg ?_
 refine zU (zl ?_)
 cases h
 exact ⟨rfl, zE⟩
 refine zw 33 true ?_
 refine zh ?_
 refine zU ?_
 refine zh ?_
 refine zU (zl ?_)
 cases h
 exact ⟨rfl, zE⟩
 refine zw 29 true ?_
 refine zh ?_
 refine zU ?_
 refine zh ?_
 refine zU ?_
 refine zh ?_
 refine zU (zl ?_)
 cases h
 exact ⟨rfl, zE⟩
 try simp only at h
 refine zA (zn ?_)
 rcases zI h with ⟨h14, h⟩ | ⟨h14, h⟩
 refine zi (zs (zr ?_))
 obtain ⟨r15, h16, h⟩ := zB h
 refine zc (drosslaw18_awake_con  _ h16) ?_
 refine zU (zl (zn (zq (zt ?_))))
 cases h
 exact zT Tryz.results10
 refine zj (zk (zn (zs (zs (zr ?_)))))
 refine zU (zl (zn (zb ?_)))
 obtain ⟨o17, h18, h⟩ := zB h
 refine zO (fun (s : Int) => ⟨[(3, .loc 3 1 0 0), (5, .loc 5 1 0 0), (47, .p (.slc (List.map encCell c2.Pattern))), (48, .p (.int .i64 (c2.Pattern.length : Int))), (49, .p (.int .i64 s))], [(3, .arr 91 3 1 [.p (encCFD c2)]), (5, .arr 41 3 1 [.p (encTable r4.1)])]⟩) (fun (o : (Unit) ⊕ (Bool)) => match o with | .inl o19 => tE (cX Tryz.f10 X w False hT) (.exit 0) ⟨[(3, .loc 3 1 0 0), (5, .loc 5 1 0 0)], [(3, .arr 91 3 1 [.p (encCFD c2)]), (5, .arr 41 3 1 [.p (encTable r4.1)])]⟩ | .inr o20 => tR Tryz.prog Tryz.f10 (.bool o20)) h18 ?_ ?_
 clear h h5 h14 h18
 intro t21 x h
 simp only [drosslaw18_DenialCFD_l1] at h
 refine zs (zr ?_)
 refine zU (zl (zn (zs ?_)))
 rcases zI h with ⟨h22, h⟩ | ⟨h22, h⟩
 refine zi (zk (zn (zs (zb (zs (zr ?_))))))
 obtain ⟨x23, h24, h24a, h24b, h⟩ := zX h
 refine zU (zl (zn (zs (zr ?_))))
 refine zU (zl (zn ?_))
 rcases zI h with ⟨h25, h⟩ | ⟨h25, h⟩
 refine zi (zs (zr ?_))
 refine zU (zl (zn (zq (yr (zt ?_)))))
 cases h
 exact ⟨rfl, zT Tryz.results10⟩
 refine zj (zk (yn (zn (zr ?_))))
 refine zU (zl ?_)
 cases h
 exact ⟨rfl, zE⟩
 refine zj (zx (ze ?_))
 cases h
 exact ⟨rfl, zE⟩
 rcases o17 with ⟨⟩ | r26
 try simp only at h
 refine zA (yh (zn (zs (zr ?_))))
 refine zU ?_
 obtain ⟨r27, h28, h⟩ := zB h
 refine zc (denial_FromCFD_con (r4.1.Attrs.length : Int) c2 _ h28) ?_
 refine zU (zl (zn (zs (zr ?_))))
 refine zU ?_
 obtain ⟨r29, h30, h⟩ := zB h
 refine zc (drossref18_FromCFD_con (r4.1.Attrs.length : Int) c2 _ h30) ?_
 refine zU (zl (zn (zs ?_)))
 obtain ⟨t31, h32, h⟩ := zB h
 refine zJ (fun (o33 : Bool) => tE (cX Tryz.f10 X w False hT) .normal ⟨[(3, .loc 3 1 0 0), (5, .loc 5 1 0 0), (9, .p (.slc (List.map encDenial r27.1))), (10, .p (.int .i64 r27.2)), (11, .p (.slc (List.map encDenial r29.1))), (12, .p (.int .i64 r29.2)), (87, .p (.bool o33))], [(3, .arr 91 3 1 [.p (encCFD c2)]), (5, .arr 41 3 1 [.p (encTable r4.1)])]⟩) t31 ?_ ?_
 replace h := h32
 clear h32
 refine zr ?_
 refine zU ?_
 rcases zI h with ⟨h34, h⟩ | ⟨h34, h⟩
 refine zw 78 true ?_
 refine zh ?_
 refine zU ?_
 refine zh ?_
 refine zU (zl ?_)
 cases h
 exact ⟨rfl, zE⟩
 refine zw 78 false ?_
 refine zg ?_
 refine zg ?_
 obtain ⟨r35, h36, h⟩ := zB h
 refine zc (drossref18_Same_con r27.1 r29.1 _ h36) ?_
 refine zg ?_
 refine zU ?_
 rcases zI h with ⟨h37, h⟩ | ⟨h37, h⟩
 replace h := h.symm
 refine zw 84 false ?_
 refine zg ?_
 refine zg ?_
 refine zU (zl ?_)
 cases h
 exact ⟨rfl, zE⟩
 refine zw 84 true ?_
 refine zh ?_
 refine zU (zl ?_)
 cases h
 exact ⟨rfl, zE⟩
 try simp only at h
 refine zA (zn ?_)
 rcases zI h with ⟨h38, h⟩ | ⟨h38, h⟩
 refine zi (zs (zr ?_))
 refine zU ?_
 rcases zI h with ⟨h39, h⟩ | ⟨h39, h⟩
 refine zw 91 true ?_
 refine zg ?_
 refine zg ?_
 obtain ⟨r40, h41, h⟩ := zB h
 refine zc (drossref18_Same_con r27.1 r29.1 _ h41) ?_
 refine zU (zl (zn (zq (zt ?_))))
 cases h
 exact zT Tryz.results10
 refine zw 91 false ?_
 refine zh ?_
 refine zU (zl (zn (zq (zt ?_))))
 cases h
 exact zT Tryz.results10
 refine zj (zk (zn (zs (zr ?_))))
 refine zU (zl (zn (zs (zr ?_))))
 obtain ⟨x42, h43, h43a, h43b, h⟩ := zX h
 have h43N := nat_get h43
 refine zU (zl (zn (zs (zs (zr ?_)))))
 refine zU (zl (zn (zb ?_)))
 obtain ⟨w44, h45, h⟩ := zB h
 refine zO (fun (s : List (List Int) × Int) => ⟨[(3, .loc 3 1 0 0), (5, .loc 5 1 0 0), (9, .p (.slc (List.map encDenial r27.1))), (13, .own 230013 1 0 s.1.length), (14, .loc 14 1 0 0), (104, .p (.slc (List.map encRow r4.1.Rows))), (105, .p (.int .i64 (r4.1.Rows.length : Int))), (106, .p (.int .i64 s.2))], [(3, .arr 91 3 1 [.p (encCFD c2)]), (5, .arr 41 3 1 [.p (encTable r4.1)]), (14, .arr 93 4 1 [.p (encCell x42)]), (230013, .arr 57 1 1 (List.map AV.p (List.map (encL (PV.int .i64)) s.1)))]⟩) (fun (o46 : List (List Int)) => tE (cX Tryz.f10 X w False hT) (.exit 2) ⟨[(5, .loc 5 1 0 0), (9, .p (.slc (List.map encDenial r27.1))), (13, .own 230013 1 0 o46.length)], [(5, .arr 41 3 1 [.p (encTable r4.1)]), (230013, .arr 57 1 1 (List.map AV.p (List.map (encL (PV.int .i64)) o46)))]⟩) h45 ?_ ?_
 clear h h5 h14 h18 h28 h30 h38 h43 h43a h43b h43N h45
 intro s x h
 obtain ⟨w47, t48⟩ := s
 simp only [drosslaw18_DenialCFD_l64] at h
 dsimp only
 refine zs (zr ?_)
 refine zU (zl (zn (zs ?_)))
 rcases zI h with ⟨h49, h⟩ | ⟨h49, h⟩
 have h49T := eq_true h49
 refine zi (zk (zn (zs (zb (zs (zr ?_))))))
 obtain ⟨x50, h51, h51a, h51b, h⟩ := zX h
 refine zU (zl (zn (zs (zs (zr ?_)))))
 refine zU ?_
 obtain ⟨r52, h53, h⟩ := zB h
 refine zc (drosslaw18_matches_con x50 c2 _ h53) ?_
 refine zU (zl (zn ?_))
 rcases zI h with ⟨h54, h⟩ | ⟨h54, h⟩
 refine zj (zk (zn (zs ?_)))
 obtain ⟨t55, h56, h⟩ := zB h
 refine zJ (fun (o57 : Bool) => tE (cX Tryz.f10 X w False hT) .normal ⟨[(3, .loc 3 1 0 0), (5, .loc 5 1 0 0), (9, .p (.slc (List.map encDenial r27.1))), (13, .own 230013 1 0 w47.length), (14, .loc 14 1 0 0), (15, .p (.int .i64 t48)), (16, .loc 16 1 0 0), (104, .p (.slc (List.map encRow r4.1.Rows))), (105, .p (.int .i64 (r4.1.Rows.length : Int))), (106, .p (.int .i64 t48)), (129, .p (.bool o57))], [(3, .arr 91 3 1 [.p (encCFD c2)]), (5, .arr 41 3 1 [.p (encTable r4.1)]), (14, .arr 93 4 1 [.p (encCell x42)]), (16, .arr 55 2 1 [.p (encRow x50)]), (230013, .arr 57 1 1 (List.map AV.p (List.map (encL (PV.int .i64)) w47)))]⟩) t55 ?_ ?_
 replace h := h56
 clear h56
 refine zd ?_
 refine yU ?_
 rcases zI h with ⟨h58, h⟩ | ⟨h58, h⟩
 refine yw 118 false ?_
 refine yk ?_
 refine yU ?_
 refine yd ?_
 cases h
 exact ⟨rfl, zE⟩
 refine yw 118 true ?_
 refine yg ?_
 refine yg ?_
 refine yg ?_
 refine yg ?_
 refine yg ?_
 refine yg ?_
 obtain ⟨x59, h60, h60a, h60b, h⟩ := zX h
 refine yg ?_
 refine yg ?_
 obtain ⟨r61, h62, h⟩ := zB h
 replace h := h.symm
 refine yc (drossref01_Compare_con x42.Value x59 _ h62) ?_
 refine yg ?_
 refine yU ?_
 refine yd ?_
 cases h
 exact ⟨rfl, zE⟩
 try simp only at h
 refine zA (zn ?_)
 rcases zI h with ⟨h63, h⟩ | ⟨h63, h⟩
 refine zi (zr ?_)
 refine zU ?_
 refine zM ⟨[(3, .loc 3 1 0 0), (5, .loc 5 1 0 0), (9, .p (.slc (List.map encDenial r27.1))), (14, .loc 14 1 0 0), (15, .p (.int .i64 t48)), (16, .loc 16 1 0 0), (104, .p (.slc (List.map encRow r4.1.Rows))), (105, .p (.int .i64 (r4.1.Rows.length : Int))), (106, .p (.int .i64 t48)), (130, .own 230013 1 0 w47.length), (133, .own 133 1 0 1)], [(3, .arr 91 3 1 [.p (encCFD c2)]), (5, .arr 41 3 1 [.p (encTable r4.1)]), (14, .arr 93 4 1 [.p (encCell x42)]), (16, .arr 55 2 1 [.p (encRow x50)]), (133, .arr 2 1 1 [.p (.int .i64 x50.ID)]), (230013, .arr 57 1 1 (List.map AV.p (List.map (encL (PV.int .i64)) w47)))]⟩ ?_
 refine AL_inline (avs := [.own 230013 1 0 w47.length, .own 133 1 0 1]) 188 rfl (guard_none rfl) rfl Tryz.func46 rfl Tryz.call46 Tryz.ntmps46 (by simp) (by simp only [go_sem, seval, h49T, h54, h63]; all_goals rfl) ?_
 intro i65 w66 h67
 show AWp _ _ _ ⟨[(0, .own 230013 1 0 w47.length), (1, .own 133 1 0 1)], [(3, .arr 91 3 1 [.p (encCFD c2)]), (5, .arr 41 3 1 [.p (encTable r4.1)]), (14, .arr 93 4 1 [.p (encCell x42)]), (16, .arr 55 2 1 [.p (encRow x50)]), (133, .arr 2 1 1 [.p (.int .i64 x50.ID)]), (230013, .arr 57 1 1 (List.map AV.p (List.map (encL (PV.int .i64)) w47)))]⟩
 refine zs (zr ?_)
 refine zU (zl (zn (zs (zs (zr ?_)))))
 refine zU (zl (zn (zb ?_)))
 obtain ⟨o68, h69, h⟩ := zB h
 refine zO (fun (s : Int) => ⟨[(0, .own 230013 1 0 w47.length), (1, .own 133 1 0 ([x50.ID]).length), (5, .p (.int .i64 s))], [(3, .arr 91 3 1 [.p (encCFD c2)]), (5, .arr 41 3 1 [.p (encTable r4.1)]), (14, .arr 93 4 1 [.p (encCell x42)]), (16, .arr 55 2 1 [.p (encRow x50)]), (133, .arr 2 1 1 (List.map AV.p (List.map (PV.int .i64) [x50.ID]))), (230013, .arr 57 1 1 (List.map AV.p (List.map (encL (PV.int .i64)) w47)))]⟩) (fun (o : (Unit) ⊕ (Unit)) => match o with | .inl o70 => tE ⟨Tryz.prog, 70, 188, X, [(3, .arr 91 3 1 [.p (encCFD c2)]), (5, .arr 41 3 1 [.p (encTable r4.1)]), (14, .arr 93 4 1 [.p (encCell x42)]), (16, .arr 55 2 1 [.p (encRow x50)]), (133, .arr 2 1 1 [.p (.int .i64 x50.ID)]), (230013, .arr 57 1 1 (List.map AV.p (List.map (encL (PV.int .i64)) w47)))], i65, w66, False, h67⟩ (.exit 0) ⟨[(0, .own 230013 1 0 w47.length), (1, .own 133 1 0 ([x50.ID]).length)], [(3, .arr 91 3 1 [.p (encCFD c2)]), (5, .arr 41 3 1 [.p (encTable r4.1)]), (14, .arr 93 4 1 [.p (encCell x42)]), (16, .arr 55 2 1 [.p (encRow x50)]), (133, .arr 2 1 1 (List.map AV.p (List.map (PV.int .i64) [x50.ID]))), (230013, .arr 57 1 1 (List.map AV.p (List.map (encL (PV.int .i64)) w47)))]⟩ | .inr o71 => tE ⟨Tryz.prog, 70, 188, X, [(3, .arr 91 3 1 [.p (encCFD c2)]), (5, .arr 41 3 1 [.p (encTable r4.1)]), (14, .arr 93 4 1 [.p (encCell x42)]), (16, .arr 55 2 1 [.p (encRow x50)]), (133, .arr 2 1 1 [.p (.int .i64 x50.ID)]), (230013, .arr 57 1 1 (List.map AV.p (List.map (encL (PV.int .i64)) w47)))], i65, w66, False, h67⟩ .ret ⟨[(4, .own 230013 1 0 w47.length)], [(3, .arr 91 3 1 [.p (encCFD c2)]), (5, .arr 41 3 1 [.p (encTable r4.1)]), (14, .arr 93 4 1 [.p (encCell x42)]), (16, .arr 55 2 1 [.p (encRow x50)]), (133, .arr 2 1 1 (List.map AV.p (List.map (PV.int .i64) [x50.ID]))), (230013, .arr 57 1 1 (List.map AV.p (List.map (encL (PV.int .i64)) w47)))]⟩) h69 ?_ ?_
 clear h h49 h49T h51 h51a h51b h53 h54 h63 h69
 intro i72 x h
 simp only [drosslaw18_DenialCFD_l41] at h
 refine zs (zs (zr ?_))
 refine zU (zl (zn ?_))
 rcases zI h with ⟨h73, h⟩ | ⟨h73, h⟩
 refine zi (zk (zn (zs (zb (zs (zr ?_))))))
 obtain ⟨x74, h75, h75a, h75b, h⟩ := zX h
 refine zU ?_
 obtain ⟨r76, h77, h⟩ := zB h
 refine zc (drossref18_Before_con x74 [x50.ID] _ h77) ?_
 refine zU ?_
 rcases zI h with ⟨h78, h⟩ | ⟨h78, h⟩
 refine zw 20 false ?_
 refine zh ?_
 refine zU (zl (zn ?_))
 refine zj (zk (yn (zn (zr ?_))))
 refine zU (zl ?_)
 cases h
 exact ⟨rfl, zE⟩
 refine zw 20 true ?_
 refine zg ?_
 refine zg ?_
 refine zg ?_
 refine zg ?_
 refine zg ?_
 obtain ⟨r79, h80, h⟩ := zB h
 refine zc (drossref18_Before_con [x50.ID] x74 _ h80) ?_
 refine zg ?_
 refine zU (zl (zn ?_))
 rcases zI h with ⟨h81, h⟩ | ⟨h81, h⟩
 refine zj (zk (yn (zn (zr ?_))))
 refine zU (zl ?_)
 cases h
 exact ⟨rfl, zE⟩
 refine zi (zs (zr ?_))
 refine zU (zl (zn (zq (yr (zt ?_)))))
 cases h
 exact ⟨rfl, zE⟩
 refine zj (zx (ze ?_))
 cases h
 exact ⟨rfl, zE⟩
 rcases o68 with ⟨⟩ | ⟨⟩
 try simp only at h
 refine zA (yh (zn (zs (zr ?_))))
 refine zW 3 ?_
 refine zM ⟨[(30, .own 230013 1 0 w47.length), (32, .own 220 1 0 1)], [(3, .arr 91 3 1 [.p (encCFD c2)]), (5, .arr 41 3 1 [.p (encTable r4.1)]), (14, .arr 93 4 1 [.p (encCell x42)]), (16, .arr 55 2 1 [.p (encRow x50)]), (133, .dead 1), (220, .arr 57 1 1 [.p (.slc (List.map (PV.int .i64) [x50.ID]))]), (230013, .arr 57 1 1 (List.map AV.p (List.map (encL (PV.int .i64)) w47)))]⟩ ?_
 obtain ⟨h82, h⟩ := ite_some h
 refine zU (zl (zn (zs (zs (zr ?_)))))
 refine zU (zl (zn (zb ?_)))
 obtain ⟨l83, h84, h⟩ := zB h
 refine zO (fun (s : List (List Int) × Int) => ⟨[(0, .own 230013 2 0 s.1.length), (6, .p (.int .i64 s.2))], [(3, .arr 91 3 1 [.p (encCFD c2)]), (5, .arr 41 3 1 [.p (encTable r4.1)]), (14, .arr 93 4 1 [.p (encCell x42)]), (16, .arr 55 2 1 [.p (encRow x50)]), (133, .dead 1), (230013, .arr 57 1 2 (List.map AV.p (List.map (encL (PV.int .i64)) s.1)))]⟩) (fun (o85 : List (List Int)) => tE ⟨Tryz.prog, 70, 188, X, [(3, .arr 91 3 1 [.p (encCFD c2)]), (5, .arr 41 3 1 [.p (encTable r4.1)]), (14, .arr 93 4 1 [.p (encCell x42)]), (16, .arr 55 2 1 [.p (encRow x50)]), (133, .arr 2 1 1 [.p (.int .i64 x50.ID)]), (230013, .arr 57 1 1 (List.map AV.p (List.map (encL (PV.int .i64)) w47)))], i65, w66, False, h67⟩ (.exit 2) ⟨[(0, .own 230013 2 0 o85.length)], [(3, .arr 91 3 1 [.p (encCFD c2)]), (5, .arr 41 3 1 [.p (encTable r4.1)]), (14, .arr 93 4 1 [.p (encCell x42)]), (16, .arr 55 2 1 [.p (encRow x50)]), (133, .dead 1), (230013, .arr 57 1 2 (List.map AV.p (List.map (encL (PV.int .i64)) o85)))]⟩) h84 ?_ ?_
 clear h h49 h49T h51 h51a h51b h53 h54 h63 h69 h82 h84
 intro s x h
 obtain ⟨l86, k87⟩ := s
 simp only [drosslaw18_DenialCFD_l42] at h
 dsimp only
 refine zs (zs (zd ?_))
 refine yU ?_
 rcases zI h with ⟨h88, h⟩ | ⟨h88, h⟩
 refine yw 39 true ?_
 refine yg ?_
 refine yg ?_
 obtain ⟨x89, h90, h90a, h90b, h⟩ := zX h
 refine yg ?_
 refine yg ?_
 refine yg ?_
 refine yg ?_
 refine yg ?_
 obtain ⟨x91, h92, h92a, h92b, h⟩ := zX h
 refine yg ?_
 refine yg ?_
 obtain ⟨r93, h94, h⟩ := zB h
 refine yc (drossref18_Before_con x89 x91 _ h94) ?_
 refine yU ?_
 refine yd (zn ?_)
 rcases zI h with ⟨h95, h⟩ | ⟨h95, h⟩
 refine zi (zk (zn (zs (zb (zd ?_)))))
 obtain ⟨x96, h97, h97a, h97b, h⟩ := zX h
 have h97B := eq_true (by simpa only [List.length_set] using h97b)
 refine yU ?_
 refine yd (yn (zn (zr ?_)))
 refine zU (zl ?_)
 cases h
 exact ⟨rfl, zE⟩
 refine zj (zx (ze ?_))
 cases h
 exact ⟨rfl, zE⟩
 refine yw 39 false ?_
 refine yk ?_
 refine yU ?_
 refine yd (zn ?_)
 refine zj (zx (ze ?_))
 cases h
 exact ⟨rfl, zE⟩
 try simp only at h
 refine zA (yh (zn (zs (zr ?_))))
 refine zU (zl (zn (zq ?_)))
 refine inlQ_ret (by simp only [Tryz.results46]; simp only [go_sem, seval, h49T, h54, h63]; exact rfl) ?_
 refine zU (zl (zn (zs (zr ?_))))
 obtain ⟨h98, h⟩ := ite_some h
 obtain ⟨h99, h⟩ := ite_some h
 refine zU (zl (zn (zb ?_)))
 obtain ⟨w100, h101, h⟩ := zB h
 refine zO (fun (s : List (List Int) × Int) => ⟨[(3, .loc 3 1 0 0), (5, .loc 5 1 0 0), (9, .p (.slc (List.map encDenial r27.1))), (13, .own 230013 1 0 s.1.length), (14, .loc 14 1 0 0), (16, .loc 16 1 0 0), (104, .p (.slc (List.map encRow r4.1.Rows))), (105, .p (.int .i64 (r4.1.Rows.length : Int))), (106, .p (.int .i64 t48)), (139, .p (.slc (List.map encRow ((r4.1.Rows.drop (IntKind.i64.wrap (t48 + 1)).toNat).take (r4.1.Rows.length - (IntKind.i64.wrap (t48 + 1)).toNat))))), (140, .p (.int .i64 (((r4.1.Rows.drop (IntKind.i64.wrap (t48 + 1)).toNat).take (r4.1.Rows.length - (IntKind.i64.wrap (t48 + 1)).toNat)).length : Int))), (141, .p (.int .i64 s.2))], [(3, .arr 91 3 1 [.p (encCFD c2)]), (5, .arr 41 3 1 [.p (encTable r4.1)]), (14, .arr 93 4 1 [.p (encCell x42)]), (16, .arr 55 2 1 [.p (encRow x50)]), (230013, .arr 57 1 1 (List.map AV.p (List.map (encL (PV.int .i64)) s.1)))]⟩) (fun (o102 : List (List Int)) => tE (cX Tryz.f10 X w False hT) (.exit 4) ⟨[(3, .loc 3 1 0 0), (5, .loc 5 1 0 0), (9, .p (.slc (List.map encDenial r27.1))), (13, .own 230013 1 0 o102.length), (14, .loc 14 1 0 0), (104, .p (.slc (List.map encRow r4.1.Rows))), (105, .p (.int .i64 (r4.1.Rows.length : Int))), (106, .p (.int .i64 t48))], [(3, .arr 91 3 1 [.p (encCFD c2)]), (5, .arr 41 3 1 [.p (encTable r4.1)]), (14, .arr 93 4 1 [.p (encCell x42)]), (230013, .arr 57 1 1 (List.map AV.p (List.map (encL (PV.int .i64)) o102)))]⟩) h101 ?_ ?_
 clear h h49 h49T h51 h51a h51b h53 h54 h63 h69 h82 h84 h98 h99 h101
 intro s x h
 obtain ⟨w103, t104⟩ := s
 simp only [drosslaw18_DenialCFD_l49] at h
 dsimp only
 refine zs (zr ?_)
 refine zU (zl (zn (zs ?_)))
 rcases zI h with ⟨h105, h⟩ | ⟨h105, h⟩
 have h105T := eq_true h105
 refine zi (zk (zn (zs (zb (zs (zr ?_))))))
 obtain ⟨x106, h107, h107a, h107b, h⟩ := zX h
 refine zU (zl (zn (zs (zr ?_))))
 refine zU ?_
 obtain ⟨r108, h109, h⟩ := zB h
 refine zc (slices_ContainsFunc_int_con c2.Lhs (fun (y110 : Int) => drosslaw18_DenialCFD_1 y110 x50 x106) 48 [.imm [.int .i64 x50.ID, .slc (List.map encValue x50.Values)], .imm [.int .i64 x106.ID, .slc (List.map encValue x106.Values)]] (fun y110 r h => drosslaw18_DenialCFD_1_con y110 x50 x106 r h) _ h109) ?_
 refine zU (zl (zn ?_))
 obtain ⟨t111, h112, h⟩ := zB h
 refine zJ (fun (o113 : Bool) => tE (cX Tryz.f10 X w False hT) .normal ⟨[(3, .loc 3 1 0 0), (5, .loc 5 1 0 0), (9, .p (.slc (List.map encDenial r27.1))), (13, .own 230013 1 0 w103.length), (14, .loc 14 1 0 0), (16, .loc 16 1 0 0), (18, .loc 18 1 0 0), (104, .p (.slc (List.map encRow r4.1.Rows))), (105, .p (.int .i64 (r4.1.Rows.length : Int))), (106, .p (.int .i64 t48)), (139, .p (.slc (List.map encRow ((r4.1.Rows.drop (IntKind.i64.wrap (t48 + 1)).toNat).take (r4.1.Rows.length - (IntKind.i64.wrap (t48 + 1)).toNat))))), (140, .p (.int .i64 (((r4.1.Rows.drop (IntKind.i64.wrap (t48 + 1)).toNat).take (r4.1.Rows.length - (IntKind.i64.wrap (t48 + 1)).toNat)).length : Int))), (141, .p (.int .i64 t104)), (166, .p (.bool o113))], [(3, .arr 91 3 1 [.p (encCFD c2)]), (5, .arr 41 3 1 [.p (encTable r4.1)]), (14, .arr 93 4 1 [.p (encCell x42)]), (16, .arr 55 2 1 [.p (encRow x50)]), (18, .arr 55 2 1 [.p (encRow x106)]), (230013, .arr 57 1 1 (List.map AV.p (List.map (encL (PV.int .i64)) w103)))]⟩) t111 ?_ ?_
 replace h := h112
 clear h112
 refine zd ?_
 refine yU ?_
 rcases zI h with ⟨h114, h⟩ | ⟨h114, h⟩
 refine yw 151 false ?_
 refine yk ?_
 refine yU ?_
 refine yd ?_
 cases h
 exact ⟨rfl, zE⟩
 refine yw 151 true ?_
 refine yg ?_
 refine yg ?_
 refine yg ?_
 refine yg ?_
 obtain ⟨x115, h116, h116a, h116b, h⟩ := zX h
 refine yg ?_
 refine yg ?_
 refine yg ?_
 refine yg ?_
 refine yg ?_
 refine yg ?_
 obtain ⟨x117, h118, h118a, h118b, h⟩ := zX h
 refine yg ?_
 refine yg ?_
 obtain ⟨r119, h120, h⟩ := zB h
 replace h := h.symm
 refine yc (drossref01_Compare_con x115 x117 _ h120) ?_
 refine yg ?_
 refine yU ?_
 refine yd ?_
 cases h
 exact ⟨rfl, zE⟩
 try simp only at h
 refine zA (zn ?_)
 rcases zI h with ⟨h121, h⟩ | ⟨h121, h⟩
 refine zi (zr ?_)
 refine zU ?_
 refine zM ⟨[(3, .loc 3 1 0 0), (5, .loc 5 1 0 0), (9, .p (.slc (List.map encDenial r27.1))), (14, .loc 14 1 0 0), (16, .loc 16 1 0 0), (104, .p (.slc (List.map encRow r4.1.Rows))), (105, .p (.int .i64 (r4.1.Rows.length : Int))), (106, .p (.int .i64 t48)), (139, .p (.slc (List.map encRow ((r4.1.Rows.drop (IntKind.i64.wrap (t48 + 1)).toNat).take (r4.1.Rows.length - (IntKind.i64.wrap (t48 + 1)).toNat))))), (140, .p (.int .i64 (((r4.1.Rows.drop (IntKind.i64.wrap (t48 + 1)).toNat).take (r4.1.Rows.length - (IntKind.i64.wrap (t48 + 1)).toNat)).length : Int))), (141, .p (.int .i64 t104)), (167, .own 230013 1 0 w103.length), (172, .own 172 1 0 2)], [(3, .arr 91 3 1 [.p (encCFD c2)]), (5, .arr 41 3 1 [.p (encTable r4.1)]), (14, .arr 93 4 1 [.p (encCell x42)]), (16, .arr 55 2 1 [.p (encRow x50)]), (172, .arr 2 1 1 [.p (.int .i64 x50.ID), .p (.int .i64 x106.ID)]), (230013, .arr 57 1 1 (List.map AV.p (List.map (encL (PV.int .i64)) w103)))]⟩ ?_
 refine AL_inline (avs := [.own 230013 1 0 w103.length, .own 172 1 0 2]) 258 rfl (guard_none rfl) rfl Tryz.func46 rfl Tryz.call46 Tryz.ntmps46 (by simp) (by simp only [go_sem, seval, h105T, h121]; all_goals rfl) ?_
 intro i122 w123 h124
 show AWp _ _ _ ⟨[(0, .own 230013 1 0 w103.length), (1, .own 172 1 0 2)], [(3, .arr 91 3 1 [.p (encCFD c2)]), (5, .arr 41 3 1 [.p (encTable r4.1)]), (14, .arr 93 4 1 [.p (encCell x42)]), (16, .arr 55 2 1 [.p (encRow x50)]), (172, .arr 2 1 1 [.p (.int .i64 x50.ID), .p (.int .i64 x106.ID)]), (230013, .arr 57 1 1 (List.map AV.p (List.map (encL (PV.int .i64)) w103)))]⟩
 refine zs (zr ?_)
 refine zU (zl (zn (zs (zs (zr ?_)))))
 refine zU (zl (zn (zb ?_)))
 obtain ⟨o125, h126, h⟩ := zB h
 refine zO (fun (s : Int) => ⟨[(0, .own 230013 1 0 w103.length), (1, .own 172 1 0 ([x50.ID, x106.ID]).length), (5, .p (.int .i64 s))], [(3, .arr 91 3 1 [.p (encCFD c2)]), (5, .arr 41 3 1 [.p (encTable r4.1)]), (14, .arr 93 4 1 [.p (encCell x42)]), (16, .arr 55 2 1 [.p (encRow x50)]), (172, .arr 2 1 1 (List.map AV.p (List.map (PV.int .i64) [x50.ID, x106.ID]))), (230013, .arr 57 1 1 (List.map AV.p (List.map (encL (PV.int .i64)) w103)))]⟩) (fun (o : (Unit) ⊕ (Unit)) => match o with | .inl o127 => tE ⟨Tryz.prog, 70, 258, X, [(3, .arr 91 3 1 [.p (encCFD c2)]), (5, .arr 41 3 1 [.p (encTable r4.1)]), (14, .arr 93 4 1 [.p (encCell x42)]), (16, .arr 55 2 1 [.p (encRow x50)]), (172, .arr 2 1 1 [.p (.int .i64 x50.ID), .p (.int .i64 x106.ID)]), (230013, .arr 57 1 1 (List.map AV.p (List.map (encL (PV.int .i64)) w103)))], i122, w123, False, h124⟩ (.exit 0) ⟨[(0, .own 230013 1 0 w103.length), (1, .own 172 1 0 ([x50.ID, x106.ID]).length)], [(3, .arr 91 3 1 [.p (encCFD c2)]), (5, .arr 41 3 1 [.p (encTable r4.1)]), (14, .arr 93 4 1 [.p (encCell x42)]), (16, .arr 55 2 1 [.p (encRow x50)]), (172, .arr 2 1 1 (List.map AV.p (List.map (PV.int .i64) [x50.ID, x106.ID]))), (230013, .arr 57 1 1 (List.map AV.p (List.map (encL (PV.int .i64)) w103)))]⟩ | .inr o128 => tE ⟨Tryz.prog, 70, 258, X, [(3, .arr 91 3 1 [.p (encCFD c2)]), (5, .arr 41 3 1 [.p (encTable r4.1)]), (14, .arr 93 4 1 [.p (encCell x42)]), (16, .arr 55 2 1 [.p (encRow x50)]), (172, .arr 2 1 1 [.p (.int .i64 x50.ID), .p (.int .i64 x106.ID)]), (230013, .arr 57 1 1 (List.map AV.p (List.map (encL (PV.int .i64)) w103)))], i122, w123, False, h124⟩ .ret ⟨[(4, .own 230013 1 0 w103.length)], [(3, .arr 91 3 1 [.p (encCFD c2)]), (5, .arr 41 3 1 [.p (encTable r4.1)]), (14, .arr 93 4 1 [.p (encCell x42)]), (16, .arr 55 2 1 [.p (encRow x50)]), (172, .arr 2 1 1 (List.map AV.p (List.map (PV.int .i64) [x50.ID, x106.ID]))), (230013, .arr 57 1 1 (List.map AV.p (List.map (encL (PV.int .i64)) w103)))]⟩) h126 ?_ ?_
 clear h h105 h105T h107 h107a h107b h109 h121 h126
 intro i129 x h
 simp only [drosslaw18_DenialCFD_l47] at h
 refine zs (zs (zr ?_))
 refine zU (zl (zn ?_))
 rcases zI h with ⟨h130, h⟩ | ⟨h130, h⟩
 refine zi (zk (zn (zs (zb (zs (zr ?_))))))
 obtain ⟨x131, h132, h132a, h132b, h⟩ := zX h
 refine zU ?_
 obtain ⟨r133, h134, h⟩ := zB h
 refine zc (drossref18_Before_con x131 [x50.ID, x106.ID] _ h134) ?_
 refine zU ?_
 rcases zI h with ⟨h135, h⟩ | ⟨h135, h⟩
 refine zw 20 false ?_
 refine zh ?_
 refine zU (zl (zn ?_))
 refine zj (zk (yn (zn (zr ?_))))
 refine zU (zl ?_)
 cases h
 exact ⟨rfl, zE⟩
 refine zw 20 true ?_
 refine zg ?_
 refine zg ?_
 refine zg ?_
 refine zg ?_
 refine zg ?_
 obtain ⟨r136, h137, h⟩ := zB h
 refine zc (drossref18_Before_con [x50.ID, x106.ID] x131 _ h137) ?_
 refine zg ?_
 refine zU (zl (zn ?_))
 rcases zI h with ⟨h138, h⟩ | ⟨h138, h⟩
 refine zj (zk (yn (zn (zr ?_))))
 refine zU (zl ?_)
 cases h
 exact ⟨rfl, zE⟩
 refine zi (zs (zr ?_))
 refine zU (zl (zn (zq (yr (zt ?_)))))
 cases h
 exact ⟨rfl, zE⟩
 refine zj (zx (ze ?_))
 cases h
 exact ⟨rfl, zE⟩
 rcases o125 with ⟨⟩ | ⟨⟩
 try simp only at h
 refine zA (yh (zn (zs (zr ?_))))
 refine zW 3 ?_
 refine zM ⟨[(30, .own 230013 1 0 w103.length), (32, .own 290 1 0 1)], [(3, .arr 91 3 1 [.p (encCFD c2)]), (5, .arr 41 3 1 [.p (encTable r4.1)]), (14, .arr 93 4 1 [.p (encCell x42)]), (16, .arr 55 2 1 [.p (encRow x50)]), (172, .dead 1), (290, .arr 57 1 1 [.p (.slc (List.map (PV.int .i64) [x50.ID, x106.ID]))]), (230013, .arr 57 1 1 (List.map AV.p (List.map (encL (PV.int .i64)) w103)))]⟩ ?_
 obtain ⟨h139, h⟩ := ite_some h
 refine zU (zl (zn (zs (zs (zr ?_)))))
 refine zU (zl (zn (zb ?_)))
 obtain ⟨l140, h141, h⟩ := zB h
 refine zO (fun (s : List (List Int) × Int) => ⟨[(0, .own 230013 2 0 s.1.length), (6, .p (.int .i64 s.2))], [(3, .arr 91 3 1 [.p (encCFD c2)]), (5, .arr 41 3 1 [.p (encTable r4.1)]), (14, .arr 93 4 1 [.p (encCell x42)]), (16, .arr 55 2 1 [.p (encRow x50)]), (172, .dead 1), (230013, .arr 57 1 2 (List.map AV.p (List.map (encL (PV.int .i64)) s.1)))]⟩) (fun (o142 : List (List Int)) => tE ⟨Tryz.prog, 70, 258, X, [(3, .arr 91 3 1 [.p (encCFD c2)]), (5, .arr 41 3 1 [.p (encTable r4.1)]), (14, .arr 93 4 1 [.p (encCell x42)]), (16, .arr 55 2 1 [.p (encRow x50)]), (172, .arr 2 1 1 [.p (.int .i64 x50.ID), .p (.int .i64 x106.ID)]), (230013, .arr 57 1 1 (List.map AV.p (List.map (encL (PV.int .i64)) w103)))], i122, w123, False, h124⟩ (.exit 2) ⟨[(0, .own 230013 2 0 o142.length)], [(3, .arr 91 3 1 [.p (encCFD c2)]), (5, .arr 41 3 1 [.p (encTable r4.1)]), (14, .arr 93 4 1 [.p (encCell x42)]), (16, .arr 55 2 1 [.p (encRow x50)]), (172, .dead 1), (230013, .arr 57 1 2 (List.map AV.p (List.map (encL (PV.int .i64)) o142)))]⟩) h141 ?_ ?_
 clear h h105 h105T h107 h107a h107b h109 h121 h126 h139 h141
 intro s x h
 obtain ⟨l143, k144⟩ := s
 simp only [drosslaw18_DenialCFD_l48] at h
 dsimp only
 refine zs (zs (zd ?_))
 refine yU ?_
 rcases zI h with ⟨h145, h⟩ | ⟨h145, h⟩
 refine yw 39 true ?_
 refine yg ?_
 refine yg ?_
 obtain ⟨x146, h147, h147a, h147b, h⟩ := zX h
 refine yg ?_
 refine yg ?_
 refine yg ?_
 refine yg ?_
 refine yg ?_
 obtain ⟨x148, h149, h149a, h149b, h⟩ := zX h
 refine yg ?_
 refine yg ?_
 obtain ⟨r150, h151, h⟩ := zB h
 refine yc (drossref18_Before_con x146 x148 _ h151) ?_
 refine yU ?_
 refine yd (zn ?_)
 rcases zI h with ⟨h152, h⟩ | ⟨h152, h⟩
 refine zi (zk (zn (zs (zb (zd ?_)))))
 obtain ⟨x153, h154, h154a, h154b, h⟩ := zX h
 have h154B := eq_true (by simpa only [List.length_set] using h154b)
 refine yU ?_
 refine yd (yn (zn (zr ?_)))
 refine zU (zl ?_)
 cases h
 exact ⟨rfl, zE⟩
 refine zj (zx (ze ?_))
 cases h
 exact ⟨rfl, zE⟩
 refine yw 39 false ?_
 refine yk ?_
 refine yU ?_
 refine yd (zn ?_)
 refine zj (zx (ze ?_))
 cases h
 exact ⟨rfl, zE⟩
 try simp only at h
 refine zA (yh (zn (zs (zr ?_))))
 refine zU (zl (zn (zq ?_)))
 refine inlQ_ret (by simp only [Tryz.results46]; simp only [go_sem, seval, h105T, h121]; exact rfl) ?_
 refine zU (zl (yn (zn (zr ?_))))
 refine zU (zl ?_)
 cases h
 exact ⟨rfl, zE⟩
 try simp only at h
 refine zA (yr (zt ?_))
 refine inlQ_ret (by simp only [Tryz.results46]; simp only [go_sem, seval, h105T, h121]; exact rfl) ?_
 refine zU (zl (yn (zn (zr ?_))))
 refine zU (zl ?_)
 cases h
 exact ⟨rfl, zE⟩
 refine zj (zk (yn (zn (zr ?_))))
 refine zU (zl ?_)
 cases h
 exact ⟨rfl, zE⟩
 have h105T := eq_false h105
 refine zj (zx (ze ?_))
 cases h
 exact ⟨rfl, zE⟩
 try simp only at h
 refine zA (yh (yn (zn (zr ?_))))
 refine zU (zl ?_)
 cases h
 exact ⟨rfl, zE⟩
 try simp only at h
 refine zA (yr (zt ?_))
 refine inlQ_ret (by simp only [Tryz.results46]; simp only [go_sem, seval, h49T, h54, h63]; exact rfl) ?_
 refine zU (zl (zn (zs (zr ?_))))
 obtain ⟨h155, h⟩ := ite_some h
 obtain ⟨h156, h⟩ := ite_some h
 refine zU (zl (zn (zb ?_)))
 obtain ⟨w157, h158, h⟩ := zB h
 refine zO (fun (s : List (List Int) × Int) => ⟨[(3, .loc 3 1 0 0), (5, .loc 5 1 0 0), (9, .p (.slc (List.map encDenial r27.1))), (13, .own 230013 1 0 s.1.length), (14, .loc 14 1 0 0), (16, .loc 16 1 0 0), (104, .p (.slc (List.map encRow r4.1.Rows))), (105, .p (.int .i64 (r4.1.Rows.length : Int))), (106, .p (.int .i64 t48)), (139, .p (.slc (List.map encRow ((r4.1.Rows.drop (IntKind.i64.wrap (t48 + 1)).toNat).take (r4.1.Rows.length - (IntKind.i64.wrap (t48 + 1)).toNat))))), (140, .p (.int .i64 (((r4.1.Rows.drop (IntKind.i64.wrap (t48 + 1)).toNat).take (r4.1.Rows.length - (IntKind.i64.wrap (t48 + 1)).toNat)).length : Int))), (141, .p (.int .i64 s.2))], [(3, .arr 91 3 1 [.p (encCFD c2)]), (5, .arr 41 3 1 [.p (encTable r4.1)]), (14, .arr 93 4 1 [.p (encCell x42)]), (16, .arr 55 2 1 [.p (encRow x50)]), (230013, .arr 57 1 1 (List.map AV.p (List.map (encL (PV.int .i64)) s.1)))]⟩) (fun (o159 : List (List Int)) => tE (cX Tryz.f10 X w False hT) (.exit 4) ⟨[(3, .loc 3 1 0 0), (5, .loc 5 1 0 0), (9, .p (.slc (List.map encDenial r27.1))), (13, .own 230013 1 0 o159.length), (14, .loc 14 1 0 0), (104, .p (.slc (List.map encRow r4.1.Rows))), (105, .p (.int .i64 (r4.1.Rows.length : Int))), (106, .p (.int .i64 t48))], [(3, .arr 91 3 1 [.p (encCFD c2)]), (5, .arr 41 3 1 [.p (encTable r4.1)]), (14, .arr 93 4 1 [.p (encCell x42)]), (230013, .arr 57 1 1 (List.map AV.p (List.map (encL (PV.int .i64)) o159)))]⟩) h158 ?_ ?_
 clear h h49 h49T h51 h51a h51b h53 h54 h63 h69 h155 h156 h158
 intro s x h
 obtain ⟨w160, t161⟩ := s
 simp only [drosslaw18_DenialCFD_l56] at h
 dsimp only
 refine zs (zr ?_)
 refine zU (zl (zn (zs ?_)))
 rcases zI h with ⟨h162, h⟩ | ⟨h162, h⟩
 have h162T := eq_true h162
 refine zi (zk (zn (zs (zb (zs (zr ?_))))))
 obtain ⟨x163, h164, h164a, h164b, h⟩ := zX h
 refine zU (zl (zn (zs (zr ?_))))
 refine zU ?_
 obtain ⟨r165, h166, h⟩ := zB h
 refine zc (slices_ContainsFunc_int_con c2.Lhs (fun (y167 : Int) => drosslaw18_DenialCFD_1 y167 x50 x163) 48 [.imm [.int .i64 x50.ID, .slc (List.map encValue x50.Values)], .imm [.int .i64 x163.ID, .slc (List.map encValue x163.Values)]] (fun y167 r h => drosslaw18_DenialCFD_1_con y167 x50 x163 r h) _ h166) ?_
 refine zU (zl (zn ?_))
 obtain ⟨t168, h169, h⟩ := zB h
 refine zJ (fun (o170 : Bool) => tE (cX Tryz.f10 X w False hT) .normal ⟨[(3, .loc 3 1 0 0), (5, .loc 5 1 0 0), (9, .p (.slc (List.map encDenial r27.1))), (13, .own 230013 1 0 w160.length), (14, .loc 14 1 0 0), (16, .loc 16 1 0 0), (18, .loc 18 1 0 0), (104, .p (.slc (List.map encRow r4.1.Rows))), (105, .p (.int .i64 (r4.1.Rows.length : Int))), (106, .p (.int .i64 t48)), (139, .p (.slc (List.map encRow ((r4.1.Rows.drop (IntKind.i64.wrap (t48 + 1)).toNat).take (r4.1.Rows.length - (IntKind.i64.wrap (t48 + 1)).toNat))))), (140, .p (.int .i64 (((r4.1.Rows.drop (IntKind.i64.wrap (t48 + 1)).toNat).take (r4.1.Rows.length - (IntKind.i64.wrap (t48 + 1)).toNat)).length : Int))), (141, .p (.int .i64 t161)), (166, .p (.bool o170))], [(3, .arr 91 3 1 [.p (encCFD c2)]), (5, .arr 41 3 1 [.p (encTable r4.1)]), (14, .arr 93 4 1 [.p (encCell x42)]), (16, .arr 55 2 1 [.p (encRow x50)]), (18, .arr 55 2 1 [.p (encRow x163)]), (230013, .arr 57 1 1 (List.map AV.p (List.map (encL (PV.int .i64)) w160)))]⟩) t168 ?_ ?_
 replace h := h169
 clear h169
 refine zd ?_
 refine yU ?_
 rcases zI h with ⟨h171, h⟩ | ⟨h171, h⟩
 refine yw 151 false ?_
 refine yk ?_
 refine yU ?_
 refine yd ?_
 cases h
 exact ⟨rfl, zE⟩
 refine yw 151 true ?_
 refine yg ?_
 refine yg ?_
 refine yg ?_
 refine yg ?_
 obtain ⟨x172, h173, h173a, h173b, h⟩ := zX h
 refine yg ?_
 refine yg ?_
 refine yg ?_
 refine yg ?_
 refine yg ?_
 refine yg ?_
 obtain ⟨x174, h175, h175a, h175b, h⟩ := zX h
 refine yg ?_
 refine yg ?_
 obtain ⟨r176, h177, h⟩ := zB h
 replace h := h.symm
 refine yc (drossref01_Compare_con x172 x174 _ h177) ?_
 refine yg ?_
 refine yU ?_
 refine yd ?_
 cases h
 exact ⟨rfl, zE⟩
 try simp only at h
 refine zA (zn ?_)
 rcases zI h with ⟨h178, h⟩ | ⟨h178, h⟩
 refine zi (zr ?_)
 refine zU ?_
 refine zM ⟨[(3, .loc 3 1 0 0), (5, .loc 5 1 0 0), (9, .p (.slc (List.map encDenial r27.1))), (14, .loc 14 1 0 0), (16, .loc 16 1 0 0), (104, .p (.slc (List.map encRow r4.1.Rows))), (105, .p (.int .i64 (r4.1.Rows.length : Int))), (106, .p (.int .i64 t48)), (139, .p (.slc (List.map encRow ((r4.1.Rows.drop (IntKind.i64.wrap (t48 + 1)).toNat).take (r4.1.Rows.length - (IntKind.i64.wrap (t48 + 1)).toNat))))), (140, .p (.int .i64 (((r4.1.Rows.drop (IntKind.i64.wrap (t48 + 1)).toNat).take (r4.1.Rows.length - (IntKind.i64.wrap (t48 + 1)).toNat)).length : Int))), (141, .p (.int .i64 t161)), (167, .own 230013 1 0 w160.length), (172, .own 172 1 0 2)], [(3, .arr 91 3 1 [.p (encCFD c2)]), (5, .arr 41 3 1 [.p (encTable r4.1)]), (14, .arr 93 4 1 [.p (encCell x42)]), (16, .arr 55 2 1 [.p (encRow x50)]), (172, .arr 2 1 1 [.p (.int .i64 x50.ID), .p (.int .i64 x163.ID)]), (230013, .arr 57 1 1 (List.map AV.p (List.map (encL (PV.int .i64)) w160)))]⟩ ?_
 refine AL_inline (avs := [.own 230013 1 0 w160.length, .own 172 1 0 2]) 328 rfl (guard_none rfl) rfl Tryz.func46 rfl Tryz.call46 Tryz.ntmps46 (by simp) (by simp only [go_sem, seval, h162T, h178]; all_goals rfl) ?_
 intro i179 w180 h181
 show AWp _ _ _ ⟨[(0, .own 230013 1 0 w160.length), (1, .own 172 1 0 2)], [(3, .arr 91 3 1 [.p (encCFD c2)]), (5, .arr 41 3 1 [.p (encTable r4.1)]), (14, .arr 93 4 1 [.p (encCell x42)]), (16, .arr 55 2 1 [.p (encRow x50)]), (172, .arr 2 1 1 [.p (.int .i64 x50.ID), .p (.int .i64 x163.ID)]), (230013, .arr 57 1 1 (List.map AV.p (List.map (encL (PV.int .i64)) w160)))]⟩
 refine zs (zr ?_)
 refine zU (zl (zn (zs (zs (zr ?_)))))
 refine zU (zl (zn (zb ?_)))
 obtain ⟨o182, h183, h⟩ := zB h
 refine zO (fun (s : Int) => ⟨[(0, .own 230013 1 0 w160.length), (1, .own 172 1 0 ([x50.ID, x163.ID]).length), (5, .p (.int .i64 s))], [(3, .arr 91 3 1 [.p (encCFD c2)]), (5, .arr 41 3 1 [.p (encTable r4.1)]), (14, .arr 93 4 1 [.p (encCell x42)]), (16, .arr 55 2 1 [.p (encRow x50)]), (172, .arr 2 1 1 (List.map AV.p (List.map (PV.int .i64) [x50.ID, x163.ID]))), (230013, .arr 57 1 1 (List.map AV.p (List.map (encL (PV.int .i64)) w160)))]⟩) (fun (o : (Unit) ⊕ (Unit)) => match o with | .inl o184 => tE ⟨Tryz.prog, 70, 328, X, [(3, .arr 91 3 1 [.p (encCFD c2)]), (5, .arr 41 3 1 [.p (encTable r4.1)]), (14, .arr 93 4 1 [.p (encCell x42)]), (16, .arr 55 2 1 [.p (encRow x50)]), (172, .arr 2 1 1 [.p (.int .i64 x50.ID), .p (.int .i64 x163.ID)]), (230013, .arr 57 1 1 (List.map AV.p (List.map (encL (PV.int .i64)) w160)))], i179, w180, False, h181⟩ (.exit 0) ⟨[(0, .own 230013 1 0 w160.length), (1, .own 172 1 0 ([x50.ID, x163.ID]).length)], [(3, .arr 91 3 1 [.p (encCFD c2)]), (5, .arr 41 3 1 [.p (encTable r4.1)]), (14, .arr 93 4 1 [.p (encCell x42)]), (16, .arr 55 2 1 [.p (encRow x50)]), (172, .arr 2 1 1 (List.map AV.p (List.map (PV.int .i64) [x50.ID, x163.ID]))), (230013, .arr 57 1 1 (List.map AV.p (List.map (encL (PV.int .i64)) w160)))]⟩ | .inr o185 => tE ⟨Tryz.prog, 70, 328, X, [(3, .arr 91 3 1 [.p (encCFD c2)]), (5, .arr 41 3 1 [.p (encTable r4.1)]), (14, .arr 93 4 1 [.p (encCell x42)]), (16, .arr 55 2 1 [.p (encRow x50)]), (172, .arr 2 1 1 [.p (.int .i64 x50.ID), .p (.int .i64 x163.ID)]), (230013, .arr 57 1 1 (List.map AV.p (List.map (encL (PV.int .i64)) w160)))], i179, w180, False, h181⟩ .ret ⟨[(4, .own 230013 1 0 w160.length)], [(3, .arr 91 3 1 [.p (encCFD c2)]), (5, .arr 41 3 1 [.p (encTable r4.1)]), (14, .arr 93 4 1 [.p (encCell x42)]), (16, .arr 55 2 1 [.p (encRow x50)]), (172, .arr 2 1 1 (List.map AV.p (List.map (PV.int .i64) [x50.ID, x163.ID]))), (230013, .arr 57 1 1 (List.map AV.p (List.map (encL (PV.int .i64)) w160)))]⟩) h183 ?_ ?_
 clear h h162 h162T h164 h164a h164b h166 h178 h183
 intro i186 x h
 simp only [drosslaw18_DenialCFD_l54] at h
 refine zs (zs (zr ?_))
 refine zU (zl (zn ?_))
 rcases zI h with ⟨h187, h⟩ | ⟨h187, h⟩
 refine zi (zk (zn (zs (zb (zs (zr ?_))))))
 obtain ⟨x188, h189, h189a, h189b, h⟩ := zX h
 refine zU ?_
 obtain ⟨r190, h191, h⟩ := zB h
 refine zc (drossref18_Before_con x188 [x50.ID, x163.ID] _ h191) ?_
 refine zU ?_
 rcases zI h with ⟨h192, h⟩ | ⟨h192, h⟩
 refine zw 20 false ?_
 refine zh ?_
 refine zU (zl (zn ?_))
 refine zj (zk (yn (zn (zr ?_))))
 refine zU (zl ?_)
 cases h
 exact ⟨rfl, zE⟩
 refine zw 20 true ?_
 refine zg ?_
 refine zg ?_
 refine zg ?_
 refine zg ?_
 refine zg ?_
 obtain ⟨r193, h194, h⟩ := zB h
 refine zc (drossref18_Before_con [x50.ID, x163.ID] x188 _ h194) ?_
 refine zg ?_
 refine zU (zl (zn ?_))
 rcases zI h with ⟨h195, h⟩ | ⟨h195, h⟩
 refine zj (zk (yn (zn (zr ?_))))
 refine zU (zl ?_)
 cases h
 exact ⟨rfl, zE⟩
 refine zi (zs (zr ?_))
 refine zU (zl (zn (zq (yr (zt ?_)))))
 cases h
 exact ⟨rfl, zE⟩
 refine zj (zx (ze ?_))
 cases h
 exact ⟨rfl, zE⟩
 rcases o182 with ⟨⟩ | ⟨⟩
 try simp only at h
 refine zA (yh (zn (zs (zr ?_))))
 refine zW 3 ?_
 refine zM ⟨[(30, .own 230013 1 0 w160.length), (32, .own 360 1 0 1)], [(3, .arr 91 3 1 [.p (encCFD c2)]), (5, .arr 41 3 1 [.p (encTable r4.1)]), (14, .arr 93 4 1 [.p (encCell x42)]), (16, .arr 55 2 1 [.p (encRow x50)]), (172, .dead 1), (360, .arr 57 1 1 [.p (.slc (List.map (PV.int .i64) [x50.ID, x163.ID]))]), (230013, .arr 57 1 1 (List.map AV.p (List.map (encL (PV.int .i64)) w160)))]⟩ ?_
 obtain ⟨h196, h⟩ := ite_some h
 refine zU (zl (zn (zs (zs (zr ?_)))))
 refine zU (zl (zn (zb ?_)))
 obtain ⟨l197, h198, h⟩ := zB h
 refine zO (fun (s : List (List Int) × Int) => ⟨[(0, .own 230013 2 0 s.1.length), (6, .p (.int .i64 s.2))], [(3, .arr 91 3 1 [.p (encCFD c2)]), (5, .arr 41 3 1 [.p (encTable r4.1)]), (14, .arr 93 4 1 [.p (encCell x42)]), (16, .arr 55 2 1 [.p (encRow x50)]), (172, .dead 1), (230013, .arr 57 1 2 (List.map AV.p (List.map (encL (PV.int .i64)) s.1)))]⟩) (fun (o199 : List (List Int)) => tE ⟨Tryz.prog, 70, 328, X, [(3, .arr 91 3 1 [.p (encCFD c2)]), (5, .arr 41 3 1 [.p (encTable r4.1)]), (14, .arr 93 4 1 [.p (encCell x42)]), (16, .arr 55 2 1 [.p (encRow x50)]), (172, .arr 2 1 1 [.p (.int .i64 x50.ID), .p (.int .i64 x163.ID)]), (230013, .arr 57 1 1 (List.map AV.p (List.map (encL (PV.int .i64)) w160)))], i179, w180, False, h181⟩ (.exit 2) ⟨[(0, .own 230013 2 0 o199.length)], [(3, .arr 91 3 1 [.p (encCFD c2)]), (5, .arr 41 3 1 [.p (encTable r4.1)]), (14, .arr 93 4 1 [.p (encCell x42)]), (16, .arr 55 2 1 [.p (encRow x50)]), (172, .dead 1), (230013, .arr 57 1 2 (List.map AV.p (List.map (encL (PV.int .i64)) o199)))]⟩) h198 ?_ ?_
 clear h h162 h162T h164 h164a h164b h166 h178 h183 h196 h198
 intro s x h
 obtain ⟨l200, k201⟩ := s
 simp only [drosslaw18_DenialCFD_l55] at h
 dsimp only
 refine zs (zs (zd ?_))
 refine yU ?_
 rcases zI h with ⟨h202, h⟩ | ⟨h202, h⟩
 refine yw 39 true ?_
 refine yg ?_
 refine yg ?_
 obtain ⟨x203, h204, h204a, h204b, h⟩ := zX h
 refine yg ?_
 refine yg ?_
 refine yg ?_
 refine yg ?_
 refine yg ?_
 obtain ⟨x205, h206, h206a, h206b, h⟩ := zX h
 refine yg ?_
 refine yg ?_
 obtain ⟨r207, h208, h⟩ := zB h
 refine yc (drossref18_Before_con x203 x205 _ h208) ?_
 refine yU ?_
 refine yd (zn ?_)
 rcases zI h with ⟨h209, h⟩ | ⟨h209, h⟩
 refine zi (zk (zn (zs (zb (zd ?_)))))
 obtain ⟨x210, h211, h211a, h211b, h⟩ := zX h
 have h211B := eq_true (by simpa only [List.length_set] using h211b)
 refine yU ?_
 refine yd (yn (zn (zr ?_)))
 refine zU (zl ?_)
 cases h
 exact ⟨rfl, zE⟩
 refine zj (zx (ze ?_))
 cases h
 exact ⟨rfl, zE⟩
 refine yw 39 false ?_
 refine yk ?_
 refine yU ?_
 refine yd (zn ?_)
 refine zj (zx (ze ?_))
 cases h
 exact ⟨rfl, zE⟩
 try simp only at h
 refine zA (yh (zn (zs (zr ?_))))
 refine zU (zl (zn (zq ?_)))
 refine inlQ_ret (by simp only [Tryz.results46]; simp only [go_sem, seval, h162T, h178]; exact rfl) ?_
 refine zU (zl (yn (zn (zr ?_))))
 refine zU (zl ?_)
 cases h
 exact ⟨rfl, zE⟩
 try simp only at h
 refine zA (yr (zt ?_))
 refine inlQ_ret (by simp only [Tryz.results46]; simp only [go_sem, seval, h162T, h178]; exact rfl) ?_
 refine zU (zl (yn (zn (zr ?_))))
 refine zU (zl ?_)
 cases h
 exact ⟨rfl, zE⟩
 refine zj (zk (yn (zn (zr ?_))))
 refine zU (zl ?_)
 cases h
 exact ⟨rfl, zE⟩
 have h162T := eq_false h162
 refine zj (zx (ze ?_))
 cases h
 exact ⟨rfl, zE⟩
 try simp only at h
 refine zA (yh (yn (zn (zr ?_))))
 refine zU (zl ?_)
 cases h
 exact ⟨rfl, zE⟩
 refine zj (zk (zn (zs (zr ?_))))
 obtain ⟨h212, h⟩ := ite_some h
 obtain ⟨h213, h⟩ := ite_some h
 refine zU (zl (zn (zb ?_)))
 obtain ⟨w214, h215, h⟩ := zB h
 refine zO (fun (s : List (List Int) × Int) => ⟨[(3, .loc 3 1 0 0), (5, .loc 5 1 0 0), (9, .p (.slc (List.map encDenial r27.1))), (13, .own 230013 1 0 s.1.length), (14, .loc 14 1 0 0), (16, .loc 16 1 0 0), (104, .p (.slc (List.map encRow r4.1.Rows))), (105, .p (.int .i64 (r4.1.Rows.length : Int))), (106, .p (.int .i64 t48)), (139, .p (.slc (List.map encRow ((r4.1.Rows.drop (IntKind.i64.wrap (t48 + 1)).toNat).take (r4.1.Rows.length - (IntKind.i64.wrap (t48 + 1)).toNat))))), (140, .p (.int .i64 (((r4.1.Rows.drop (IntKind.i64.wrap (t48 + 1)).toNat).take (r4.1.Rows.length - (IntKind.i64.wrap (t48 + 1)).toNat)).length : Int))), (141, .p (.int .i64 s.2))], [(3, .arr 91 3 1 [.p (encCFD c2)]), (5, .arr 41 3 1 [.p (encTable r4.1)]), (14, .arr 93 4 1 [.p (encCell x42)]), (16, .arr 55 2 1 [.p (encRow x50)]), (230013, .arr 57 1 1 (List.map AV.p (List.map (encL (PV.int .i64)) s.1)))]⟩) (fun (o216 : List (List Int)) => tE (cX Tryz.f10 X w False hT) (.exit 4) ⟨[(3, .loc 3 1 0 0), (5, .loc 5 1 0 0), (9, .p (.slc (List.map encDenial r27.1))), (13, .own 230013 1 0 o216.length), (14, .loc 14 1 0 0), (104, .p (.slc (List.map encRow r4.1.Rows))), (105, .p (.int .i64 (r4.1.Rows.length : Int))), (106, .p (.int .i64 t48))], [(3, .arr 91 3 1 [.p (encCFD c2)]), (5, .arr 41 3 1 [.p (encTable r4.1)]), (14, .arr 93 4 1 [.p (encCell x42)]), (230013, .arr 57 1 1 (List.map AV.p (List.map (encL (PV.int .i64)) o216)))]⟩) h215 ?_ ?_
 clear h h49 h49T h51 h51a h51b h53 h54 h63 h212 h213 h215
 intro s x h
 obtain ⟨w217, t218⟩ := s
 simp only [drosslaw18_DenialCFD_l63] at h
 dsimp only
 refine zs (zr ?_)
 refine zU (zl (zn (zs ?_)))
 rcases zI h with ⟨h219, h⟩ | ⟨h219, h⟩
 have h219T := eq_true h219
 refine zi (zk (zn (zs (zb (zs (zr ?_))))))
 obtain ⟨x220, h221, h221a, h221b, h⟩ := zX h
 refine zU (zl (zn (zs (zr ?_))))
 refine zU ?_
 obtain ⟨r222, h223, h⟩ := zB h
 refine zc (slices_ContainsFunc_int_con c2.Lhs (fun (y224 : Int) => drosslaw18_DenialCFD_1 y224 x50 x220) 48 [.imm [.int .i64 x50.ID, .slc (List.map encValue x50.Values)], .imm [.int .i64 x220.ID, .slc (List.map encValue x220.Values)]] (fun y224 r h => drosslaw18_DenialCFD_1_con y224 x50 x220 r h) _ h223) ?_
 refine zU (zl (zn ?_))
 obtain ⟨t225, h226, h⟩ := zB h
 refine zJ (fun (o227 : Bool) => tE (cX Tryz.f10 X w False hT) .normal ⟨[(3, .loc 3 1 0 0), (5, .loc 5 1 0 0), (9, .p (.slc (List.map encDenial r27.1))), (13, .own 230013 1 0 w217.length), (14, .loc 14 1 0 0), (16, .loc 16 1 0 0), (18, .loc 18 1 0 0), (104, .p (.slc (List.map encRow r4.1.Rows))), (105, .p (.int .i64 (r4.1.Rows.length : Int))), (106, .p (.int .i64 t48)), (139, .p (.slc (List.map encRow ((r4.1.Rows.drop (IntKind.i64.wrap (t48 + 1)).toNat).take (r4.1.Rows.length - (IntKind.i64.wrap (t48 + 1)).toNat))))), (140, .p (.int .i64 (((r4.1.Rows.drop (IntKind.i64.wrap (t48 + 1)).toNat).take (r4.1.Rows.length - (IntKind.i64.wrap (t48 + 1)).toNat)).length : Int))), (141, .p (.int .i64 t218)), (166, .p (.bool o227))], [(3, .arr 91 3 1 [.p (encCFD c2)]), (5, .arr 41 3 1 [.p (encTable r4.1)]), (14, .arr 93 4 1 [.p (encCell x42)]), (16, .arr 55 2 1 [.p (encRow x50)]), (18, .arr 55 2 1 [.p (encRow x220)]), (230013, .arr 57 1 1 (List.map AV.p (List.map (encL (PV.int .i64)) w217)))]⟩) t225 ?_ ?_
 replace h := h226
 clear h226
 refine zd ?_
 refine yU ?_
 rcases zI h with ⟨h228, h⟩ | ⟨h228, h⟩
 refine yw 151 false ?_
 refine yk ?_
 refine yU ?_
 refine yd ?_
 cases h
 exact ⟨rfl, zE⟩
 refine yw 151 true ?_
 refine yg ?_
 refine yg ?_
 refine yg ?_
 refine yg ?_
 obtain ⟨x229, h230, h230a, h230b, h⟩ := zX h
 refine yg ?_
 refine yg ?_
 refine yg ?_
 refine yg ?_
 refine yg ?_
 refine yg ?_
 obtain ⟨x231, h232, h232a, h232b, h⟩ := zX h
 refine yg ?_
 refine yg ?_
 obtain ⟨r233, h234, h⟩ := zB h
 replace h := h.symm
 refine yc (drossref01_Compare_con x229 x231 _ h234) ?_
 refine yg ?_
 refine yU ?_
 refine yd ?_
 cases h
 exact ⟨rfl, zE⟩
 try simp only at h
 refine zA (zn ?_)
 rcases zI h with ⟨h235, h⟩ | ⟨h235, h⟩
 refine zi (zr ?_)
 refine zU ?_
 refine zM ⟨[(3, .loc 3 1 0 0), (5, .loc 5 1 0 0), (9, .p (.slc (List.map encDenial r27.1))), (14, .loc 14 1 0 0), (16, .loc 16 1 0 0), (104, .p (.slc (List.map encRow r4.1.Rows))), (105, .p (.int .i64 (r4.1.Rows.length : Int))), (106, .p (.int .i64 t48)), (139, .p (.slc (List.map encRow ((r4.1.Rows.drop (IntKind.i64.wrap (t48 + 1)).toNat).take (r4.1.Rows.length - (IntKind.i64.wrap (t48 + 1)).toNat))))), (140, .p (.int .i64 (((r4.1.Rows.drop (IntKind.i64.wrap (t48 + 1)).toNat).take (r4.1.Rows.length - (IntKind.i64.wrap (t48 + 1)).toNat)).length : Int))), (141, .p (.int .i64 t218)), (167, .own 230013 1 0 w217.length), (172, .own 172 1 0 2)], [(3, .arr 91 3 1 [.p (encCFD c2)]), (5, .arr 41 3 1 [.p (encTable r4.1)]), (14, .arr 93 4 1 [.p (encCell x42)]), (16, .arr 55 2 1 [.p (encRow x50)]), (172, .arr 2 1 1 [.p (.int .i64 x50.ID), .p (.int .i64 x220.ID)]), (230013, .arr 57 1 1 (List.map AV.p (List.map (encL (PV.int .i64)) w217)))]⟩ ?_
 refine AL_inline (avs := [.own 230013 1 0 w217.length, .own 172 1 0 2]) 398 rfl (guard_none rfl) rfl Tryz.func46 rfl Tryz.call46 Tryz.ntmps46 (by simp) (by simp only [go_sem, seval, h219T, h235]; all_goals rfl) ?_
 intro i236 w237 h238
 show AWp _ _ _ ⟨[(0, .own 230013 1 0 w217.length), (1, .own 172 1 0 2)], [(3, .arr 91 3 1 [.p (encCFD c2)]), (5, .arr 41 3 1 [.p (encTable r4.1)]), (14, .arr 93 4 1 [.p (encCell x42)]), (16, .arr 55 2 1 [.p (encRow x50)]), (172, .arr 2 1 1 [.p (.int .i64 x50.ID), .p (.int .i64 x220.ID)]), (230013, .arr 57 1 1 (List.map AV.p (List.map (encL (PV.int .i64)) w217)))]⟩
 refine zs (zr ?_)
 refine zU (zl (zn (zs (zs (zr ?_)))))
 refine zU (zl (zn (zb ?_)))
 obtain ⟨o239, h240, h⟩ := zB h
 refine zO (fun (s : Int) => ⟨[(0, .own 230013 1 0 w217.length), (1, .own 172 1 0 ([x50.ID, x220.ID]).length), (5, .p (.int .i64 s))], [(3, .arr 91 3 1 [.p (encCFD c2)]), (5, .arr 41 3 1 [.p (encTable r4.1)]), (14, .arr 93 4 1 [.p (encCell x42)]), (16, .arr 55 2 1 [.p (encRow x50)]), (172, .arr 2 1 1 (List.map AV.p (List.map (PV.int .i64) [x50.ID, x220.ID]))), (230013, .arr 57 1 1 (List.map AV.p (List.map (encL (PV.int .i64)) w217)))]⟩) (fun (o : (Unit) ⊕ (Unit)) => match o with | .inl o241 => tE ⟨Tryz.prog, 70, 398, X, [(3, .arr 91 3 1 [.p (encCFD c2)]), (5, .arr 41 3 1 [.p (encTable r4.1)]), (14, .arr 93 4 1 [.p (encCell x42)]), (16, .arr 55 2 1 [.p (encRow x50)]), (172, .arr 2 1 1 [.p (.int .i64 x50.ID), .p (.int .i64 x220.ID)]), (230013, .arr 57 1 1 (List.map AV.p (List.map (encL (PV.int .i64)) w217)))], i236, w237, False, h238⟩ (.exit 0) ⟨[(0, .own 230013 1 0 w217.length), (1, .own 172 1 0 ([x50.ID, x220.ID]).length)], [(3, .arr 91 3 1 [.p (encCFD c2)]), (5, .arr 41 3 1 [.p (encTable r4.1)]), (14, .arr 93 4 1 [.p (encCell x42)]), (16, .arr 55 2 1 [.p (encRow x50)]), (172, .arr 2 1 1 (List.map AV.p (List.map (PV.int .i64) [x50.ID, x220.ID]))), (230013, .arr 57 1 1 (List.map AV.p (List.map (encL (PV.int .i64)) w217)))]⟩ | .inr o242 => tE ⟨Tryz.prog, 70, 398, X, [(3, .arr 91 3 1 [.p (encCFD c2)]), (5, .arr 41 3 1 [.p (encTable r4.1)]), (14, .arr 93 4 1 [.p (encCell x42)]), (16, .arr 55 2 1 [.p (encRow x50)]), (172, .arr 2 1 1 [.p (.int .i64 x50.ID), .p (.int .i64 x220.ID)]), (230013, .arr 57 1 1 (List.map AV.p (List.map (encL (PV.int .i64)) w217)))], i236, w237, False, h238⟩ .ret ⟨[(4, .own 230013 1 0 w217.length)], [(3, .arr 91 3 1 [.p (encCFD c2)]), (5, .arr 41 3 1 [.p (encTable r4.1)]), (14, .arr 93 4 1 [.p (encCell x42)]), (16, .arr 55 2 1 [.p (encRow x50)]), (172, .arr 2 1 1 (List.map AV.p (List.map (PV.int .i64) [x50.ID, x220.ID]))), (230013, .arr 57 1 1 (List.map AV.p (List.map (encL (PV.int .i64)) w217)))]⟩) h240 ?_ ?_
 clear h h219 h219T h221 h221a h221b h223 h235 h240
 intro i243 x h
 simp only [drosslaw18_DenialCFD_l61] at h
 refine zs (zs (zr ?_))
 refine zU (zl (zn ?_))
 rcases zI h with ⟨h244, h⟩ | ⟨h244, h⟩
 refine zi (zk (zn (zs (zb (zs (zr ?_))))))
 obtain ⟨x245, h246, h246a, h246b, h⟩ := zX h
 refine zU ?_
 obtain ⟨r247, h248, h⟩ := zB h
 refine zc (drossref18_Before_con x245 [x50.ID, x220.ID] _ h248) ?_
 refine zU ?_
 rcases zI h with ⟨h249, h⟩ | ⟨h249, h⟩
 refine zw 20 false ?_
 refine zh ?_
 refine zU (zl (zn ?_))
 refine zj (zk (yn (zn (zr ?_))))
 refine zU (zl ?_)
 cases h
 exact ⟨rfl, zE⟩
 refine zw 20 true ?_
 refine zg ?_
 refine zg ?_
 refine zg ?_
 refine zg ?_
 refine zg ?_
 obtain ⟨r250, h251, h⟩ := zB h
 refine zc (drossref18_Before_con [x50.ID, x220.ID] x245 _ h251) ?_
 refine zg ?_
 refine zU (zl (zn ?_))
 rcases zI h with ⟨h252, h⟩ | ⟨h252, h⟩
 refine zj (zk (yn (zn (zr ?_))))
 refine zU (zl ?_)
 cases h
 exact ⟨rfl, zE⟩
 refine zi (zs (zr ?_))
 refine zU (zl (zn (zq (yr (zt ?_)))))
 cases h
 exact ⟨rfl, zE⟩
 refine zj (zx (ze ?_))
 cases h
 exact ⟨rfl, zE⟩
 rcases o239 with ⟨⟩ | ⟨⟩
 try simp only at h
 refine zA (yh (zn (zs (zr ?_))))
 refine zW 3 ?_
 refine zM ⟨[(30, .own 230013 1 0 w217.length), (32, .own 430 1 0 1)], [(3, .arr 91 3 1 [.p (encCFD c2)]), (5, .arr 41 3 1 [.p (encTable r4.1)]), (14, .arr 93 4 1 [.p (encCell x42)]), (16, .arr 55 2 1 [.p (encRow x50)]), (172, .dead 1), (430, .arr 57 1 1 [.p (.slc (List.map (PV.int .i64) [x50.ID, x220.ID]))]), (230013, .arr 57 1 1 (List.map AV.p (List.map (encL (PV.int .i64)) w217)))]⟩ ?_
 obtain ⟨h253, h⟩ := ite_some h
 refine zU (zl (zn (zs (zs (zr ?_)))))
 refine zU (zl (zn (zb ?_)))
 obtain ⟨l254, h255, h⟩ := zB h
 refine zO (fun (s : List (List Int) × Int) => ⟨[(0, .own 230013 2 0 s.1.length), (6, .p (.int .i64 s.2))], [(3, .arr 91 3 1 [.p (encCFD c2)]), (5, .arr 41 3 1 [.p (encTable r4.1)]), (14, .arr 93 4 1 [.p (encCell x42)]), (16, .arr 55 2 1 [.p (encRow x50)]), (172, .dead 1), (230013, .arr 57 1 2 (List.map AV.p (List.map (encL (PV.int .i64)) s.1)))]⟩) (fun (o256 : List (List Int)) => tE ⟨Tryz.prog, 70, 398, X, [(3, .arr 91 3 1 [.p (encCFD c2)]), (5, .arr 41 3 1 [.p (encTable r4.1)]), (14, .arr 93 4 1 [.p (encCell x42)]), (16, .arr 55 2 1 [.p (encRow x50)]), (172, .arr 2 1 1 [.p (.int .i64 x50.ID), .p (.int .i64 x220.ID)]), (230013, .arr 57 1 1 (List.map AV.p (List.map (encL (PV.int .i64)) w217)))], i236, w237, False, h238⟩ (.exit 2) ⟨[(0, .own 230013 2 0 o256.length)], [(3, .arr 91 3 1 [.p (encCFD c2)]), (5, .arr 41 3 1 [.p (encTable r4.1)]), (14, .arr 93 4 1 [.p (encCell x42)]), (16, .arr 55 2 1 [.p (encRow x50)]), (172, .dead 1), (230013, .arr 57 1 2 (List.map AV.p (List.map (encL (PV.int .i64)) o256)))]⟩) h255 ?_ ?_
 clear h h219 h219T h221 h221a h221b h223 h235 h240 h253 h255
 intro s x h
 obtain ⟨l257, k258⟩ := s
 simp only [drosslaw18_DenialCFD_l62] at h
 dsimp only
 refine zs (zs (zd ?_))
 refine yU ?_
 rcases zI h with ⟨h259, h⟩ | ⟨h259, h⟩
 refine yw 39 true ?_
 refine yg ?_
 refine yg ?_
 obtain ⟨x260, h261, h261a, h261b, h⟩ := zX h
 refine yg ?_
 refine yg ?_
 refine yg ?_
 refine yg ?_
 refine yg ?_
 obtain ⟨x262, h263, h263a, h263b, h⟩ := zX h
 refine yg ?_
 refine yg ?_
 obtain ⟨r264, h265, h⟩ := zB h
 refine yc (drossref18_Before_con x260 x262 _ h265) ?_
 refine yU ?_
 refine yd (zn ?_)
 rcases zI h with ⟨h266, h⟩ | ⟨h266, h⟩
 refine zi (zk (zn (zs (zb (zd ?_)))))
 obtain ⟨x267, h268, h268a, h268b, h⟩ := zX h
 have h268B := eq_true (by simpa only [List.length_set] using h268b)
 refine yU ?_
 refine yd (yn (zn (zr ?_)))
 refine zU (zl ?_)
 cases h
 exact ⟨rfl, zE⟩
 refine zj (zx (ze ?_))
 cases h
 exact ⟨rfl, zE⟩
 refine yw 39 false ?_
 refine yk ?_
 refine yU ?_
 refine yd (zn ?_)
 refine zj (zx (ze ?_))
 cases h
 exact ⟨rfl, zE⟩
 try simp only at h
 refine zA (yh (zn (zs (zr ?_))))
 refine zU (zl (zn (zq ?_)))
 refine inlQ_ret (by simp only [Tryz.results46]; simp only [go_sem, seval, h219T, h235]; exact rfl) ?_
 refine zU (zl (yn (zn (zr ?_))))
 refine zU (zl ?_)
 cases h
 exact ⟨rfl, zE⟩
 try simp only at h
 refine zA (yr (zt ?_))
 refine inlQ_ret (by simp only [Tryz.results46]; simp only [go_sem, seval, h219T, h235]; exact rfl) ?_
 refine zU (zl (yn (zn (zr ?_))))
 refine zU (zl ?_)
 cases h
 exact ⟨rfl, zE⟩
 refine zj (zk (yn (zn (zr ?_))))
 refine zU (zl ?_)
 cases h
 exact ⟨rfl, zE⟩
 have h219T := eq_false h219
 refine zj (zx (ze ?_))
 cases h
 exact ⟨rfl, zE⟩
 try simp only at h
 refine zA (yh (yn (zn (zr ?_))))
 refine zU (zl ?_)
 cases h
 exact ⟨rfl, zE⟩
 refine zi (zx (ze (yh (zn (zr ?_)))))
 refine zU (zl ?_)
 cases h
 exact ⟨rfl, zE⟩
 have h49T := eq_false h49
 refine zj (zx (ze ?_))
 cases h
 exact ⟨rfl, zE⟩
 try simp only at h
 refine zA (yh (zn (zs (zr ?_))))
 refine zU ?_
 obtain ⟨r269, h270, h⟩ := zB h
 refine zc (drosslaw18_together_con r4.1 r27.1 _ h270) ?_
 refine zU (zl (zn (zs (zr ?_))))
 refine zU ?_
 rcases zI h with ⟨h271, h⟩ | ⟨h271, h⟩
 refine zw 183 true ?_
 refine zg ?_
 refine zg ?_
 obtain ⟨r272, h273, h⟩ := zB h
 refine zc (drossref18_Lists_con r269.1 w44 _ h273) ?_
 refine zU (zl (zn (zq ?_)))
 cases h
 exact zT Tryz.results10
 refine zw 183 false ?_
 refine zh ?_
 refine zU (zl (zn (zq ?_)))
 cases h
 exact zT Tryz.results10
 try simp only at h
 refine zZ fun s hq => ?_
 refine yr (zt ?_)
 cases h
 exact hq
end Go.Proofs.YtlaodgbkpmdhoaaGreatDoor
