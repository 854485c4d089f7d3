/- Each function of the program computes what its Lean function says, where that has a value. -/
import Derived.Test.YtlaodgbkpmdhoaaGreatDoorW1
set_option linter.unusedVariables false
set_option linter.unusedSimpArgs false
namespace Go.Proofs.YtlaodgbkpmdhoaaGreatDoor
open Go Go.Ab
set_option maxHeartbeats 4000000 in
theorem denial_Violations_con (t1 : Table) (d2 : Denial) (r3 : List (List Int) × Int) (h : denial_Violations t1 d2 = some r3) : Con False Tryz.prog 29 [(encTable t1), (encDenial d2)] (.tup [(.slc (List.map (encL (PV.int .i64)) r3.1)), (.int .i64 r3.2)]) := by
 refine zP Tryz.call29 Tryz.func29 rfl Tryz.ntmps29 fun X w hT => ?_
 simp only [denial_Violations] at h
 refine zs (zr ?_)
 refine zU (zl (zn (zs (zs (zr ?_)))))
 refine zU ?_
 obtain ⟨r4, h5, h⟩ := zB h
 refine zc (denial_checked_con t1 d2 _ h5) ?_
 refine zU (zl (zn (zs (zr ?_))))
 refine zU (zl (zn ?_))
 rcases zI h with ⟨h6, h⟩ | ⟨h6, h⟩
 refine zi (zs (zr ?_))
 refine zU (zl (zn (zq (zt ?_))))
 cases h
 exact zT Tryz.results29
 have h6F := Bool.eq_false_iff.2 h6
 refine zj (zk (zn (zs (zr ?_))))
 refine zU (zl (zn (zs (zr ?_))))
 refine zU (zl (zn ?_))
 obtain ⟨o7, h8, h⟩ := zB h
 refine zJ (fun (o9 : List (List Int) × Bool) => tE (cX Tryz.f29 X w False hT) .normal ⟨[(8, .loc 8 1 0 0), (9, .p (.bool o9.2))], [(8, .arr 52 1 1 [.own 200008 1 0 o9.1.length]), (200008, .arr 57 1 1 (List.map AV.p (List.map (encL (PV.int .i64)) o9.1)))]⟩) o7 ?_ ?_
 replace h := h8
 clear h8
 refine zr ?_
 refine zU ?_
 refine zM ⟨[(8, .loc 8 1 0 0), (17, .p (encTable t1)), (18, .p (encDenial d2)), (19, .func (.func 83) [.loc 7 1 0 0, .loc 8 1 0 0])], [(7, .arr 134 1 1 [.mapo 16 1]), (8, .arr 52 1 1 [.own 200008 1 0 0]), (16, .map 1 [] []), (200008, .arr 57 1 1 [])]⟩ ?_
 obtain ⟨m10, h11, h⟩ := zB h
 replace h11 := Option.some.inj h11
 refine AL_le (st' := ⟨[(8, .loc 8 1 0 0), (17, .p (encTable t1)), (18, .p (encDenial d2)), (19, .func (.func 83) [.loc 7 1 0 0, .loc 8 1 0 0])], [(7, .arr 134 1 1 [.mapo 16 1]), (8, .arr 52 1 1 [.own 200008 1 0 0]), (16, .map 1 (List.map AV.p (encK encArr3_int64 m10)) (List.map AV.p (encW PV.bool m10))), (200008, .arr 57 1 1 [])]⟩) (by simp only [go_sem, seval, h6F, ← h11]; all_goals ((repeat' refine And.intro ?_ ?_) <;> first | rfl | (simp; done) | (simp; rfl) | (simp [*]; done) | (simp [*]; rfl))) ?_
 clear h11
 refine zM ⟨[(8, .loc 8 1 0 0), (17, .p (encTable t1)), (18, .p (encDenial d2)), (19, .func (.func 83) [.loc 7 1 0 0, .loc 8 1 0 0])], [(7, .arr 134 1 1 [.mapo 16 1]), (8, .arr 52 1 1 [.own 200008 1 0 0]), (16, .map 1 (List.map AV.p (encK encArr3_int64 m10)) (List.map AV.p (encW PV.bool m10))), (200008, .arr 57 1 1 [])]⟩ ?_
 refine AL_inline (avs := [.p (encTable t1), .p (encDenial d2), .nils, .func (.func 83) [.loc 7 1 0 0, .loc 8 1 0 0]]) 26 rfl (guard_none rfl) rfl Tryz.func82 rfl Tryz.call82 Tryz.ntmps82 (by simp) (by simp only [go_sem, seval, h6F]; all_goals rfl) ?_
 intro i12 w13 h14
 obtain ⟨l15, h16, h⟩ := zB h
 replace h16 := Option.some.inj h16
 refine awp_le (st' := ⟨[(0, .p (encTable t1)), (1, .p (encDenial d2)), (2, .p (.slc (List.map encRow l15))), (3, .func (.func 83) [.loc 7 1 0 0, .loc 8 1 0 0])], [(7, .arr 134 1 1 [.mapo 16 1]), (8, .arr 52 1 1 [.own 200008 1 0 0]), (16, .map 1 (List.map AV.p (encK encArr3_int64 m10)) (List.map AV.p (encW PV.bool m10))), (200008, .arr 57 1 1 [])]⟩) (by simp only [go_sem, seval, h6F, ← h16]; all_goals ((repeat' refine And.intro ?_ ?_) <;> first | rfl | (simp; done) | (simp; rfl) | (simp [*]; done) | (simp [*]; rfl))) ?_
 clear h16
 refine zs (zr ?_)
 refine zU (zl (zn (zs (zs (zr ?_)))))
 refine zU (zl (zn ?_))
 rcases zI h with ⟨h17, h⟩ | ⟨h17, h⟩
 refine zi (zs (zr ?_))
 refine zU ?_
 obtain ⟨r18, h19, h⟩ := zB h
 refine zc (denial_satisfied_con l15 d2.Atoms _ h19) ?_
 refine zU ?_
 rcases zI h with ⟨h20, h⟩ | ⟨h20, h⟩
 refine zw 21 false ?_
 refine zg ?_
 refine zg ?_
 refine zM ⟨[(21, .p (.bool false)), (22, .func (.func 83) [.loc 7 1 0 0, .loc 8 1 0 0]), (23, .p (.slc (List.map encRow l15)))], [(7, .arr 134 1 1 [.mapo 16 1]), (8, .arr 52 1 1 [.own 200008 1 0 0]), (16, .map 1 (List.map AV.p (encK encArr3_int64 m10)) (List.map AV.p (encW PV.bool m10))), (200008, .arr 57 1 1 [])]⟩ ?_
 refine AL_inline (avs := [.p (.slc (List.map encRow l15)), .loc 7 1 0 0, .loc 8 1 0 0]) 73 rfl (guard_true' rfl rfl (by exact rfl) (by exact rfl)) rfl Tryz.func83 rfl Tryz.call83 Tryz.ntmps83 (by simp) (by simp only [go_sem, seval, h6F, h17, h20]; all_goals rfl) ?_
 intro i21 w22 h23
 show AWp _ _ _ ⟨[(0, .p (.slc (List.map encRow l15))), (1, .loc 7 1 0 0), (2, .loc 8 1 0 0)], [(7, .arr 134 1 1 [.mapo 16 1]), (8, .arr 52 1 1 [.own 200008 1 0 0]), (16, .map 1 (List.map AV.p (encK encArr3_int64 m10)) (List.map AV.p (encW PV.bool m10))), (200008, .arr 57 1 1 [])]⟩
 refine zs (zr ?_)
 refine zU (zl (zn (zs (zr ?_))))
 refine zU (zl (zn (zs (zs (zr ?_)))))
 refine zU (zl (zn (zb ?_)))
 obtain ⟨l24, h25, h⟩ := zB h
 refine zO (fun (s : List Int × Int) => ⟨[(1, .loc 7 1 0 0), (2, .loc 8 1 0 0), (5, .own 92 1 0 s.1.length), (9, .p (.slc (List.map encRow l15))), (10, .p (.int .i64 (l15.length : Int))), (11, .p (.int .i64 s.2))], [(7, .arr 134 1 1 [.mapo 16 1]), (8, .arr 52 1 1 [.own 200008 1 0 0]), (16, .map 1 (List.map AV.p (encK encArr3_int64 m10)) (List.map AV.p (encW PV.bool m10))), (92, .arr 2 1 1 (List.map AV.p (List.map (PV.int .i64) s.1))), (200008, .arr 57 1 1 (List.map AV.p (List.map (encL (PV.int .i64)) [])))]⟩) (fun (o26 : List Int) => tE ⟨Tryz.prog, 39, 73, X, [(7, .arr 134 1 1 [.mapo 16 1]), (8, .arr 52 1 1 [.own 200008 1 0 0]), (16, .map 1 (List.map AV.p (encK encArr3_int64 m10)) (List.map AV.p (encW PV.bool m10))), (200008, .arr 57 1 1 [])], i21, w22, False, h23⟩ (.exit 0) ⟨[(1, .loc 7 1 0 0), (2, .loc 8 1 0 0), (5, .own 92 1 0 o26.length)], [(7, .arr 134 1 1 [.mapo 16 1]), (8, .arr 52 1 1 [.own 200008 1 0 0]), (16, .map 1 (List.map AV.p (encK encArr3_int64 m10)) (List.map AV.p (encW PV.bool m10))), (92, .arr 2 1 1 (List.map AV.p (List.map (PV.int .i64) o26))), (200008, .arr 57 1 1 (List.map AV.p (List.map (encL (PV.int .i64)) [])))]⟩) h25 ?_ ?_
 clear h h5 h6 h6F h17 h19 h20 h25
 intro s x h
 obtain ⟨l27, t28⟩ := s
 simp only [denial_Violations_l81] at h
 dsimp only
 refine zs (zr ?_)
 refine zU (zl (zn (zs ?_)))
 rcases zI h with ⟨h29, h⟩ | ⟨h29, h⟩
 refine zi (zk (zn (zs (zb (zs (zr ?_))))))
 obtain ⟨x30, h31, h31a, h31b, h⟩ := zX h
 refine zU (zl (zn (zr ?_)))
 obtain ⟨h32, h⟩ := ite_some h
 refine zU (zl (yn (zn (zr ?_))))
 refine zU (zl ?_)
 cases h
 exact ⟨rfl, zE⟩
 refine zj (zx (ze ?_))
 cases h
 exact ⟨rfl, zE⟩
 try simp only at h
 refine zA (yh (zn (zs (zr ?_))))
 refine zU ?_
 refine zM ⟨[(1, .loc 7 1 0 0), (2, .loc 8 1 0 0), (5, .own 92 1 0 l24.length), (21, .own 92 1 0 l24.length)], [(7, .arr 134 1 1 [.mapo 16 1]), (8, .arr 52 1 1 [.own 200008 1 0 0]), (16, .map 1 (List.map AV.p (encK encArr3_int64 m10)) (List.map AV.p (encW PV.bool m10))), (92, .arr 2 1 1 (List.map AV.p (List.map (PV.int .i64) l24))), (200008, .arr 57 1 1 (List.map AV.p (List.map (encL (PV.int .i64)) [])))]⟩ ?_
 obtain ⟨l33, h34, h⟩ := zB h
 refine zSI srt84 h34 ?_
 have h35 := srtIF_len h34
 refine zM ⟨[(1, .loc 7 1 0 0), (2, .loc 8 1 0 0), (5, .own 92 1 0 l33.length), (22, .p (.tup []))], [(7, .arr 134 1 1 [.mapo 16 1]), (8, .arr 52 1 1 [.own 200008 1 0 0]), (16, .map 1 (List.map AV.p (encK encArr3_int64 m10)) (List.map AV.p (encW PV.bool m10))), (92, .arr 2 1 1 (List.map AV.p (List.map (PV.int .i64) l33))), (200008, .arr 57 1 1 (List.map AV.p (List.map (encL (PV.int .i64)) [])))]⟩ ?_
 clear h35
 refine zl (zn (zs (zr ?_)))
 refine zU (zl (zn (zs (zr ?_))))
 refine zM ⟨[(1, .loc 7 1 0 0), (2, .loc 8 1 0 0), (5, .p (.slc (List.map (PV.int .i64) l33))), (8, .loc 81 1 0 0)], [(7, .arr 134 1 1 [.mapo 16 1]), (8, .arr 52 1 1 [.own 200008 1 0 0]), (16, .map 1 (List.map AV.p (encK encArr3_int64 m10)) (List.map AV.p (encW PV.bool m10))), (81, .arr 137 3 1 [.p (.agg [.int .i64 0, .int .i64 0, .int .i64 0])]), (200008, .arr 57 1 1 (List.map AV.p (List.map (encL (PV.int .i64)) [])))]⟩ ?_
 refine zCpa 81 0 0 0 l33 Tryz.underlying137 Tryz.underlying57 ?_
 refine zl (zn (zs (zs (zr ?_))))
 refine zU (zl (zn ?_))
 rcases zI h with ⟨h36, h⟩ | ⟨h36, h⟩
 refine zj (zk (zn (zs (zr ?_))))
 refine zU (zl (zn (zq ?_)))
 refine inlQ_ret (by simp only [Tryz.results83]; simp only [go_sem, seval, h6F, h17, h20, h36]; exact rfl) ?_
 refine zU (zl (zn (zq (zt ?_))))
 refine inlQ_ret (by simp only [Tryz.results82]; simp only [go_sem, seval, h6F, h17, h20, h36]; exact rfl) ?_
 refine zU (zl ?_)
 cases h
 exact ⟨rfl, zE⟩
 have h36F := Bool.eq_false_iff.2 h36
 refine zi (zs (zr ?_))
 refine zU (zl (zn (zr ?_)))
 have h37 : roomB 1 24 = true := by decide
 refine zU (zl (zn (zs (zr ?_))))
 refine zU (zl (zn (zq ?_)))
 refine inlQ_ret (by simp only [Tryz.results83]; simp only [go_sem, seval, h6F, h17, h20, h36F]; exact rfl) ?_
 refine zU (zl (zn (zq (zt ?_))))
 refine inlQ_ret (by simp only [Tryz.results82]; simp only [go_sem, seval, h6F, h17, h20, h36F]; exact rfl) ?_
 refine zU (zl ?_)
 cases h
 exact ⟨rfl, zE⟩
 have h20F := Bool.eq_false_iff.2 h20
 refine zw 21 true ?_
 refine zh ?_
 refine zU (zl (zn (zq (zt ?_))))
 refine inlQ_ret (by simp only [Tryz.results82]; simp only [go_sem, seval, h6F, h17, h20F]; exact rfl) ?_
 refine zU (zl ?_)
 cases h
 exact ⟨rfl, zE⟩
 have h17F := Bool.eq_false_iff.2 h17
 refine zj (zk (zn (zs (zs (zr ?_)))))
 refine zU (zl (zn (zb ?_)))
 obtain ⟨o38, h39, h⟩ := zB h
 refine zO (fun (s : (List (Arr3_int64 × Bool)) × List (List Int) × Int) => ⟨[(2, .p (.slc (List.map encRow l15))), (3, .func (.func 83) [.loc 7 1 0 0, .loc 8 1 0 0]), (4, .loc 30 1 0 0), (5, .loc 31 1 0 0), (27, .p (.slc (List.map encRow t1.Rows))), (28, .p (.int .i64 (t1.Rows.length : Int))), (29, .p (.int .i64 s.2.2))], [(7, .arr 134 1 1 [.mapo 16 1]), (8, .arr 52 1 1 [.own 200008 2 0 s.2.1.length]), (16, .map 1 (List.map AV.p (encK encArr3_int64 s.1)) (List.map AV.p (encW PV.bool s.1))), (30, .arr 41 3 1 [.p (encTable t1)]), (31, .arr 24 2 1 [.p (encDenial d2)]), (200008, .arr 57 1 2 (List.map AV.p (List.map (encL (PV.int .i64)) s.2.1)))]⟩) (fun (o : ((List (Arr3_int64 × Bool)) × List (List Int)) ⊕ ((List (Arr3_int64 × Bool)) × List (List Int))) => match o with | .inl o40 => tE ⟨Tryz.prog, 47, 26, X, [(7, .arr 134 1 1 [.mapo 16 1]), (8, .arr 52 1 1 [.own 200008 1 0 0]), (16, .map 1 (List.map AV.p (encK encArr3_int64 m10)) (List.map AV.p (encW PV.bool m10))), (200008, .arr 57 1 1 [])], i12, w13, False, h14⟩ (.exit 0) ⟨[], [(7, .arr 134 1 1 [.mapo 16 1]), (8, .arr 52 1 1 [.own 200008 2 0 o40.2.length]), (16, .map 1 (List.map AV.p (encK encArr3_int64 o40.1)) (List.map AV.p (encW PV.bool o40.1))), (200008, .arr 57 1 2 (List.map AV.p (List.map (encL (PV.int .i64)) o40.2)))]⟩ | .inr o41 => tE ⟨Tryz.prog, 47, 26, X, [(7, .arr 134 1 1 [.mapo 16 1]), (8, .arr 52 1 1 [.own 200008 1 0 0]), (16, .map 1 (List.map AV.p (encK encArr3_int64 m10)) (List.map AV.p (encW PV.bool m10))), (200008, .arr 57 1 1 [])], i12, w13, False, h14⟩ .ret ⟨[(8, .p (.bool false))], [(7, .arr 134 1 1 [.mapo 16 1]), (8, .arr 52 1 1 [.own 200008 2 0 o41.2.length]), (16, .map 1 (List.map AV.p (encK encArr3_int64 o41.1)) (List.map AV.p (encW PV.bool o41.1))), (200008, .arr 57 1 2 (List.map AV.p (List.map (encL (PV.int .i64)) o41.2)))]⟩) h39 ?_ ?_
 clear h h5 h6 h6F h17 h17F h39
 intro s x h
 obtain ⟨f42, f43, t44⟩ := s
 simp only [denial_Violations_l160] at h
 dsimp only
 refine zs (zr ?_)
 refine zU (zl (zn (zs ?_)))
 rcases zI h with ⟨h45, h⟩ | ⟨h45, h⟩
 have h45T := eq_true h45
 refine zi (zk (zn (zs (zb (zs (zr ?_))))))
 obtain ⟨x46, h47, h47a, h47b, h⟩ := zX h
 refine zU (zl (zn (zs (zs (zr ?_)))))
 refine zU ?_
 obtain ⟨r48, h49, h⟩ := zB h
 refine zc (slices_ContainsFunc_Row_con l15 (fun (y50 : Row) => denial_visit_1 y50 x46) 125 [.imm [.int .i64 x46.ID, .slc (List.map encValue x46.Values)]] (fun y50 r h => denial_visit_1_con y50 x46 r h) _ h49) ?_
 refine zl (zn ?_)
 rcases zI h with ⟨h51, h⟩ | ⟨h51, h⟩
 refine zi (zx (ze (yh (zn (zr ?_)))))
 refine zU (zl ?_)
 cases h
 exact ⟨rfl, zE⟩
 have h51F := Bool.eq_false_iff.2 h51
 refine zj (zk (zn (zs ?_)))
 refine zdl 8 ?_
 refine yU ?_
 obtain ⟨h52, h⟩ := ite_some h
 refine yK cln126 65 encRow l15 _ rfl ⟨by unfold maxLen; omega, by omega⟩ ?_
 have h53 := @take_cut PV
 obtain ⟨h54, h⟩ := ite_some h
 refine yU ?_
 refine ydlS ?_
 refine zM ⟨[(2, .p (.slc (List.map encRow l15))), (3, .func (.func 83) [.loc 7 1 0 0, .loc 8 1 0 0]), (4, .loc 30 1 0 0), (5, .loc 31 1 0 0), (27, .p (.slc (List.map encRow t1.Rows))), (28, .p (.int .i64 (t1.Rows.length : Int))), (29, .p (.int .i64 t44)), (36, .p (encTable t1)), (37, .p (encDenial d2)), (42, .p (.slc (List.map encRow (l15 ++ [x46])))), (43, .func (.func 83) [.loc 7 1 0 0, .loc 8 1 0 0])], [(7, .arr 134 1 1 [.mapo 16 1]), (8, .arr 52 1 1 [.own 200008 2 0 f43.length]), (16, .map 1 (List.map AV.p (encK encArr3_int64 f42)) (List.map AV.p (encW PV.bool f42))), (30, .arr 41 3 1 [.p (encTable t1)]), (31, .arr 24 2 1 [.p (encDenial d2)]), (200008, .arr 57 1 2 (List.map AV.p (List.map (encL (PV.int .i64)) f43)))]⟩ ?_
 refine AL_inline (avs := [.p (encTable t1), .p (encDenial d2), .p (.slc (List.map encRow (l15 ++ [x46]))), .func (.func 83) [.loc 7 1 0 0, .loc 8 1 0 0]]) 112 rfl (guard_none rfl) rfl Tryz.func82 rfl Tryz.call82 Tryz.ntmps82 (by simp) (by simp only [go_sem, seval, h45T, h51F]; all_goals rfl) ?_
 intro i55 w56 h57
 obtain ⟨l58, h59, h⟩ := zB h
 replace h59 := Option.some.inj h59
 refine awp_le (st' := ⟨[(0, .p (encTable t1)), (1, .p (encDenial d2)), (2, .p (.slc (List.map encRow l58))), (3, .func (.func 83) [.loc 7 1 0 0, .loc 8 1 0 0])], [(7, .arr 134 1 1 [.mapo 16 1]), (8, .arr 52 1 1 [.own 200008 2 0 f43.length]), (16, .map 1 (List.map AV.p (encK encArr3_int64 f42)) (List.map AV.p (encW PV.bool f42))), (30, .arr 41 3 1 [.p (encTable t1)]), (31, .arr 24 2 1 [.p (encDenial d2)]), (200008, .arr 57 1 2 (List.map AV.p (List.map (encL (PV.int .i64)) f43)))]⟩) (by simp only [go_sem, seval, h45T, h51F, ← h59]; all_goals ((repeat' refine And.intro ?_ ?_) <;> first | rfl | (simp; done) | (simp; rfl) | (simp [*]; done) | (simp [*]; rfl))) ?_
 clear h59
 refine zs (zr ?_)
 refine zU (zl (zn (zs (zs (zr ?_)))))
 refine zU (zl (zn ?_))
 rcases zI h with ⟨h60, h⟩ | ⟨h60, h⟩
 refine zi (zs (zr ?_))
 refine zU ?_
 obtain ⟨r61, h62, h⟩ := zB h
 refine zc (denial_satisfied_con l58 d2.Atoms _ h62) ?_
 refine zU ?_
 rcases zI h with ⟨h63, h⟩ | ⟨h63, h⟩
 refine zw 21 false ?_
 refine zg ?_
 refine zg ?_
 refine zM ⟨[(21, .p (.bool false)), (22, .func (.func 83) [.loc 7 1 0 0, .loc 8 1 0 0]), (23, .p (.slc (List.map encRow l58)))], [(7, .arr 134 1 1 [.mapo 16 1]), (8, .arr 52 1 1 [.own 200008 2 0 f43.length]), (16, .map 1 (List.map AV.p (encK encArr3_int64 f42)) (List.map AV.p (encW PV.bool f42))), (30, .arr 41 3 1 [.p (encTable t1)]), (31, .arr 24 2 1 [.p (encDenial d2)]), (200008, .arr 57 1 2 (List.map AV.p (List.map (encL (PV.int .i64)) f43)))]⟩ ?_
 refine AL_inline (avs := [.p (.slc (List.map encRow l58)), .loc 7 1 0 0, .loc 8 1 0 0]) 159 rfl (guard_true' rfl rfl (by exact rfl) (by exact rfl)) rfl Tryz.func83 rfl Tryz.call83 Tryz.ntmps83 (by simp) (by simp only [go_sem, seval, h45T, h51F, h60, h63]; all_goals rfl) ?_
 intro i65 w66 h67
 show AWp _ _ _ ⟨[(0, .p (.slc (List.map encRow l58))), (1, .loc 7 1 0 0), (2, .loc 8 1 0 0)], [(7, .arr 134 1 1 [.mapo 16 1]), (8, .arr 52 1 1 [.own 200008 2 0 f43.length]), (16, .map 1 (List.map AV.p (encK encArr3_int64 f42)) (List.map AV.p (encW PV.bool f42))), (30, .arr 41 3 1 [.p (encTable t1)]), (31, .arr 24 2 1 [.p (encDenial d2)]), (200008, .arr 57 1 2 (List.map AV.p (List.map (encL (PV.int .i64)) f43)))]⟩
 refine zs (zr ?_)
 refine zU (zl (zn (zs (zr ?_))))
 refine zU (zl (zn (zs (zs (zr ?_)))))
 refine zU (zl (zn (zb ?_)))
 obtain ⟨l68, h69, h⟩ := zB h
 refine zO (fun (s : List Int × Int) => ⟨[(1, .loc 7 1 0 0), (2, .loc 8 1 0 0), (5, .own 178 1 0 s.1.length), (9, .p (.slc (List.map encRow l58))), (10, .p (.int .i64 (l58.length : Int))), (11, .p (.int .i64 s.2))], [(7, .arr 134 1 1 [.mapo 16 1]), (8, .arr 52 1 1 [.own 200008 2 0 f43.length]), (16, .map 1 (List.map AV.p (encK encArr3_int64 f42)) (List.map AV.p (encW PV.bool f42))), (30, .arr 41 3 1 [.p (encTable t1)]), (31, .arr 24 2 1 [.p (encDenial d2)]), (178, .arr 2 1 1 (List.map AV.p (List.map (PV.int .i64) s.1))), (200008, .arr 57 1 2 (List.map AV.p (List.map (encL (PV.int .i64)) f43)))]⟩) (fun (o70 : List Int) => tE ⟨Tryz.prog, 39, 159, X, [(7, .arr 134 1 1 [.mapo 16 1]), (8, .arr 52 1 1 [.own 200008 2 0 f43.length]), (16, .map 1 (List.map AV.p (encK encArr3_int64 f42)) (List.map AV.p (encW PV.bool f42))), (30, .arr 41 3 1 [.p (encTable t1)]), (31, .arr 24 2 1 [.p (encDenial d2)]), (200008, .arr 57 1 2 (List.map AV.p (List.map (encL (PV.int .i64)) f43)))], i65, w66, False, h67⟩ (.exit 0) ⟨[(1, .loc 7 1 0 0), (2, .loc 8 1 0 0), (5, .own 178 1 0 o70.length)], [(7, .arr 134 1 1 [.mapo 16 1]), (8, .arr 52 1 1 [.own 200008 2 0 f43.length]), (16, .map 1 (List.map AV.p (encK encArr3_int64 f42)) (List.map AV.p (encW PV.bool f42))), (30, .arr 41 3 1 [.p (encTable t1)]), (31, .arr 24 2 1 [.p (encDenial d2)]), (178, .arr 2 1 1 (List.map AV.p (List.map (PV.int .i64) o70))), (200008, .arr 57 1 2 (List.map AV.p (List.map (encL (PV.int .i64)) f43)))]⟩) h69 ?_ ?_
 clear h h45 h45T h47 h47a h47b h49 h51 h51F h52 h53 h54 h60 h62 h63 h69
 intro s x h
 obtain ⟨l71, t72⟩ := s
 simp only [denial_Violations_l134] at h
 dsimp only
 refine zs (zr ?_)
 refine zU (zl (zn (zs ?_)))
 rcases zI h with ⟨h73, h⟩ | ⟨h73, h⟩
 refine zi (zk (zn (zs (zb (zs (zr ?_))))))
 obtain ⟨x74, h75, h75a, h75b, h⟩ := zX h
 refine zU (zl (zn (zr ?_)))
 obtain ⟨h76, h⟩ := ite_some h
 refine zU (zl (yn (zn (zr ?_))))
 refine zU (zl ?_)
 cases h
 exact ⟨rfl, zE⟩
 refine zj (zx (ze ?_))
 cases h
 exact ⟨rfl, zE⟩
 try simp only at h
 refine zA (yh (zn (zs (zr ?_))))
 refine zU ?_
 refine zM ⟨[(1, .loc 7 1 0 0), (2, .loc 8 1 0 0), (5, .own 178 1 0 l68.length), (21, .own 178 1 0 l68.length)], [(7, .arr 134 1 1 [.mapo 16 1]), (8, .arr 52 1 1 [.own 200008 2 0 f43.length]), (16, .map 1 (List.map AV.p (encK encArr3_int64 f42)) (List.map AV.p (encW PV.bool f42))), (30, .arr 41 3 1 [.p (encTable t1)]), (31, .arr 24 2 1 [.p (encDenial d2)]), (178, .arr 2 1 1 (List.map AV.p (List.map (PV.int .i64) l68))), (200008, .arr 57 1 2 (List.map AV.p (List.map (encL (PV.int .i64)) f43)))]⟩ ?_
 obtain ⟨l77, h78, h⟩ := zB h
 refine zSI srt84 h78 ?_
 have h79 := srtIF_len h78
 refine zM ⟨[(1, .loc 7 1 0 0), (2, .loc 8 1 0 0), (5, .own 178 1 0 l77.length), (22, .p (.tup []))], [(7, .arr 134 1 1 [.mapo 16 1]), (8, .arr 52 1 1 [.own 200008 2 0 f43.length]), (16, .map 1 (List.map AV.p (encK encArr3_int64 f42)) (List.map AV.p (encW PV.bool f42))), (30, .arr 41 3 1 [.p (encTable t1)]), (31, .arr 24 2 1 [.p (encDenial d2)]), (178, .arr 2 1 1 (List.map AV.p (List.map (PV.int .i64) l77))), (200008, .arr 57 1 2 (List.map AV.p (List.map (encL (PV.int .i64)) f43)))]⟩ ?_
 clear h79
 refine zl (zn (zs (zr ?_)))
 refine zU (zl (zn (zs (zr ?_))))
 refine zM ⟨[(1, .loc 7 1 0 0), (2, .loc 8 1 0 0), (5, .p (.slc (List.map (PV.int .i64) l77))), (8, .loc 167 1 0 0)], [(7, .arr 134 1 1 [.mapo 16 1]), (8, .arr 52 1 1 [.own 200008 2 0 f43.length]), (16, .map 1 (List.map AV.p (encK encArr3_int64 f42)) (List.map AV.p (encW PV.bool f42))), (30, .arr 41 3 1 [.p (encTable t1)]), (31, .arr 24 2 1 [.p (encDenial d2)]), (167, .arr 137 3 1 [.p (.agg [.int .i64 0, .int .i64 0, .int .i64 0])]), (200008, .arr 57 1 2 (List.map AV.p (List.map (encL (PV.int .i64)) f43)))]⟩ ?_
 refine zCpa 167 0 0 0 l77 Tryz.underlying137 Tryz.underlying57 ?_
 refine zl (zn (zs (zs (zr ?_))))
 refine zU (zl (zn ?_))
 rcases zI h with ⟨h80, h⟩ | ⟨h80, h⟩
 refine zj (zk (zn (zs (zr ?_))))
 refine zU (zl (zn (zq ?_)))
 refine inlQ_ret (by simp only [Tryz.results83]; simp only [go_sem, seval, h45T, h51F, h60, h63, h80]; exact rfl) ?_
 refine zU (zl (zn (zq (zt ?_))))
 refine inlQ_ret (by simp only [Tryz.results82]; simp only [go_sem, seval, h45T, h51F, h60, h63, h80]; exact rfl) ?_
 refine zU (zl (zn ?_))
 rcases zI h with ⟨h81, h⟩ | ⟨h81, h⟩
 refine zj (zk (yn (zn (zr ?_))))
 refine zU (zl ?_)
 cases h
 exact ⟨rfl, zE⟩
 refine zi (zs (zr ?_))
 refine zU (zl (zn (zq (yr (zt ?_)))))
 cases h
 exact ⟨rfl, zE⟩
 have h80F := Bool.eq_false_iff.2 h80
 refine zi (zs (zr ?_))
 refine zU (zl (zn (zr ?_)))
 obtain ⟨h82, h⟩ := ite_some h
 refine zU (zl (zn (zs (zr ?_))))
 refine zU (zl (zn (zq ?_)))
 refine inlQ_ret (by simp only [Tryz.results83]; simp only [go_sem, seval, h45T, h51F, h60, h63, h80F]; exact rfl) ?_
 refine zU (zl (zn (zq (zt ?_))))
 refine inlQ_ret (by simp only [Tryz.results82]; simp only [go_sem, seval, h45T, h51F, h60, h63, h80F]; exact rfl) ?_
 refine zU (zl (zn ?_))
 rcases zI h with ⟨h83, h⟩ | ⟨h83, h⟩
 refine zj (zk (yn (zn (zr ?_))))
 refine zU (zl ?_)
 cases h
 exact ⟨rfl, zE⟩
 refine zi (zs (zr ?_))
 refine zU (zl (zn (zq (yr (zt ?_)))))
 cases h
 exact ⟨rfl, zE⟩
 have h63F := Bool.eq_false_iff.2 h63
 refine zw 21 true ?_
 refine zh ?_
 refine zU (zl (zn (zq (zt ?_))))
 refine inlQ_ret (by simp only [Tryz.results82]; simp only [go_sem, seval, h45T, h51F, h60, h63F]; exact rfl) ?_
 refine zU (zl (zn ?_))
 refine zj (zk (yn (zn (zr ?_))))
 refine zU (zl ?_)
 cases h
 exact ⟨rfl, zE⟩
 have h60F := Bool.eq_false_iff.2 h60
 refine zj (zk (zn (zs (zs (zr ?_)))))
 refine zU (zl (zn (zb ?_)))
 obtain ⟨o84, h85, h⟩ := zB h
 refine zO (fun (s : (List (Arr3_int64 × Bool)) × List (List Int) × Int) => ⟨[(2, .p (.slc (List.map encRow l58))), (3, .func (.func 83) [.loc 7 1 0 0, .loc 8 1 0 0]), (4, .loc 116 1 0 0), (5, .loc 117 1 0 0), (27, .p (.slc (List.map encRow t1.Rows))), (28, .p (.int .i64 (t1.Rows.length : Int))), (29, .p (.int .i64 s.2.2))], [(7, .arr 134 1 1 [.mapo 16 1]), (8, .arr 52 1 1 [.own 200008 3 0 s.2.1.length]), (16, .map 1 (List.map AV.p (encK encArr3_int64 s.1)) (List.map AV.p (encW PV.bool s.1))), (30, .arr 41 3 1 [.p (encTable t1)]), (31, .arr 24 2 1 [.p (encDenial d2)]), (116, .arr 41 3 1 [.p (encTable t1)]), (117, .arr 24 2 1 [.p (encDenial d2)]), (200008, .arr 57 1 3 (List.map AV.p (List.map (encL (PV.int .i64)) s.2.1)))]⟩) (fun (o : ((List (Arr3_int64 × Bool)) × List (List Int)) ⊕ ((List (Arr3_int64 × Bool)) × List (List Int))) => match o with | .inl o86 => tE ⟨Tryz.prog, 47, 112, X, [(7, .arr 134 1 1 [.mapo 16 1]), (8, .arr 52 1 1 [.own 200008 2 0 f43.length]), (16, .map 1 (List.map AV.p (encK encArr3_int64 f42)) (List.map AV.p (encW PV.bool f42))), (30, .arr 41 3 1 [.p (encTable t1)]), (31, .arr 24 2 1 [.p (encDenial d2)]), (200008, .arr 57 1 2 (List.map AV.p (List.map (encL (PV.int .i64)) f43)))], i55, w56, False, h57⟩ (.exit 0) ⟨[], [(7, .arr 134 1 1 [.mapo 16 1]), (8, .arr 52 1 1 [.own 200008 3 0 o86.2.length]), (16, .map 1 (List.map AV.p (encK encArr3_int64 o86.1)) (List.map AV.p (encW PV.bool o86.1))), (30, .arr 41 3 1 [.p (encTable t1)]), (31, .arr 24 2 1 [.p (encDenial d2)]), (200008, .arr 57 1 3 (List.map AV.p (List.map (encL (PV.int .i64)) o86.2)))]⟩ | .inr o87 => tE ⟨Tryz.prog, 47, 112, X, [(7, .arr 134 1 1 [.mapo 16 1]), (8, .arr 52 1 1 [.own 200008 2 0 f43.length]), (16, .map 1 (List.map AV.p (encK encArr3_int64 f42)) (List.map AV.p (encW PV.bool f42))), (30, .arr 41 3 1 [.p (encTable t1)]), (31, .arr 24 2 1 [.p (encDenial d2)]), (200008, .arr 57 1 2 (List.map AV.p (List.map (encL (PV.int .i64)) f43)))], i55, w56, False, h57⟩ .ret ⟨[(8, .p (.bool false))], [(7, .arr 134 1 1 [.mapo 16 1]), (8, .arr 52 1 1 [.own 200008 3 0 o87.2.length]), (16, .map 1 (List.map AV.p (encK encArr3_int64 o87.1)) (List.map AV.p (encW PV.bool o87.1))), (30, .arr 41 3 1 [.p (encTable t1)]), (31, .arr 24 2 1 [.p (encDenial d2)]), (200008, .arr 57 1 3 (List.map AV.p (List.map (encL (PV.int .i64)) o87.2)))]⟩) h85 ?_ ?_
 clear h h45 h45T h47 h47a h47b h49 h51 h51F h52 h53 h54 h60 h60F h85
 intro s x h
 obtain ⟨f88, f89, t90⟩ := s
 simp only [denial_Violations_l159] at h
 dsimp only
 refine zs (zr ?_)
 refine zU (zl (zn (zs ?_)))
 rcases zI h with ⟨h91, h⟩ | ⟨h91, h⟩
 have h91T := eq_true h91
 refine zi (zk (zn (zs (zb (zs (zr ?_))))))
 obtain ⟨x92, h93, h93a, h93b, h⟩ := zX h
 refine zU (zl (zn (zs (zs (zr ?_)))))
 refine zU ?_
 obtain ⟨r94, h95, h⟩ := zB h
 refine zc (slices_ContainsFunc_Row_con l58 (fun (y96 : Row) => denial_visit_1 y96 x92) 125 [.imm [.int .i64 x92.ID, .slc (List.map encValue x92.Values)]] (fun y96 r h => denial_visit_1_con y96 x92 r h) _ h95) ?_
 refine zl (zn ?_)
 rcases zI h with ⟨h97, h⟩ | ⟨h97, h⟩
 refine zi (zx (ze (yh (zn (zr ?_)))))
 refine zU (zl ?_)
 cases h
 exact ⟨rfl, zE⟩
 have h97F := Bool.eq_false_iff.2 h97
 refine zj (zk (zn (zs ?_)))
 refine zdl 8 ?_
 refine yU ?_
 obtain ⟨h98, h⟩ := ite_some h
 refine yK cln126 151 encRow l58 _ rfl ⟨by unfold maxLen; omega, by omega⟩ ?_
 have h99 := @take_cut PV
 obtain ⟨h100, h⟩ := ite_some h
 refine yU ?_
 refine ydlS ?_
 refine zM ⟨[(2, .p (.slc (List.map encRow l58))), (3, .func (.func 83) [.loc 7 1 0 0, .loc 8 1 0 0]), (4, .loc 116 1 0 0), (5, .loc 117 1 0 0), (27, .p (.slc (List.map encRow t1.Rows))), (28, .p (.int .i64 (t1.Rows.length : Int))), (29, .p (.int .i64 t90)), (36, .p (encTable t1)), (37, .p (encDenial d2)), (42, .p (.slc (List.map encRow (l58 ++ [x92])))), (43, .func (.func 83) [.loc 7 1 0 0, .loc 8 1 0 0])], [(7, .arr 134 1 1 [.mapo 16 1]), (8, .arr 52 1 1 [.own 200008 3 0 f89.length]), (16, .map 1 (List.map AV.p (encK encArr3_int64 f88)) (List.map AV.p (encW PV.bool f88))), (30, .arr 41 3 1 [.p (encTable t1)]), (31, .arr 24 2 1 [.p (encDenial d2)]), (116, .arr 41 3 1 [.p (encTable t1)]), (117, .arr 24 2 1 [.p (encDenial d2)]), (200008, .arr 57 1 3 (List.map AV.p (List.map (encL (PV.int .i64)) f89)))]⟩ ?_
 refine AL_inline (avs := [.p (encTable t1), .p (encDenial d2), .p (.slc (List.map encRow (l58 ++ [x92]))), .func (.func 83) [.loc 7 1 0 0, .loc 8 1 0 0]]) 198 rfl (guard_none rfl) rfl Tryz.func82 rfl Tryz.call82 Tryz.ntmps82 (by simp) (by simp only [go_sem, seval, h91T, h97F]; all_goals rfl) ?_
 intro i101 w102 h103
 obtain ⟨l104, h105, h⟩ := zB h
 replace h105 := Option.some.inj h105
 refine awp_le (st' := ⟨[(0, .p (encTable t1)), (1, .p (encDenial d2)), (2, .p (.slc (List.map encRow l104))), (3, .func (.func 83) [.loc 7 1 0 0, .loc 8 1 0 0])], [(7, .arr 134 1 1 [.mapo 16 1]), (8, .arr 52 1 1 [.own 200008 3 0 f89.length]), (16, .map 1 (List.map AV.p (encK encArr3_int64 f88)) (List.map AV.p (encW PV.bool f88))), (30, .arr 41 3 1 [.p (encTable t1)]), (31, .arr 24 2 1 [.p (encDenial d2)]), (116, .arr 41 3 1 [.p (encTable t1)]), (117, .arr 24 2 1 [.p (encDenial d2)]), (200008, .arr 57 1 3 (List.map AV.p (List.map (encL (PV.int .i64)) f89)))]⟩) (by simp only [go_sem, seval, h91T, h97F, ← h105]; all_goals ((repeat' refine And.intro ?_ ?_) <;> first | rfl | (simp; done) | (simp; rfl) | (simp [*]; done) | (simp [*]; rfl))) ?_
 clear h105
 refine zs (zr ?_)
 refine zU (zl (zn (zs (zs (zr ?_)))))
 refine zU (zl (zn ?_))
 rcases zI h with ⟨h106, h⟩ | ⟨h106, h⟩
 refine zi (zs (zr ?_))
 refine zU ?_
 obtain ⟨r107, h108, h⟩ := zB h
 refine zc (denial_satisfied_con l104 d2.Atoms _ h108) ?_
 refine zU ?_
 rcases zI h with ⟨h109, h⟩ | ⟨h109, h⟩
 refine zw 21 false ?_
 refine zg ?_
 refine zg ?_
 refine zM ⟨[(21, .p (.bool false)), (22, .func (.func 83) [.loc 7 1 0 0, .loc 8 1 0 0]), (23, .p (.slc (List.map encRow l104)))], [(7, .arr 134 1 1 [.mapo 16 1]), (8, .arr 52 1 1 [.own 200008 3 0 f89.length]), (16, .map 1 (List.map AV.p (encK encArr3_int64 f88)) (List.map AV.p (encW PV.bool f88))), (30, .arr 41 3 1 [.p (encTable t1)]), (31, .arr 24 2 1 [.p (encDenial d2)]), (116, .arr 41 3 1 [.p (encTable t1)]), (117, .arr 24 2 1 [.p (encDenial d2)]), (200008, .arr 57 1 3 (List.map AV.p (List.map (encL (PV.int .i64)) f89)))]⟩ ?_
 refine AL_inline (avs := [.p (.slc (List.map encRow l104)), .loc 7 1 0 0, .loc 8 1 0 0]) 245 rfl (guard_true' rfl rfl (by exact rfl) (by exact rfl)) rfl Tryz.func83 rfl Tryz.call83 Tryz.ntmps83 (by simp) (by simp only [go_sem, seval, h91T, h97F, h106, h109]; all_goals rfl) ?_
 intro i110 w111 h112
 show AWp _ _ _ ⟨[(0, .p (.slc (List.map encRow l104))), (1, .loc 7 1 0 0), (2, .loc 8 1 0 0)], [(7, .arr 134 1 1 [.mapo 16 1]), (8, .arr 52 1 1 [.own 200008 3 0 f89.length]), (16, .map 1 (List.map AV.p (encK encArr3_int64 f88)) (List.map AV.p (encW PV.bool f88))), (30, .arr 41 3 1 [.p (encTable t1)]), (31, .arr 24 2 1 [.p (encDenial d2)]), (116, .arr 41 3 1 [.p (encTable t1)]), (117, .arr 24 2 1 [.p (encDenial d2)]), (200008, .arr 57 1 3 (List.map AV.p (List.map (encL (PV.int .i64)) f89)))]⟩
 refine zs (zr ?_)
 refine zU (zl (zn (zs (zr ?_))))
 refine zU (zl (zn (zs (zs (zr ?_)))))
 refine zU (zl (zn (zb ?_)))
 obtain ⟨l113, h114, h⟩ := zB h
 refine zO (fun (s : List Int × Int) => ⟨[(1, .loc 7 1 0 0), (2, .loc 8 1 0 0), (5, .own 264 1 0 s.1.length), (9, .p (.slc (List.map encRow l104))), (10, .p (.int .i64 (l104.length : Int))), (11, .p (.int .i64 s.2))], [(7, .arr 134 1 1 [.mapo 16 1]), (8, .arr 52 1 1 [.own 200008 3 0 f89.length]), (16, .map 1 (List.map AV.p (encK encArr3_int64 f88)) (List.map AV.p (encW PV.bool f88))), (30, .arr 41 3 1 [.p (encTable t1)]), (31, .arr 24 2 1 [.p (encDenial d2)]), (116, .arr 41 3 1 [.p (encTable t1)]), (117, .arr 24 2 1 [.p (encDenial d2)]), (264, .arr 2 1 1 (List.map AV.p (List.map (PV.int .i64) s.1))), (200008, .arr 57 1 3 (List.map AV.p (List.map (encL (PV.int .i64)) f89)))]⟩) (fun (o115 : List Int) => tE ⟨Tryz.prog, 39, 245, X, [(7, .arr 134 1 1 [.mapo 16 1]), (8, .arr 52 1 1 [.own 200008 3 0 f89.length]), (16, .map 1 (List.map AV.p (encK encArr3_int64 f88)) (List.map AV.p (encW PV.bool f88))), (30, .arr 41 3 1 [.p (encTable t1)]), (31, .arr 24 2 1 [.p (encDenial d2)]), (116, .arr 41 3 1 [.p (encTable t1)]), (117, .arr 24 2 1 [.p (encDenial d2)]), (200008, .arr 57 1 3 (List.map AV.p (List.map (encL (PV.int .i64)) f89)))], i110, w111, False, h112⟩ (.exit 0) ⟨[(1, .loc 7 1 0 0), (2, .loc 8 1 0 0), (5, .own 264 1 0 o115.length)], [(7, .arr 134 1 1 [.mapo 16 1]), (8, .arr 52 1 1 [.own 200008 3 0 f89.length]), (16, .map 1 (List.map AV.p (encK encArr3_int64 f88)) (List.map AV.p (encW PV.bool f88))), (30, .arr 41 3 1 [.p (encTable t1)]), (31, .arr 24 2 1 [.p (encDenial d2)]), (116, .arr 41 3 1 [.p (encTable t1)]), (117, .arr 24 2 1 [.p (encDenial d2)]), (264, .arr 2 1 1 (List.map AV.p (List.map (PV.int .i64) o115))), (200008, .arr 57 1 3 (List.map AV.p (List.map (encL (PV.int .i64)) f89)))]⟩) h114 ?_ ?_
 clear h h91 h91T h93 h93a h93b h95 h97 h97F h98 h99 h100 h106 h108 h109 h114
 intro s x h
 obtain ⟨l116, t117⟩ := s
 simp only [denial_Violations_l151] at h
 dsimp only
 refine zs (zr ?_)
 refine zU (zl (zn (zs ?_)))
 rcases zI h with ⟨h118, h⟩ | ⟨h118, h⟩
 refine zi (zk (zn (zs (zb (zs (zr ?_))))))
 obtain ⟨x119, h120, h120a, h120b, h⟩ := zX h
 refine zU (zl (zn (zr ?_)))
 obtain ⟨h121, h⟩ := ite_some h
 refine zU (zl (yn (zn (zr ?_))))
 refine zU (zl ?_)
 cases h
 exact ⟨rfl, zE⟩
 refine zj (zx (ze ?_))
 cases h
 exact ⟨rfl, zE⟩
 try simp only at h
 refine zA (yh (zn (zs (zr ?_))))
 refine zU ?_
 refine zM ⟨[(1, .loc 7 1 0 0), (2, .loc 8 1 0 0), (5, .own 264 1 0 l113.length), (21, .own 264 1 0 l113.length)], [(7, .arr 134 1 1 [.mapo 16 1]), (8, .arr 52 1 1 [.own 200008 3 0 f89.length]), (16, .map 1 (List.map AV.p (encK encArr3_int64 f88)) (List.map AV.p (encW PV.bool f88))), (30, .arr 41 3 1 [.p (encTable t1)]), (31, .arr 24 2 1 [.p (encDenial d2)]), (116, .arr 41 3 1 [.p (encTable t1)]), (117, .arr 24 2 1 [.p (encDenial d2)]), (264, .arr 2 1 1 (List.map AV.p (List.map (PV.int .i64) l113))), (200008, .arr 57 1 3 (List.map AV.p (List.map (encL (PV.int .i64)) f89)))]⟩ ?_
 obtain ⟨l122, h123, h⟩ := zB h
 refine zSI srt84 h123 ?_
 have h124 := srtIF_len h123
 refine zM ⟨[(1, .loc 7 1 0 0), (2, .loc 8 1 0 0), (5, .own 264 1 0 l122.length), (22, .p (.tup []))], [(7, .arr 134 1 1 [.mapo 16 1]), (8, .arr 52 1 1 [.own 200008 3 0 f89.length]), (16, .map 1 (List.map AV.p (encK encArr3_int64 f88)) (List.map AV.p (encW PV.bool f88))), (30, .arr 41 3 1 [.p (encTable t1)]), (31, .arr 24 2 1 [.p (encDenial d2)]), (116, .arr 41 3 1 [.p (encTable t1)]), (117, .arr 24 2 1 [.p (encDenial d2)]), (264, .arr 2 1 1 (List.map AV.p (List.map (PV.int .i64) l122))), (200008, .arr 57 1 3 (List.map AV.p (List.map (encL (PV.int .i64)) f89)))]⟩ ?_
 clear h124
 refine zl (zn (zs (zr ?_)))
 refine zU (zl (zn (zs (zr ?_))))
 refine zM ⟨[(1, .loc 7 1 0 0), (2, .loc 8 1 0 0), (5, .p (.slc (List.map (PV.int .i64) l122))), (8, .loc 253 1 0 0)], [(7, .arr 134 1 1 [.mapo 16 1]), (8, .arr 52 1 1 [.own 200008 3 0 f89.length]), (16, .map 1 (List.map AV.p (encK encArr3_int64 f88)) (List.map AV.p (encW PV.bool f88))), (30, .arr 41 3 1 [.p (encTable t1)]), (31, .arr 24 2 1 [.p (encDenial d2)]), (116, .arr 41 3 1 [.p (encTable t1)]), (117, .arr 24 2 1 [.p (encDenial d2)]), (253, .arr 137 3 1 [.p (.agg [.int .i64 0, .int .i64 0, .int .i64 0])]), (200008, .arr 57 1 3 (List.map AV.p (List.map (encL (PV.int .i64)) f89)))]⟩ ?_
 refine zCpa 253 0 0 0 l122 Tryz.underlying137 Tryz.underlying57 ?_
 refine zl (zn (zs (zs (zr ?_))))
 refine zU (zl (zn ?_))
 rcases zI h with ⟨h125, h⟩ | ⟨h125, h⟩
 refine zj (zk (zn (zs (zr ?_))))
 refine zU (zl (zn (zq ?_)))
 refine inlQ_ret (by simp only [Tryz.results83]; simp only [go_sem, seval, h91T, h97F, h106, h109, h125]; exact rfl) ?_
 refine zU (zl (zn (zq (zt ?_))))
 refine inlQ_ret (by simp only [Tryz.results82]; simp only [go_sem, seval, h91T, h97F, h106, h109, h125]; exact rfl) ?_
 refine zU (zl (zn ?_))
 rcases zI h with ⟨h126, h⟩ | ⟨h126, h⟩
 refine zj (zk (yn (zn (zr ?_))))
 refine zU (zl ?_)
 cases h
 exact ⟨rfl, zE⟩
 refine zi (zs (zr ?_))
 refine zU (zl (zn (zq (yr (zt ?_)))))
 cases h
 exact ⟨rfl, zE⟩
 have h125F := Bool.eq_false_iff.2 h125
 refine zi (zs (zr ?_))
 refine zU (zl (zn (zr ?_)))
 obtain ⟨h127, h⟩ := ite_some h
 refine zU (zl (zn (zs (zr ?_))))
 refine zU (zl (zn (zq ?_)))
 refine inlQ_ret (by simp only [Tryz.results83]; simp only [go_sem, seval, h91T, h97F, h106, h109, h125F]; exact rfl) ?_
 refine zU (zl (zn (zq (zt ?_))))
 refine inlQ_ret (by simp only [Tryz.results82]; simp only [go_sem, seval, h91T, h97F, h106, h109, h125F]; exact rfl) ?_
 refine zU (zl (zn ?_))
 rcases zI h with ⟨h128, h⟩ | ⟨h128, h⟩
 refine zj (zk (yn (zn (zr ?_))))
 refine zU (zl ?_)
 cases h
 exact ⟨rfl, zE⟩
 refine zi (zs (zr ?_))
 refine zU (zl (zn (zq (yr (zt ?_)))))
 cases h
 exact ⟨rfl, zE⟩
 have h109F := Bool.eq_false_iff.2 h109
 refine zw 21 true ?_
 refine zh ?_
 refine zU (zl (zn (zq (zt ?_))))
 refine inlQ_ret (by simp only [Tryz.results82]; simp only [go_sem, seval, h91T, h97F, h106, h109F]; exact rfl) ?_
 refine zU (zl (zn ?_))
 refine zj (zk (yn (zn (zr ?_))))
 refine zU (zl ?_)
 cases h
 exact ⟨rfl, zE⟩
 have h106F := Bool.eq_false_iff.2 h106
 refine zj (zk (zn (zs (zs (zr ?_)))))
 refine zU (zl (zn (zb ?_)))
 obtain ⟨o129, h130, h⟩ := zB h
 refine zO (fun (s : (List (Arr3_int64 × Bool)) × List (List Int) × Int) => ⟨[(2, .p (.slc (List.map encRow l104))), (3, .func (.func 83) [.loc 7 1 0 0, .loc 8 1 0 0]), (4, .loc 202 1 0 0), (5, .loc 203 1 0 0), (27, .p (.slc (List.map encRow t1.Rows))), (28, .p (.int .i64 (t1.Rows.length : Int))), (29, .p (.int .i64 s.2.2))], [(7, .arr 134 1 1 [.mapo 16 1]), (8, .arr 52 1 1 [.own 200008 4 0 s.2.1.length]), (16, .map 1 (List.map AV.p (encK encArr3_int64 s.1)) (List.map AV.p (encW PV.bool s.1))), (30, .arr 41 3 1 [.p (encTable t1)]), (31, .arr 24 2 1 [.p (encDenial d2)]), (116, .arr 41 3 1 [.p (encTable t1)]), (117, .arr 24 2 1 [.p (encDenial d2)]), (202, .arr 41 3 1 [.p (encTable t1)]), (203, .arr 24 2 1 [.p (encDenial d2)]), (200008, .arr 57 1 4 (List.map AV.p (List.map (encL (PV.int .i64)) s.2.1)))]⟩) (fun (o : ((List (Arr3_int64 × Bool)) × List (List Int)) ⊕ ((List (Arr3_int64 × Bool)) × List (List Int))) => match o with | .inl o131 => tE ⟨Tryz.prog, 47, 198, X, [(7, .arr 134 1 1 [.mapo 16 1]), (8, .arr 52 1 1 [.own 200008 3 0 f89.length]), (16, .map 1 (List.map AV.p (encK encArr3_int64 f88)) (List.map AV.p (encW PV.bool f88))), (30, .arr 41 3 1 [.p (encTable t1)]), (31, .arr 24 2 1 [.p (encDenial d2)]), (116, .arr 41 3 1 [.p (encTable t1)]), (117, .arr 24 2 1 [.p (encDenial d2)]), (200008, .arr 57 1 3 (List.map AV.p (List.map (encL (PV.int .i64)) f89)))], i101, w102, False, h103⟩ (.exit 0) ⟨[], [(7, .arr 134 1 1 [.mapo 16 1]), (8, .arr 52 1 1 [.own 200008 4 0 o131.2.length]), (16, .map 1 (List.map AV.p (encK encArr3_int64 o131.1)) (List.map AV.p (encW PV.bool o131.1))), (30, .arr 41 3 1 [.p (encTable t1)]), (31, .arr 24 2 1 [.p (encDenial d2)]), (116, .arr 41 3 1 [.p (encTable t1)]), (117, .arr 24 2 1 [.p (encDenial d2)]), (200008, .arr 57 1 4 (List.map AV.p (List.map (encL (PV.int .i64)) o131.2)))]⟩ | .inr o132 => tE ⟨Tryz.prog, 47, 198, X, [(7, .arr 134 1 1 [.mapo 16 1]), (8, .arr 52 1 1 [.own 200008 3 0 f89.length]), (16, .map 1 (List.map AV.p (encK encArr3_int64 f88)) (List.map AV.p (encW PV.bool f88))), (30, .arr 41 3 1 [.p (encTable t1)]), (31, .arr 24 2 1 [.p (encDenial d2)]), (116, .arr 41 3 1 [.p (encTable t1)]), (117, .arr 24 2 1 [.p (encDenial d2)]), (200008, .arr 57 1 3 (List.map AV.p (List.map (encL (PV.int .i64)) f89)))], i101, w102, False, h103⟩ .ret ⟨[(8, .p (.bool false))], [(7, .arr 134 1 1 [.mapo 16 1]), (8, .arr 52 1 1 [.own 200008 4 0 o132.2.length]), (16, .map 1 (List.map AV.p (encK encArr3_int64 o132.1)) (List.map AV.p (encW PV.bool o132.1))), (30, .arr 41 3 1 [.p (encTable t1)]), (31, .arr 24 2 1 [.p (encDenial d2)]), (116, .arr 41 3 1 [.p (encTable t1)]), (117, .arr 24 2 1 [.p (encDenial d2)]), (200008, .arr 57 1 4 (List.map AV.p (List.map (encL (PV.int .i64)) o132.2)))]⟩) h130 ?_ ?_
 clear h h91 h91T h93 h93a h93b h95 h97 h97F h98 h99 h100 h106 h106F h130
 intro s x h
 obtain ⟨f133, f134, t135⟩ := s
 simp only [denial_Violations_l158] at h
 dsimp only
 refine zs (zr ?_)
 refine zU (zl (zn (zs ?_)))
 rcases zI h with ⟨h136, h⟩ | ⟨h136, h⟩
 have h136T := eq_true h136
 refine zi (zk (zn (zs (zb (zs (zr ?_))))))
 obtain ⟨x137, h138, h138a, h138b, h⟩ := zX h
 refine zU (zl (zn (zs (zs (zr ?_)))))
 refine zU ?_
 obtain ⟨r139, h140, h⟩ := zB h
 refine zc (slices_ContainsFunc_Row_con l104 (fun (y141 : Row) => denial_visit_1 y141 x137) 125 [.imm [.int .i64 x137.ID, .slc (List.map encValue x137.Values)]] (fun y141 r h => denial_visit_1_con y141 x137 r h) _ h140) ?_
 refine zl (zn ?_)
 rcases zI h with ⟨h142, h⟩ | ⟨h142, h⟩
 refine zi (zx (ze (yh (zn (zr ?_)))))
 refine zU (zl ?_)
 cases h
 exact ⟨rfl, zE⟩
 have h142F := Bool.eq_false_iff.2 h142
 refine zj (zk (zn (zs ?_)))
 refine zdl 8 ?_
 refine yU ?_
 obtain ⟨h143, h⟩ := ite_some h
 refine yK cln126 237 encRow l104 _ rfl ⟨by unfold maxLen; omega, by omega⟩ ?_
 have h144 := @take_cut PV
 obtain ⟨h145, h⟩ := ite_some h
 refine yU ?_
 refine ydlS ?_
 refine zM ⟨[(2, .p (.slc (List.map encRow l104))), (3, .func (.func 83) [.loc 7 1 0 0, .loc 8 1 0 0]), (4, .loc 202 1 0 0), (5, .loc 203 1 0 0), (27, .p (.slc (List.map encRow t1.Rows))), (28, .p (.int .i64 (t1.Rows.length : Int))), (29, .p (.int .i64 t135)), (36, .p (encTable t1)), (37, .p (encDenial d2)), (42, .p (.slc (List.map encRow (l104 ++ [x137])))), (43, .func (.func 83) [.loc 7 1 0 0, .loc 8 1 0 0])], [(7, .arr 134 1 1 [.mapo 16 1]), (8, .arr 52 1 1 [.own 200008 4 0 f134.length]), (16, .map 1 (List.map AV.p (encK encArr3_int64 f133)) (List.map AV.p (encW PV.bool f133))), (30, .arr 41 3 1 [.p (encTable t1)]), (31, .arr 24 2 1 [.p (encDenial d2)]), (116, .arr 41 3 1 [.p (encTable t1)]), (117, .arr 24 2 1 [.p (encDenial d2)]), (202, .arr 41 3 1 [.p (encTable t1)]), (203, .arr 24 2 1 [.p (encDenial d2)]), (200008, .arr 57 1 4 (List.map AV.p (List.map (encL (PV.int .i64)) f134)))]⟩ ?_
 refine AL_inline (avs := [.p (encTable t1), .p (encDenial d2), .p (.slc (List.map encRow (l104 ++ [x137]))), .func (.func 83) [.loc 7 1 0 0, .loc 8 1 0 0]]) 284 rfl (guard_none rfl) rfl Tryz.func82 rfl Tryz.call82 Tryz.ntmps82 (by simp) (by simp only [go_sem, seval, h136T, h142F]; all_goals rfl) ?_
 intro i146 w147 h148
 obtain ⟨l149, h150, h⟩ := zB h
 replace h150 := Option.some.inj h150
 refine awp_le (st' := ⟨[(0, .p (encTable t1)), (1, .p (encDenial d2)), (2, .p (.slc (List.map encRow l149))), (3, .func (.func 83) [.loc 7 1 0 0, .loc 8 1 0 0])], [(7, .arr 134 1 1 [.mapo 16 1]), (8, .arr 52 1 1 [.own 200008 4 0 f134.length]), (16, .map 1 (List.map AV.p (encK encArr3_int64 f133)) (List.map AV.p (encW PV.bool f133))), (30, .arr 41 3 1 [.p (encTable t1)]), (31, .arr 24 2 1 [.p (encDenial d2)]), (116, .arr 41 3 1 [.p (encTable t1)]), (117, .arr 24 2 1 [.p (encDenial d2)]), (202, .arr 41 3 1 [.p (encTable t1)]), (203, .arr 24 2 1 [.p (encDenial d2)]), (200008, .arr 57 1 4 (List.map AV.p (List.map (encL (PV.int .i64)) f134)))]⟩) (by simp only [go_sem, seval, h136T, h142F, ← h150]; all_goals ((repeat' refine And.intro ?_ ?_) <;> first | rfl | (simp; done) | (simp; rfl) | (simp [*]; done) | (simp [*]; rfl))) ?_
 clear h150
 refine zs (zr ?_)
 refine zU (zl (zn (zs (zs (zr ?_)))))
 refine zU (zl (zn ?_))
 rcases zI h with ⟨h151, h⟩ | ⟨h151, h⟩
 refine zi (zs (zr ?_))
 refine zU ?_
 obtain ⟨r152, h153, h⟩ := zB h
 refine zc (denial_satisfied_con l149 d2.Atoms _ h153) ?_
 refine zU ?_
 rcases zI h with ⟨h154, h⟩ | ⟨h154, h⟩
 refine zw 21 false ?_
 refine zg ?_
 refine zg ?_
 refine zM ⟨[(21, .p (.bool false)), (22, .func (.func 83) [.loc 7 1 0 0, .loc 8 1 0 0]), (23, .p (.slc (List.map encRow l149)))], [(7, .arr 134 1 1 [.mapo 16 1]), (8, .arr 52 1 1 [.own 200008 4 0 f134.length]), (16, .map 1 (List.map AV.p (encK encArr3_int64 f133)) (List.map AV.p (encW PV.bool f133))), (30, .arr 41 3 1 [.p (encTable t1)]), (31, .arr 24 2 1 [.p (encDenial d2)]), (116, .arr 41 3 1 [.p (encTable t1)]), (117, .arr 24 2 1 [.p (encDenial d2)]), (202, .arr 41 3 1 [.p (encTable t1)]), (203, .arr 24 2 1 [.p (encDenial d2)]), (200008, .arr 57 1 4 (List.map AV.p (List.map (encL (PV.int .i64)) f134)))]⟩ ?_
 refine AL_inline (avs := [.p (.slc (List.map encRow l149)), .loc 7 1 0 0, .loc 8 1 0 0]) 331 rfl (guard_true' rfl rfl (by exact rfl) (by exact rfl)) rfl Tryz.func83 rfl Tryz.call83 Tryz.ntmps83 (by simp) (by simp only [go_sem, seval, h136T, h142F, h151, h154]; all_goals rfl) ?_
 intro i155 w156 h157
 show AWp _ _ _ ⟨[(0, .p (.slc (List.map encRow l149))), (1, .loc 7 1 0 0), (2, .loc 8 1 0 0)], [(7, .arr 134 1 1 [.mapo 16 1]), (8, .arr 52 1 1 [.own 200008 4 0 f134.length]), (16, .map 1 (List.map AV.p (encK encArr3_int64 f133)) (List.map AV.p (encW PV.bool f133))), (30, .arr 41 3 1 [.p (encTable t1)]), (31, .arr 24 2 1 [.p (encDenial d2)]), (116, .arr 41 3 1 [.p (encTable t1)]), (117, .arr 24 2 1 [.p (encDenial d2)]), (202, .arr 41 3 1 [.p (encTable t1)]), (203, .arr 24 2 1 [.p (encDenial d2)]), (200008, .arr 57 1 4 (List.map AV.p (List.map (encL (PV.int .i64)) f134)))]⟩
 refine zs (zr ?_)
 refine zU (zl (zn (zs (zr ?_))))
 refine zU (zl (zn (zs (zs (zr ?_)))))
 refine zU (zl (zn (zb ?_)))
 obtain ⟨l158, h159, h⟩ := zB h
 refine zO (fun (s : List Int × Int) => ⟨[(1, .loc 7 1 0 0), (2, .loc 8 1 0 0), (5, .own 350 1 0 s.1.length), (9, .p (.slc (List.map encRow l149))), (10, .p (.int .i64 (l149.length : Int))), (11, .p (.int .i64 s.2))], [(7, .arr 134 1 1 [.mapo 16 1]), (8, .arr 52 1 1 [.own 200008 4 0 f134.length]), (16, .map 1 (List.map AV.p (encK encArr3_int64 f133)) (List.map AV.p (encW PV.bool f133))), (30, .arr 41 3 1 [.p (encTable t1)]), (31, .arr 24 2 1 [.p (encDenial d2)]), (116, .arr 41 3 1 [.p (encTable t1)]), (117, .arr 24 2 1 [.p (encDenial d2)]), (202, .arr 41 3 1 [.p (encTable t1)]), (203, .arr 24 2 1 [.p (encDenial d2)]), (350, .arr 2 1 1 (List.map AV.p (List.map (PV.int .i64) s.1))), (200008, .arr 57 1 4 (List.map AV.p (List.map (encL (PV.int .i64)) f134)))]⟩) (fun (o160 : List Int) => tE ⟨Tryz.prog, 39, 331, X, [(7, .arr 134 1 1 [.mapo 16 1]), (8, .arr 52 1 1 [.own 200008 4 0 f134.length]), (16, .map 1 (List.map AV.p (encK encArr3_int64 f133)) (List.map AV.p (encW PV.bool f133))), (30, .arr 41 3 1 [.p (encTable t1)]), (31, .arr 24 2 1 [.p (encDenial d2)]), (116, .arr 41 3 1 [.p (encTable t1)]), (117, .arr 24 2 1 [.p (encDenial d2)]), (202, .arr 41 3 1 [.p (encTable t1)]), (203, .arr 24 2 1 [.p (encDenial d2)]), (200008, .arr 57 1 4 (List.map AV.p (List.map (encL (PV.int .i64)) f134)))], i155, w156, False, h157⟩ (.exit 0) ⟨[(1, .loc 7 1 0 0), (2, .loc 8 1 0 0), (5, .own 350 1 0 o160.length)], [(7, .arr 134 1 1 [.mapo 16 1]), (8, .arr 52 1 1 [.own 200008 4 0 f134.length]), (16, .map 1 (List.map AV.p (encK encArr3_int64 f133)) (List.map AV.p (encW PV.bool f133))), (30, .arr 41 3 1 [.p (encTable t1)]), (31, .arr 24 2 1 [.p (encDenial d2)]), (116, .arr 41 3 1 [.p (encTable t1)]), (117, .arr 24 2 1 [.p (encDenial d2)]), (202, .arr 41 3 1 [.p (encTable t1)]), (203, .arr 24 2 1 [.p (encDenial d2)]), (350, .arr 2 1 1 (List.map AV.p (List.map (PV.int .i64) o160))), (200008, .arr 57 1 4 (List.map AV.p (List.map (encL (PV.int .i64)) f134)))]⟩) h159 ?_ ?_
 clear h h136 h136T h138 h138a h138b h140 h142 h142F h143 h144 h145 h151 h153 h154 h159
 intro s x h
 obtain ⟨l161, t162⟩ := s
 simp only [denial_Violations_l156] at h
 dsimp only
 refine zs (zr ?_)
 refine zU (zl (zn (zs ?_)))
 rcases zI h with ⟨h163, h⟩ | ⟨h163, h⟩
 refine zi (zk (zn (zs (zb (zs (zr ?_))))))
 obtain ⟨x164, h165, h165a, h165b, h⟩ := zX h
 refine zU (zl (zn (zr ?_)))
 obtain ⟨h166, h⟩ := ite_some h
 refine zU (zl (yn (zn (zr ?_))))
 refine zU (zl ?_)
 cases h
 exact ⟨rfl, zE⟩
 refine zj (zx (ze ?_))
 cases h
 exact ⟨rfl, zE⟩
 try simp only at h
 refine zA (yh (zn (zs (zr ?_))))
 refine zU ?_
 refine zM ⟨[(1, .loc 7 1 0 0), (2, .loc 8 1 0 0), (5, .own 350 1 0 l158.length), (21, .own 350 1 0 l158.length)], [(7, .arr 134 1 1 [.mapo 16 1]), (8, .arr 52 1 1 [.own 200008 4 0 f134.length]), (16, .map 1 (List.map AV.p (encK encArr3_int64 f133)) (List.map AV.p (encW PV.bool f133))), (30, .arr 41 3 1 [.p (encTable t1)]), (31, .arr 24 2 1 [.p (encDenial d2)]), (116, .arr 41 3 1 [.p (encTable t1)]), (117, .arr 24 2 1 [.p (encDenial d2)]), (202, .arr 41 3 1 [.p (encTable t1)]), (203, .arr 24 2 1 [.p (encDenial d2)]), (350, .arr 2 1 1 (List.map AV.p (List.map (PV.int .i64) l158))), (200008, .arr 57 1 4 (List.map AV.p (List.map (encL (PV.int .i64)) f134)))]⟩ ?_
 obtain ⟨l167, h168, h⟩ := zB h
 refine zSI srt84 h168 ?_
 have h169 := srtIF_len h168
 refine zM ⟨[(1, .loc 7 1 0 0), (2, .loc 8 1 0 0), (5, .own 350 1 0 l167.length), (22, .p (.tup []))], [(7, .arr 134 1 1 [.mapo 16 1]), (8, .arr 52 1 1 [.own 200008 4 0 f134.length]), (16, .map 1 (List.map AV.p (encK encArr3_int64 f133)) (List.map AV.p (encW PV.bool f133))), (30, .arr 41 3 1 [.p (encTable t1)]), (31, .arr 24 2 1 [.p (encDenial d2)]), (116, .arr 41 3 1 [.p (encTable t1)]), (117, .arr 24 2 1 [.p (encDenial d2)]), (202, .arr 41 3 1 [.p (encTable t1)]), (203, .arr 24 2 1 [.p (encDenial d2)]), (350, .arr 2 1 1 (List.map AV.p (List.map (PV.int .i64) l167))), (200008, .arr 57 1 4 (List.map AV.p (List.map (encL (PV.int .i64)) f134)))]⟩ ?_
 clear h169
 refine zl (zn (zs (zr ?_)))
 refine zU (zl (zn (zs (zr ?_))))
 refine zM ⟨[(1, .loc 7 1 0 0), (2, .loc 8 1 0 0), (5, .p (.slc (List.map (PV.int .i64) l167))), (8, .loc 339 1 0 0)], [(7, .arr 134 1 1 [.mapo 16 1]), (8, .arr 52 1 1 [.own 200008 4 0 f134.length]), (16, .map 1 (List.map AV.p (encK encArr3_int64 f133)) (List.map AV.p (encW PV.bool f133))), (30, .arr 41 3 1 [.p (encTable t1)]), (31, .arr 24 2 1 [.p (encDenial d2)]), (116, .arr 41 3 1 [.p (encTable t1)]), (117, .arr 24 2 1 [.p (encDenial d2)]), (202, .arr 41 3 1 [.p (encTable t1)]), (203, .arr 24 2 1 [.p (encDenial d2)]), (339, .arr 137 3 1 [.p (.agg [.int .i64 0, .int .i64 0, .int .i64 0])]), (200008, .arr 57 1 4 (List.map AV.p (List.map (encL (PV.int .i64)) f134)))]⟩ ?_
 refine zCpa 339 0 0 0 l167 Tryz.underlying137 Tryz.underlying57 ?_
 refine zl (zn (zs (zs (zr ?_))))
 refine zU (zl (zn ?_))
 rcases zI h with ⟨h170, h⟩ | ⟨h170, h⟩
 refine zj (zk (zn (zs (zr ?_))))
 refine zU (zl (zn (zq ?_)))
 refine inlQ_ret (by simp only [Tryz.results83]; simp only [go_sem, seval, h136T, h142F, h151, h154, h170]; exact rfl) ?_
 refine zU (zl (zn (zq (zt ?_))))
 refine inlQ_ret (by simp only [Tryz.results82]; simp only [go_sem, seval, h136T, h142F, h151, h154, h170]; exact rfl) ?_
 refine zU (zl (zn ?_))
 rcases zI h with ⟨h171, h⟩ | ⟨h171, h⟩
 refine zj (zk (yn (zn (zr ?_))))
 refine zU (zl ?_)
 cases h
 exact ⟨rfl, zE⟩
 refine zi (zs (zr ?_))
 refine zU (zl (zn (zq (yr (zt ?_)))))
 cases h
 exact ⟨rfl, zE⟩
 have h170F := Bool.eq_false_iff.2 h170
 refine zi (zs (zr ?_))
 refine zU (zl (zn (zr ?_)))
 obtain ⟨h172, h⟩ := ite_some h
 refine zU (zl (zn (zs (zr ?_))))
 refine zU (zl (zn (zq ?_)))
 refine inlQ_ret (by simp only [Tryz.results83]; simp only [go_sem, seval, h136T, h142F, h151, h154, h170F]; exact rfl) ?_
 refine zU (zl (zn (zq (zt ?_))))
 refine inlQ_ret (by simp only [Tryz.results82]; simp only [go_sem, seval, h136T, h142F, h151, h154, h170F]; exact rfl) ?_
 refine zU (zl (zn ?_))
 rcases zI h with ⟨h173, h⟩ | ⟨h173, h⟩
 refine zj (zk (yn (zn (zr ?_))))
 refine zU (zl ?_)
 cases h
 exact ⟨rfl, zE⟩
 refine zi (zs (zr ?_))
 refine zU (zl (zn (zq (yr (zt ?_)))))
 cases h
 exact ⟨rfl, zE⟩
 have h154F := Bool.eq_false_iff.2 h154
 refine zw 21 true ?_
 refine zh ?_
 refine zU (zl (zn (zq (zt ?_))))
 refine inlQ_ret (by simp only [Tryz.results82]; simp only [go_sem, seval, h136T, h142F, h151, h154F]; exact rfl) ?_
 refine zU (zl (zn ?_))
 refine zj (zk (yn (zn (zr ?_))))
 refine zU (zl ?_)
 cases h
 exact ⟨rfl, zE⟩
 have h151F := Bool.eq_false_iff.2 h151
 refine zj (zk (zn (zs (zs (zr ?_)))))
 refine zU (zl (zn (zb ?_)))
 obtain ⟨o174, h175, h⟩ := zB h
 refine zO (fun (s : Int) => ⟨[(2, .p (.slc (List.map encRow l149))), (3, .func (.func 83) [.loc 7 1 0 0, .loc 8 1 0 0]), (4, .loc 288 1 0 0), (5, .loc 289 1 0 0), (27, .p (.slc (List.map encRow t1.Rows))), (28, .p (.int .i64 (t1.Rows.length : Int))), (29, .p (.int .i64 s))], [(7, .arr 134 1 1 [.mapo 16 1]), (8, .arr 52 1 1 [.own 200008 4 0 f134.length]), (16, .map 1 (List.map AV.p (encK encArr3_int64 f133)) (List.map AV.p (encW PV.bool f133))), (30, .arr 41 3 1 [.p (encTable t1)]), (31, .arr 24 2 1 [.p (encDenial d2)]), (116, .arr 41 3 1 [.p (encTable t1)]), (117, .arr 24 2 1 [.p (encDenial d2)]), (202, .arr 41 3 1 [.p (encTable t1)]), (203, .arr 24 2 1 [.p (encDenial d2)]), (288, .arr 41 3 1 [.p (encTable t1)]), (289, .arr 24 2 1 [.p (encDenial d2)]), (200008, .arr 57 1 4 (List.map AV.p (List.map (encL (PV.int .i64)) f134)))]⟩) (fun (o176 : Unit) => tE ⟨Tryz.prog, 47, 284, X, [(7, .arr 134 1 1 [.mapo 16 1]), (8, .arr 52 1 1 [.own 200008 4 0 f134.length]), (16, .map 1 (List.map AV.p (encK encArr3_int64 f133)) (List.map AV.p (encW PV.bool f133))), (30, .arr 41 3 1 [.p (encTable t1)]), (31, .arr 24 2 1 [.p (encDenial d2)]), (116, .arr 41 3 1 [.p (encTable t1)]), (117, .arr 24 2 1 [.p (encDenial d2)]), (202, .arr 41 3 1 [.p (encTable t1)]), (203, .arr 24 2 1 [.p (encDenial d2)]), (200008, .arr 57 1 4 (List.map AV.p (List.map (encL (PV.int .i64)) f134)))], i146, w147, False, h148⟩ (.exit 0) ⟨[], [(7, .arr 134 1 1 [.mapo 16 1]), (8, .arr 52 1 1 [.own 200008 4 0 f134.length]), (16, .map 1 (List.map AV.p (encK encArr3_int64 f133)) (List.map AV.p (encW PV.bool f133))), (30, .arr 41 3 1 [.p (encTable t1)]), (31, .arr 24 2 1 [.p (encDenial d2)]), (116, .arr 41 3 1 [.p (encTable t1)]), (117, .arr 24 2 1 [.p (encDenial d2)]), (202, .arr 41 3 1 [.p (encTable t1)]), (203, .arr 24 2 1 [.p (encDenial d2)]), (200008, .arr 57 1 4 (List.map AV.p (List.map (encL (PV.int .i64)) f134)))]⟩) h175 ?_ ?_
 clear h h136 h136T h138 h138a h138b h140 h142 h142F h143 h144 h145 h151 h151F h175
 intro t177 x h
 simp only [denial_Violations_l157] at h
 refine zs (zr ?_)
 refine zU (zl (zn (zs ?_)))
 rcases zI h with ⟨h178, h⟩ | ⟨h178, h⟩
 refine zi (zk (zn (zs (zb (zs (zr ?_))))))
 obtain ⟨x179, h180, h180a, h180b, h⟩ := zX h
 refine zU (zl (zn (zs (zs (zr ?_)))))
 refine zU ?_
 obtain ⟨r181, h182, h⟩ := zB h
 refine zc (slices_ContainsFunc_Row_con l149 (fun (y183 : Row) => denial_visit_1 y183 x179) 125 [.imm [.int .i64 x179.ID, .slc (List.map encValue x179.Values)]] (fun y183 r h => denial_visit_1_con y183 x179 r h) _ h182) ?_
 refine zl (zn ?_)
 rcases zI h with ⟨h184, h⟩ | ⟨h184, h⟩
 refine zi (zx (ze (yh (zn (zr ?_)))))
 refine zU (zl ?_)
 cases h
 exact ⟨rfl, zE⟩
 cases h
 refine zj (zx (ze ?_))
 cases h
 exact ⟨rfl, zE⟩
 cases o174
 try simp only at h
 refine zA (yh (zn (zs (zr ?_))))
 refine zU (zl (zn (zq ?_)))
 refine inlQ_ret (by simp only [Tryz.results82]; simp only [go_sem, seval, h136T, h142F, h151F]; exact rfl) ?_
 refine zU (zl (zn ?_))
 refine zj (zk (yn (zn (zr ?_))))
 refine zU (zl ?_)
 cases h
 exact ⟨rfl, zE⟩
 have h136T := eq_false h136
 refine zj (zx (ze ?_))
 cases h
 exact ⟨rfl, zE⟩
 rcases o129 with ⟨f185, b186⟩ | ⟨f187, b188⟩
 try simp only at h
 refine zA (yh (zn (zs (zr ?_))))
 refine zU (zl (zn (zq ?_)))
 refine inlQ_ret (by simp only [Tryz.results82]; simp only [go_sem, seval, h91T, h97F, h106F]; exact rfl) ?_
 refine zU (zl (zn ?_))
 refine zj (zk (yn (zn (zr ?_))))
 refine zU (zl ?_)
 cases h
 exact ⟨rfl, zE⟩
 try simp only at h
 refine zA (yr (zt ?_))
 refine inlQ_ret (by simp only [Tryz.results82]; simp only [go_sem, seval, h91T, h97F, h106F]; exact rfl) ?_
 refine zU (zl (zn ?_))
 refine zi (zs (zr ?_))
 refine zU (zl (zn (zq (yr (zt ?_)))))
 cases h
 exact ⟨rfl, zE⟩
 have h91T := eq_false h91
 refine zj (zx (ze ?_))
 cases h
 exact ⟨rfl, zE⟩
 rcases o84 with ⟨f189, b190⟩ | ⟨f191, b192⟩
 try simp only at h
 refine zA (yh (zn (zs (zr ?_))))
 refine zU (zl (zn (zq ?_)))
 refine inlQ_ret (by simp only [Tryz.results82]; simp only [go_sem, seval, h45T, h51F, h60F]; exact rfl) ?_
 refine zU (zl (zn ?_))
 refine zj (zk (yn (zn (zr ?_))))
 refine zU (zl ?_)
 cases h
 exact ⟨rfl, zE⟩
 try simp only at h
 refine zA (yr (zt ?_))
 refine inlQ_ret (by simp only [Tryz.results82]; simp only [go_sem, seval, h45T, h51F, h60F]; exact rfl) ?_
 refine zU (zl (zn ?_))
 refine zi (zs (zr ?_))
 refine zU (zl (zn (zq (yr (zt ?_)))))
 cases h
 exact ⟨rfl, zE⟩
 have h45T := eq_false h45
 refine zj (zx (ze ?_))
 cases h
 exact ⟨rfl, zE⟩
 rcases o38 with ⟨f193, b194⟩ | ⟨f195, b196⟩
 try simp only at h
 refine zA (yh (zn (zs (zr ?_))))
 refine zU (zl (zn (zq ?_)))
 refine inlQ_ret (by simp only [Tryz.results82]; simp only [go_sem, seval, h6F, h17F]; exact rfl) ?_
 refine zU (zl ?_)
 cases h
 exact ⟨rfl, zE⟩
 try simp only at h
 refine zA (yr (zt ?_))
 refine inlQ_ret (by simp only [Tryz.results82]; simp only [go_sem, seval, h6F, h17F]; exact rfl) ?_
 refine zU (zl ?_)
 cases h
 exact ⟨rfl, zE⟩
 obtain ⟨o197, a198⟩ := o7
 try simp only at h
 refine zA (zn (zs (zs (zr ?_))))
 refine zU (zl (zn ?_))
 rcases zI h with ⟨h199, h⟩ | ⟨h199, h⟩
 refine zj (zk (zn (zs (zr ?_))))
 refine zU ?_
 refine zM ⟨[(8, .loc 8 1 0 0), (23, .own 200008 1 0 o197.length)], [(8, .arr 52 1 1 [.own 200008 1 0 o197.length]), (200008, .arr 57 1 1 (List.map AV.p (List.map (encL (PV.int .i64)) o197)))]⟩ ?_
 obtain ⟨l200, h201, h⟩ := zB h
 refine zSF srt85 (encL (PV.int .i64)) (fun (y202 : List Int) (y203 : List Int) => slices_Compare_int64 y202 y203) h201 (fun y202 y203 r h => slices_Compare_int64_con y202 y203 r h) ?_
 have h204 := srtF_len h201
 refine zM ⟨[(8, .loc 8 1 0 0), (24, .p (.tup []))], [(8, .arr 52 1 1 [.own 200008 1 0 l200.length]), (200008, .arr 57 1 1 (List.map AV.p (List.map (encL (PV.int .i64)) l200)))]⟩ ?_
 clear h204
 refine zl (zn (zs (zr ?_)))
 refine zU (zl (zn (zq ?_)))
 cases h
 exact zT Tryz.results29
 refine zi (zs (zr ?_))
 refine zU (zl (zn (zq (zt ?_))))
 cases h
 exact zT Tryz.results29
end Go.Proofs.YtlaodgbkpmdhoaaGreatDoor
set_option linter.unusedVariables false
set_option linter.unusedSimpArgs false
namespace Go.Proofs.YtlaodgbkpmdhoaaGreatDoor
open Go Go.Ab
set_option maxHeartbeats 4000000 in
theorem drossref01_Of_con {D : Prop} (c1 : Int) (r2 : Value) (h : drossref01_Of c1 = some r2) : Con D Tryz.prog 104 [(.int .u8 c1)] (encValue r2) := by
 refine zP Tryz.call104 Tryz.func104 rfl Tryz.ntmps104 fun X w hT => ?_
 simp only [drossref01_Of] at h
 refine zs (zr ?_)
 refine zU (zl (zn (zs (zs (zr ?_)))))
 refine zU (zl (zn (zb (zs (zr ?_)))))
 refine zU (zl (zn ?_))
 rcases zI h with ⟨h3, h⟩ | ⟨h3, h⟩
 refine zi (zs (zr ?_))
 refine zU (zl (zn (zq (yr (zt ?_)))))
 cases h
 exact zT Tryz.results104
 refine zj (zs (zr ?_))
 refine zU (zl (zn ?_))
 rcases zI h with ⟨h4, h⟩ | ⟨h4, h⟩
 refine zi (zs (zr ?_))
 refine zU (zl (zn (zq (yr (zt ?_)))))
 cases h
 exact zT Tryz.results104
 refine zj (zs (zr ?_))
 refine zU (zl (zn ?_))
 rcases zI h with ⟨h5, h⟩ | ⟨h5, h⟩
 refine zi (zs (zr ?_))
 refine zU (zl (zn (zq (yr (zt ?_)))))
 cases h
 exact zT Tryz.results104
 refine zj (zs (zr ?_))
 refine zU (zl (zn ?_))
 rcases zI h with ⟨h6, h⟩ | ⟨h6, h⟩
 refine zi (zs (zr ?_))
 refine zU (zl (zn (zq (yr (zt ?_)))))
 cases h
 exact zT Tryz.results104
 refine zj (zs (zr ?_))
 refine zU (zl (zn ?_))
 rcases zI h with ⟨h7, h⟩ | ⟨h7, h⟩
 refine zi (zs (zr ?_))
 refine zU (zl (zn (zq (yr (zt ?_)))))
 cases h
 exact zT Tryz.results104
 refine zj (zs (zr ?_))
 refine zU (zl (zn ?_))
 rcases zI h with ⟨h8, h⟩ | ⟨h8, h⟩
 refine zi (zs (zr ?_))
 refine zU (zl (zn (zq (yr (zt ?_)))))
 cases h
 exact zT Tryz.results104
 refine zj (zs (zr ?_))
 refine zU (zl (zn ?_))
 rcases zI h with ⟨h9, h⟩ | ⟨h9, h⟩
 refine zi (zs (zr ?_))
 refine zU (zl (zn (zq (yr (zt ?_)))))
 cases h
 exact zT Tryz.results104
 refine zj (zs (zr ?_))
 refine zU (zl (zn ?_))
 rcases zI h with ⟨h10, h⟩ | ⟨h10, h⟩
 refine zi (zs (zr ?_))
 refine zU (zl (zn (zq (yr (zt ?_)))))
 cases h
 exact zT Tryz.results104
 refine zj (zs (zr ?_))
 refine zU (zl (zn ?_))
 rcases zI h with ⟨h11, h⟩ | ⟨h11, h⟩
 refine zi (zs (zr ?_))
 refine zU (zl (zn (zq (yr (zt ?_)))))
 cases h
 exact zT Tryz.results104
 refine zj (zs (zr ?_))
 refine zU (zl (zn ?_))
 rcases zI h with ⟨h12, h⟩ | ⟨h12, h⟩
 refine zi (zs (zr ?_))
 refine zU (zl (zn (zq (yr (zt ?_)))))
 cases h
 exact zT Tryz.results104
 refine zj (zs (zr ?_))
 refine zU (zl (zn ?_))
 rcases zI h with ⟨h13, h⟩ | ⟨h13, h⟩
 refine zi (zs (zr ?_))
 refine zU (zl (zn (zq (yr (zt ?_)))))
 cases h
 exact zT Tryz.results104
 refine zj (zk (yn (zn (zs (zr ?_)))))
 refine zU (zl (zn (zq ?_)))
 cases h
 exact zT Tryz.results104
end Go.Proofs.YtlaodgbkpmdhoaaGreatDoor
set_option linter.unusedVariables false
set_option linter.unusedSimpArgs false
namespace Go.Proofs.YtlaodgbkpmdhoaaGreatDoor
open Go Go.Ab
set_option maxHeartbeats 4000000 in
theorem drossref03_Wide_con {D : Prop} (x1 : Drossref03_Recipe) (n2 : Int) (r3 : Table) (h : drossref03_Wide x1 n2 = some r3) : Con D Tryz.prog 49 [(encDrossref03_Recipe x1), (.int .i64 n2)] (encTable r3) := by
 refine zP Tryz.call49 Tryz.func49 rfl Tryz.ntmps49 fun X w hT => ?_
 simp only [drossref03_Wide] at h
 refine zs (zr ?_)
 refine zU (zl (zn (zs (zr ?_))))
 obtain ⟨h4, h⟩ := ite_some h
 obtain ⟨h5, h⟩ := ite_some h
 refine zW 4 ?_
 obtain ⟨l6, h7, h⟩ := zB h
 replace h7 := Option.some.inj h7
 refine AL_le (st' := ⟨[(1, .p (.int .i64 n2)), (2, .loc 2 1 0 0), (4, .loc 4 1 0 0), (10, .own 10 1 0 0), (13, .own 11 1 0 n2.toNat)], [(2, .arr 36 3 1 [.p (encDrossref03_Recipe x1)]), (4, .arr 41 3 1 [.agg [.p (.str []), .nils, .nils]]), (10, .arr 9 1 1 []), (11, .arr 9 1 1 (List.map AV.p (List.map PV.str l6)))]⟩) (by simp only [go_sem, seval, ← h7]; all_goals ((repeat' refine And.intro ?_ ?_) <;> first | rfl | (simp; done) | (simp; rfl) | (simp [*]; done) | (simp [*]; rfl))) ?_
 have h7n : l6.length = 8 := by rw [← h7]; rfl
 clear h7
 obtain ⟨h8, h⟩ := ite_some h
 refine zU (zl (zn (zs (zs (zr ?_)))))
 refine zU (zl (zn (zb ?_)))
 obtain ⟨t9, h10, h⟩ := zB h
 refine zO (fun (s : List Row × Int) => ⟨[(1, .p (.int .i64 n2)), (2, .loc 2 1 0 0), (4, .loc 4 1 0 0), (5, .loc 5 1 0 0), (6, .p (.int .i64 s.2))], [(2, .arr 36 3 1 [.p (encDrossref03_Recipe x1)]), (4, .arr 41 3 1 [.agg [.p (.str []), .nils, .nils]]), (5, .arr 41 3 1 [.agg [.p (.str [114]), .own 10 1 0 ((l6.take n2.toNat)).length, .own 64 1 0 s.1.length]]), (10, .arr 9 1 1 (List.map AV.p (List.map PV.str (l6.take n2.toNat)))), (64, .arr 55 2 1 (List.map AV.p (List.map encRow s.1)))]⟩) (fun (o11 : List Row) => tE (cX Tryz.f49 X w D hT) (.exit 0) ⟨[(4, .loc 4 1 0 0), (5, .loc 5 1 0 0)], [(4, .arr 41 3 1 [.agg [.p (.str []), .nils, .nils]]), (5, .arr 41 3 1 [.agg [.p (.str [114]), .own 10 1 0 ((l6.take n2.toNat)).length, .own 64 1 0 o11.length]]), (10, .arr 9 1 1 (List.map AV.p (List.map PV.str (l6.take n2.toNat)))), (64, .arr 55 2 1 (List.map AV.p (List.map encRow o11)))]⟩) h10 ?_ ?_
 clear h h4 h5 h7n h8 h10
 intro s x h
 obtain ⟨t12, i13⟩ := s
 simp only [drossref03_Wide_l4] at h
 dsimp only
 refine zs (zs (zr ?_))
 refine zU (zl (zn ?_))
 rcases zI h with ⟨h14, h⟩ | ⟨h14, h⟩
 refine zi (zk (zn (zs (zb (zs (zr ?_))))))
 refine zU (zl (zn (zs (zs (zr ?_)))))
 refine zU (zl (zn (zb ?_)))
 obtain ⟨r15, h16, h⟩ := zB h
 refine zO (fun (s : List Value × Int) => ⟨[(1, .p (.int .i64 n2)), (2, .loc 2 1 0 0), (4, .loc 4 1 0 0), (5, .loc 5 1 0 0), (6, .p (.int .i64 i13)), (7, .loc 7 1 0 0), (8, .p (.int .i64 s.2))], [(2, .arr 36 3 1 [.p (encDrossref03_Recipe x1)]), (4, .arr 41 3 1 [.agg [.p (.str []), .nils, .nils]]), (5, .arr 41 3 1 [.agg [.p (.str [114]), .own 10 1 0 ((l6.take n2.toNat)).length, .own 64 1 0 t12.length]]), (7, .arr 55 2 1 [.agg [.p (.int .i64 (IntKind.i64.wrap (1 + (IntKind.i64.wrap (i13 * (IntKind.i64.wrap (1 + (IntKind.i64.wrap (Int.tmod x1.Gap 3))))))))), .own 58 1 0 s.1.length]]), (10, .arr 9 1 1 (List.map AV.p (List.map PV.str (l6.take n2.toNat)))), (58, .arr 27 3 1 (List.map AV.p (List.map encValue s.1))), (64, .arr 55 2 1 (List.map AV.p (List.map encRow t12)))]⟩) (fun (o17 : List Value) => tE (cX Tryz.f49 X w D hT) (.exit 2) ⟨[(1, .p (.int .i64 n2)), (2, .loc 2 1 0 0), (4, .loc 4 1 0 0), (5, .loc 5 1 0 0), (6, .p (.int .i64 i13)), (7, .loc 7 1 0 0)], [(2, .arr 36 3 1 [.p (encDrossref03_Recipe x1)]), (4, .arr 41 3 1 [.agg [.p (.str []), .nils, .nils]]), (5, .arr 41 3 1 [.agg [.p (.str [114]), .own 10 1 0 ((l6.take n2.toNat)).length, .own 64 1 0 t12.length]]), (7, .arr 55 2 1 [.agg [.p (.int .i64 (IntKind.i64.wrap (1 + (IntKind.i64.wrap (i13 * (IntKind.i64.wrap (1 + (IntKind.i64.wrap (Int.tmod x1.Gap 3))))))))), .own 58 1 0 o17.length]]), (10, .arr 9 1 1 (List.map AV.p (List.map PV.str (l6.take n2.toNat)))), (58, .arr 27 3 1 (List.map AV.p (List.map encValue o17))), (64, .arr 55 2 1 (List.map AV.p (List.map encRow t12)))]⟩) h16 ?_ ?_
 clear h h14 h16
 intro s x h
 obtain ⟨r18, k19⟩ := s
 simp only [drossref03_Wide_l3] at h
 dsimp only
 refine zs (zs (zr ?_))
 refine zU (zl (zn ?_))
 rcases zI h with ⟨h20, h⟩ | ⟨h20, h⟩
 refine zi (zk (zn (zs (zb (zs (zr ?_))))))
 refine zU (zl (zn (zs (zs (zr ?_)))))
 obtain ⟨x21, h22, h22a, h22b, h⟩ := zX h
 refine zU (zl (zn ?_))
 rcases zI h with ⟨h23, h⟩ | ⟨h23, h⟩
 refine zi (zr ?_)
 obtain ⟨x24, h25, h25a, h25b, h⟩ := zX h
 refine zU (zl (zn (zd ?_)))
 refine yU ?_
 obtain ⟨r26, h27, h⟩ := zB h
 refine yc (drossref01_Of_con x24 _ h27) ?_
 obtain ⟨h28, h⟩ := ite_some h
 refine yU ?_
 refine yd (yn (zn (zr ?_)))
 refine zU (zl ?_)
 cases h
 exact ⟨rfl, zE⟩
 refine zj (zk (zn (zd ?_)))
 refine yU ?_
 obtain ⟨r29, h30, h⟩ := zB h
 refine yc (drossref01_Of_con 0 _ h30) ?_
 obtain ⟨h31, h⟩ := ite_some h
 refine yU ?_
 refine yd (yn (zn (zr ?_)))
 refine zU (zl ?_)
 cases h
 exact ⟨rfl, zE⟩
 refine zj (zx (ze ?_))
 cases h
 exact ⟨rfl, zE⟩
 try simp only at h
 refine zA (yh (zn (zr ?_)))
 refine zW 4 ?_
 refine zM ⟨[(1, .p (.int .i64 n2)), (2, .loc 2 1 0 0), (4, .loc 4 1 0 0), (5, .loc 5 1 0 0), (6, .p (.int .i64 i13)), (61, .own 64 1 0 t12.length), (63, .own 63 1 0 1)], [(2, .arr 36 3 1 [.p (encDrossref03_Recipe x1)]), (4, .arr 41 3 1 [.agg [.p (.str []), .nils, .nils]]), (5, .arr 41 3 1 [.agg [.p (.str [114]), .own 10 1 0 ((l6.take n2.toNat)).length, .own 64 1 0 t12.length]]), (10, .arr 9 1 1 (List.map AV.p (List.map PV.str (l6.take n2.toNat)))), (63, .arr 55 2 1 [.p (.agg [.int .i64 (IntKind.i64.wrap (1 + (IntKind.i64.wrap (i13 * (IntKind.i64.wrap (1 + (IntKind.i64.wrap (Int.tmod x1.Gap 3)))))))), .slc (List.map encValue r15)])]), (64, .arr 55 2 1 (List.map AV.p (List.map encRow t12)))]⟩ ?_
 obtain ⟨h32, h⟩ := ite_some h
 refine zU (zl (yn (zn (zr ?_))))
 refine zU (zl ?_)
 cases h
 exact ⟨rfl, zE⟩
 refine zj (zx (ze ?_))
 cases h
 exact ⟨rfl, zE⟩
 try simp only at h
 refine zA (yh (zn (zs (zr ?_))))
 refine zU (zl (zn (zq ?_)))
 cases h
 exact zT Tryz.results49
end Go.Proofs.YtlaodgbkpmdhoaaGreatDoor
set_option linter.unusedVariables false
set_option linter.unusedSimpArgs false
namespace Go.Proofs.YtlaodgbkpmdhoaaGreatDoor
open Go Go.Ab
set_option maxHeartbeats 4000000 in
theorem drosslaw18_at_con {D : Prop} (v1 : Int) (a2 : Int) (r3 : Term) (h : drosslaw18_at v1 a2 = some r3) : Con D Tryz.prog 50 [(.int .i64 v1), (.int .i64 a2)] (encTerm r3) := by
 refine zP Tryz.call50 Tryz.func50 rfl Tryz.ntmps50 fun X w hT => ?_
 simp only [drosslaw18_at] at h
 refine zs (zr ?_)
 refine zU (zl (zn (zs (zr ?_))))
 refine zU (zl (zn (zq ?_)))
 cases h
 exact zT Tryz.results50
end Go.Proofs.YtlaodgbkpmdhoaaGreatDoor
set_option linter.unusedVariables false
set_option linter.unusedSimpArgs false
namespace Go.Proofs.YtlaodgbkpmdhoaaGreatDoor
open Go Go.Ab
set_option maxHeartbeats 4000000 in
theorem drosslaw18_num_con {D : Prop} (n1 : Int) (r2 : Term) (h : drosslaw18_num n1 = some r2) : Con D Tryz.prog 51 [(.int .i64 n1)] (encTerm r2) := by
 refine zP Tryz.call51 Tryz.func51 rfl Tryz.ntmps51 fun X w hT => ?_
 simp only [drosslaw18_num] at h
 refine zs (zr ?_)
 refine zU (zl (zn (zs (zr ?_))))
 refine zU (zl (zn (zq ?_)))
 cases h
 exact zT Tryz.results51
end Go.Proofs.YtlaodgbkpmdhoaaGreatDoor
set_option linter.unusedVariables false
set_option linter.unusedSimpArgs false
namespace Go.Proofs.YtlaodgbkpmdhoaaGreatDoor
open Go Go.Ab
set_option maxRecDepth 20000 in
set_option maxHeartbeats 4000000 in
theorem drosslaw18_awake_con  (r1 : Bool) (h : drosslaw18_awake = some r1) : Con False Tryz.prog 11 [] (.bool r1) := by
 refine zP Tryz.call11 Tryz.func11 rfl Tryz.ntmps11 fun X w hT => ?_
 simp only [drosslaw18_awake] at h
 refine zs (zr ?_)
 refine zU (zl (zn (zs (zr ?_))))
 refine zU ?_
 refine zM ⟨[(17, .p (.agg [.int .u8 0, .int .u8 0, .slc (List.map (encL (PV.int .u8)) [[2, 1], [2, 2], [11, 2]])]))], []⟩ ?_
 obtain ⟨r2, h3, h⟩ := zB h
 refine zc (drossref03_Wide_con (Drossref03_Recipe.mk 0 0 [[2, 1], [2, 2], [11, 2]]) 2 _ h3) ?_
 refine zU (zl (zn (zs (zr ?_))))
 refine zU ?_
 obtain ⟨r4, h5, h⟩ := zB h
 refine zc (denial_FromFD_con 2 (FD.mk 1 2) _ h5) ?_
 refine zU (zl (zn (zs (zr ?_))))
 obtain ⟨r6, h7, h⟩ := zB h
 refine zc (drosslaw18_at_con 1 0 _ h7) ?_
 obtain ⟨r8, h9, h⟩ := zB h
 refine zc (drosslaw18_at_con 2 0 _ h9) ?_
 refine zU ?_
 obtain ⟨r10, h11, h⟩ := zB h
 refine zc (drosslaw18_at_con 1 1 _ h11) ?_
 obtain ⟨r12, h13, h⟩ := zB h
 refine zc (drosslaw18_at_con 2 1 _ h13) ?_
 refine zU (zl (zn (zs (zr ?_))))
 refine zU ?_
 refine zM ⟨[(1, .loc 1 1 0 0), (2, .p (.slc (List.map encDenial r4.1))), (3, .p (.int .i64 r4.2)), (4, .loc 4 1 0 0), (33, .p (encTable r2)), (34, .p (.agg [.int .i64 2, .slc (List.map encAtom [(Atom.mk r6 1 r8), (Atom.mk r10 2 r12)])]))], [(1, .arr 41 3 1 [.p (encTable r2)]), (4, .arr 24 2 1 [.p (.agg [.int .i64 2, .slc (List.map encAtom [(Atom.mk r6 1 r8), (Atom.mk r10 2 r12)])])])]⟩ ?_
 obtain ⟨r14, h15, h⟩ := zB h
 refine zc (denial_Violations_con r2 (Denial.mk 2 [(Atom.mk r6 1 r8), (Atom.mk r10 2 r12)]) _ h15) ?_
 refine zU (zl (zn (zs (zd ?_))))
 refine yU ?_
 obtain ⟨r16, h17, h⟩ := zB h
 refine yc (drosslaw18_at_con 1 0 _ h17) ?_
 obtain ⟨r18, h19, h⟩ := zB h
 refine yc (drosslaw18_num_con 6 _ h19) ?_
 refine yV 1 ?_
 refine yS 43 ?_
 refine yU ?_
 obtain ⟨r20, h21, h⟩ := zB h
 refine yc (denial_Violations_con r2 (Denial.mk 1 [(Atom.mk r16 3 r18)]) _ h21) ?_
 refine yU ?_
 refine yd (zn (zs (zr ?_)))
 refine zU ?_
 refine zM ⟨[(2, .p (.slc (List.map encDenial r4.1))), (3, .p (.int .i64 r4.2)), (4, .loc 4 1 0 0), (5, .p (.slc (List.map (encL (PV.int .i64)) r14.1))), (6, .p (.int .i64 r14.2)), (7, .p (.slc (List.map (encL (PV.int .i64)) r20.1))), (8, .p (.int .i64 r20.2)), (51, .p (.agg [.slc (List.map (PV.int .i64) [0]), .slc (List.map (PV.int .i64) [1])]))], [(4, .arr 24 2 1 [.p (.agg [.int .i64 2, .slc (List.map encAtom [(Atom.mk r6 1 r8), (Atom.mk r10 2 r12)])])])]⟩ ?_
 obtain ⟨r22, h23, h⟩ := zB h
 refine zc (denial_FromOD_con 2 (OD.mk [0] [1]) _ h23) ?_
 refine zU (zl (zn (zs (zs (zr ?_)))))
 refine zU ?_
 rcases zI h with ⟨h24, h⟩ | ⟨h24, h⟩
 refine zw 57 true ?_
 refine zh ?_
 refine zU ?_
 refine zh ?_
 refine zU ?_
 refine zh ?_
 refine zU ?_
 refine zh ?_
 refine zU ?_
 refine zh ?_
 refine zU ?_
 refine zh ?_
 refine zU ?_
 refine zh ?_
 refine zU (zl (zn ?_))
 refine zi (zs (zr ?_))
 refine zU (zl (zn (zq (zt ?_))))
 cases h
 exact zT Tryz.results11
 refine zw 57 false ?_
 refine zg ?_
 refine zg ?_
 refine zU ?_
 rcases zI h with ⟨h25, h⟩ | ⟨h25, h⟩
 refine zw 61 true ?_
 refine zh ?_
 refine zU ?_
 refine zh ?_
 refine zU ?_
 refine zh ?_
 refine zU ?_
 refine zh ?_
 refine zU ?_
 refine zh ?_
 refine zU ?_
 refine zh ?_
 refine zU (zl (zn ?_))
 refine zi (zs (zr ?_))
 refine zU (zl (zn (zq (zt ?_))))
 cases h
 exact zT Tryz.results11
 refine zw 61 false ?_
 refine zg ?_
 refine zg ?_
 refine zU ?_
 rcases zI h with ⟨h26, h⟩ | ⟨h26, h⟩
 refine zw 65 true ?_
 refine zh ?_
 refine zU ?_
 refine zh ?_
 refine zU ?_
 refine zh ?_
 refine zU ?_
 refine zh ?_
 refine zU ?_
 refine zh ?_
 refine zU (zl (zn ?_))
 refine zi (zs (zr ?_))
 refine zU (zl (zn (zq (zt ?_))))
 cases h
 exact zT Tryz.results11
 refine zw 65 false ?_
 refine zg ?_
 refine zg ?_
 refine zU ?_
 rcases zI h with ⟨h27, h⟩ | ⟨h27, h⟩
 refine zw 69 true ?_
 refine zh ?_
 refine zU ?_
 refine zh ?_
 refine zU ?_
 refine zh ?_
 refine zU ?_
 refine zh ?_
 refine zU (zl (zn ?_))
 refine zi (zs (zr ?_))
 refine zU (zl (zn (zq (zt ?_))))
 cases h
 exact zT Tryz.results11
 refine zw 69 false ?_
 refine zg ?_
 refine zg ?_
 refine zg ?_
 obtain ⟨r28, h29, h⟩ := zB h
 refine zc (drossref18_Same_con r4.1 [(Denial.mk 2 [(Atom.mk r6 1 r8), (Atom.mk r10 2 r12)])] _ h29) ?_
 refine zg ?_
 refine zU ?_
 rcases zI h with ⟨h30, h⟩ | ⟨h30, h⟩
 refine zw 76 false ?_
 refine zg ?_
 refine zg ?_
 refine zg ?_
 obtain ⟨r31, h32, h⟩ := zB h
 refine zc (drossref18_Lists_con r14.1 [[1, 2]] _ h32) ?_
 refine zg ?_
 refine zU ?_
 rcases zI h with ⟨h33, h⟩ | ⟨h33, h⟩
 refine zw 83 false ?_
 refine zg ?_
 refine zg ?_
 refine zg ?_
 refine zg ?_
 obtain ⟨r34, h35, h⟩ := zB h
 refine zc (drossref18_Lists_con r20.1 [[1], [2]] _ h35) ?_
 refine zg ?_
 refine zU ?_
 rcases zI h with ⟨h36, h⟩ | ⟨h36, h⟩
 refine zw 91 false ?_
 refine zg ?_
 refine zg ?_
 refine zg ?_
 refine zU (zl (zn ?_))
 rcases zI h with ⟨h37, h⟩ | ⟨h37, h⟩
 refine zi (zs (zr ?_))
 refine zU (zl (zn (zq (zt ?_))))
 cases h
 exact zT Tryz.results11
 refine zj (zk (zn (zs (zr ?_))))
 obtain ⟨r38, h39, h⟩ := zB h
 refine zc (drosslaw18_at_con 1 0 _ h39) ?_
 obtain ⟨r40, h41, h⟩ := zB h
 refine zc (drosslaw18_at_con 1 1 _ h41) ?_
 refine zU ?_
 obtain ⟨r42, h43, h⟩ := zB h
 refine zc (drosslaw18_at_con 1 1 _ h43) ?_
 obtain ⟨r44, h45, h⟩ := zB h
 refine zc (drosslaw18_num_con 5 _ h45) ?_
 refine zU ?_
 obtain ⟨r46, h47, h⟩ := zB h
 refine zc (drosslaw18_num_con 6 _ h47) ?_
 obtain ⟨r48, h49, h⟩ := zB h
 refine zc (drosslaw18_at_con 1 0 _ h49) ?_
 refine zU (zl (zn (zs (zr ?_))))
 obtain ⟨r50, h51, h⟩ := zB h
 refine zc (drosslaw18_at_con 1 0 _ h51) ?_
 obtain ⟨r52, h53, h⟩ := zB h
 refine zc (drosslaw18_num_con 2 _ h53) ?_
 refine zU ?_
 obtain ⟨r54, h55, h⟩ := zB h
 refine zc (drosslaw18_num_con 1 _ h55) ?_
 obtain ⟨r56, h57, h⟩ := zB h
 refine zc (drosslaw18_at_con 1 0 _ h57) ?_
 refine zU (zl (zn (zs (zr ?_))))
 refine zU ?_
 obtain ⟨r58, h59, h⟩ := zB h
 refine zc (denial_Contradictory_con [(Atom.mk r38 3 r40), (Atom.mk r42 4 r44), (Atom.mk r46 3 r48)] _ h59) ?_
 refine zU ?_
 rcases zI h with ⟨h60, h⟩ | ⟨h60, h⟩
 refine zw 115 true ?_
 refine zg ?_
 obtain ⟨r61, h62, h⟩ := zB h
 replace h := h.symm
 refine zc (denial_Contradictory_con [(Atom.mk r50 3 r52), (Atom.mk r54 3 r56)] _ h62) ?_
 refine zg ?_
 refine zU (zl (zn (zq ?_)))
 cases h
 exact zT Tryz.results11
 refine zw 115 false ?_
 refine zh ?_
 refine zU (zl (zn (zq ?_)))
 cases h
 exact zT Tryz.results11
 refine zw 91 true ?_
 refine zh ?_
 refine zU (zl (zn ?_))
 refine zi (zs (zr ?_))
 refine zU (zl (zn (zq (zt ?_))))
 cases h
 exact zT Tryz.results11
 refine zw 83 true ?_
 refine zh ?_
 refine zU ?_
 refine zh ?_
 refine zU (zl (zn ?_))
 refine zi (zs (zr ?_))
 refine zU (zl (zn (zq (zt ?_))))
 cases h
 exact zT Tryz.results11
 refine zw 76 true ?_
 refine zh ?_
 refine zU ?_
 refine zh ?_
 refine zU ?_
 refine zh ?_
 refine zU (zl (zn ?_))
 refine zi (zs (zr ?_))
 refine zU (zl (zn (zq (zt ?_))))
 cases h
 exact zT Tryz.results11
end Go.Proofs.YtlaodgbkpmdhoaaGreatDoor
set_option linter.unusedVariables false
set_option linter.unusedSimpArgs false
namespace Go.Proofs.YtlaodgbkpmdhoaaGreatDoor
open Go Go.Ab
set_option maxHeartbeats 4000000 in
theorem drossref03_Table_con {D : Prop} (x1 : Drossref03_Recipe) (m2 : Int) (r3 : Table × Bool) (h : drossref03_Table x1 m2 = some r3) : Con D Tryz.prog 15 [(encDrossref03_Recipe x1), (.int .i64 m2)] (.tup [(encTable r3.1), (.bool r3.2)]) := by
 refine zP Tryz.call15 Tryz.func15 rfl Tryz.ntmps15 fun X w hT => ?_
 simp only [drossref03_Table] at h
 refine zs (zr ?_)
 refine zU (zl (zn (zs (zs (zr ?_)))))
 refine zU (zl (zn ?_))
 rcases zI h with ⟨h4, h⟩ | ⟨h4, h⟩
 refine zi (zs (zr ?_))
 refine zU (zl (zn (zq (zt ?_))))
 cases h
 exact zT Tryz.results15
 refine zj (zk (zn (zs (zr ?_))))
 refine zU ?_
 obtain ⟨r5, h6, h⟩ := zB h
 refine zc (drossref03_Wide_con x1 (IntKind.i64.wrap (Int.tmod x1.Attrs 6)) _ h6) ?_
 refine zU (zl (zn (zq ?_)))
 cases h
 exact zT Tryz.results15
end Go.Proofs.YtlaodgbkpmdhoaaGreatDoor
set_option linter.unusedVariables false
set_option linter.unusedSimpArgs false
namespace Go.Proofs.YtlaodgbkpmdhoaaGreatDoor
open Go Go.Ab
set_option maxHeartbeats 4000000 in
theorem drossref18_side_con {D : Prop} (n1 : Int) (v2 : Int) (s3 : Drossref18_Side) (r4 : Term) (h : drossref18_side n1 v2 s3 = some r4) : Con D Tryz.prog 75 [(.int .i64 n1), (.int .i64 v2), (encDrossref18_Side s3)] (encTerm r4) := by
 refine zP Tryz.call75 Tryz.func75 rfl Tryz.ntmps75 fun X w hT => ?_
 simp only [drossref18_side] at h
 refine zs (zr ?_)
 refine zU (zl (zn (zs (zr ?_))))
 obtain ⟨h5, h⟩ := ite_none h
 refine zU (zl (zn (zs ?_)))
 obtain ⟨t6, h7, h⟩ := zB h
 refine zJ (fun (o8 : Bool) => tE (cX Tryz.f75 X w D hT) .normal ⟨[(0, .p (.int .i64 n1)), (5, .loc 5 1 0 0), (6, .loc 6 1 0 0), (7, .p (.int .i64 (Int.tmod (IntKind.i64.wrap s3.Var) (IntKind.i64.wrap (v2 + 1))))), (19, .p (.bool o8))], [(5, .arr 122 2 1 [.p (encDrossref18_Side s3)]), (6, .arr 29 5 1 [.p (.agg [.int .i64 0, .int .i64 0, .int .i64 0, .int .i64 0, .str []])])]⟩) t6 ?_ ?_
 replace h := h7
 clear h7
 refine zr ?_
 refine zU ?_
 rcases zI h with ⟨h9, h⟩ | ⟨h9, h⟩
 refine zw 16 true ?_
 refine zh ?_
 refine zU (zl ?_)
 cases h
 exact ⟨rfl, zE⟩
 replace h := h.symm
 refine zw 16 false ?_
 refine zg ?_
 refine zg ?_
 refine zU (zl ?_)
 cases h
 exact ⟨rfl, zE⟩
 try simp only at h
 refine zA (zn ?_)
 rcases zI h with ⟨h10, h⟩ | ⟨h10, h⟩
 refine zi (zs (zr ?_))
 refine zU ?_
 obtain ⟨r11, h12, h⟩ := zB h
 refine zc (drossref01_Of_con s3.Code _ h12) ?_
 refine zU (zl (zn (zq (zt ?_))))
 cases h
 exact zT Tryz.results75
 refine zj (zk (zn (zs (zr ?_))))
 obtain ⟨h13, h⟩ := ite_none h
 refine zU (zl (zn (zq ?_)))
 cases h
 exact zT Tryz.results75
end Go.Proofs.YtlaodgbkpmdhoaaGreatDoor
set_option linter.unusedVariables false
set_option linter.unusedSimpArgs false
namespace Go.Proofs.YtlaodgbkpmdhoaaGreatDoor
open Go Go.Ab
set_option maxRecDepth 20000 in
set_option maxHeartbeats 4000000 in
theorem drossref18_Of_con {D : Prop} (n1 : Int) (r2 : Drossref18_Recipe) (r3 : Denial × Bool) (h : drossref18_Of n1 r2 = some r3) : Con D Tryz.prog 26 [(.int .i64 n1), (encDrossref18_Recipe r2)] (.tup [(encDenial r3.1), (.bool r3.2)]) := by
 refine zP Tryz.call26 Tryz.func26 rfl Tryz.ntmps26 fun X w hT => ?_
 simp only [drossref18_Of] at h
 refine zs (zr ?_)
 refine zU (zl (zn (zs (zr ?_))))
 refine zU (zl (zn (zs (zs (zr ?_)))))
 refine zU (zl (zn (zb ?_)))
 obtain ⟨d4, h5, h⟩ := zB h
 refine zO (fun (s : List Atom × Int) => ⟨[(0, .p (.int .i64 n1)), (3, .loc 3 1 0 0), (4, .loc 4 1 0 0), (6, .loc 6 1 0 0), (7, .p (.int .i64 s.2))], [(3, .arr 72 2 1 [.p (encDrossref18_Recipe r2)]), (4, .arr 24 2 1 [.agg [.p (.int .i64 0), .nils]]), (6, .arr 24 2 1 [.agg [.p (.int .i64 (IntKind.i64.wrap (1 + (IntKind.i64.wrap (Int.tmod r2.Vars 3))))), .own 48 1 0 s.1.length]]), (48, .arr 31 11 1 (List.map AV.p (List.map encAtom s.1)))]⟩) (fun (o6 : List Atom) => tE (cX Tryz.f26 X w D hT) (.exit 0) ⟨[(3, .loc 3 1 0 0), (4, .loc 4 1 0 0), (6, .loc 6 1 0 0)], [(3, .arr 72 2 1 [.p (encDrossref18_Recipe r2)]), (4, .arr 24 2 1 [.agg [.p (.int .i64 0), .nils]]), (6, .arr 24 2 1 [.agg [.p (.int .i64 (IntKind.i64.wrap (1 + (IntKind.i64.wrap (Int.tmod r2.Vars 3))))), .own 48 1 0 o6.length]]), (48, .arr 31 11 1 (List.map AV.p (List.map encAtom o6)))]⟩) h5 ?_ ?_
 clear h h5
 intro s x h
 obtain ⟨d7, i8⟩ := s
 simp only [drossref18_Of_l1] at h
 dsimp only
 refine zs (zs (zr ?_))
 refine zU (zl (zn ?_))
 rcases zI h with ⟨h9, h⟩ | ⟨h9, h⟩
 refine zi (zk (zn (zs (zb (zs (zr ?_))))))
 obtain ⟨x10, h11, h11a, h11b, h⟩ := zX h
 refine zU (zl (zn (zd ?_)))
 refine yU ?_
 obtain ⟨r12, h13, h⟩ := zB h
 refine yc (drossref18_side_con n1 (IntKind.i64.wrap (1 + (IntKind.i64.wrap (Int.tmod r2.Vars 3)))) x10.Left _ h13) ?_
 refine yU ?_
 obtain ⟨r14, h15, h⟩ := zB h
 refine yc (drossref18_side_con n1 (IntKind.i64.wrap (1 + (IntKind.i64.wrap (Int.tmod r2.Vars 3)))) x10.Right _ h15) ?_
 obtain ⟨h16, h⟩ := ite_some h
 refine yU ?_
 refine yd (yn (zn (zr ?_)))
 refine zU (zl ?_)
 cases h
 exact ⟨rfl, zE⟩
 refine zj (zx (ze ?_))
 cases h
 exact ⟨rfl, zE⟩
 try simp only at h
 refine zA (yh (zn (zs (zd ?_))))
 refine yU ?_
 refine yd (zn (zq ?_))
 cases h
 exact zT Tryz.results26
end Go.Proofs.YtlaodgbkpmdhoaaGreatDoor
set_option linter.unusedVariables false
set_option linter.unusedSimpArgs false
namespace Go.Proofs.YtlaodgbkpmdhoaaGreatDoor
open Go Go.Ab
set_option maxHeartbeats 4000000 in
theorem slices_Clone_Atom_con {D : Prop} (l : List Atom) (r : List Atom) (h : slices_Clone_Atom l = some r) : Con D Tryz.prog 28 [(.slc (List.map encAtom l))] (.slc (List.map encAtom r)) := by
  obtain ⟨hc, h⟩ := ite_some h
  cases h
  refine ⟨Tryz.call28, ?_⟩
  refine pure_of_awp Tryz.func28 rfl Tryz.ntmps28 (by simp) fun X w hT => ?_
  show AWp _ _ _ ⟨[(0, .p (.slc (List.map encAtom l)))], []⟩
  refine awp_seq ?_
  refine awp_region ?_
  refine AL_upto (by exact rfl) (by simp only [go_sem, seval]; exact rfl) ?_
  refine AL_nil ?_
  refine thenA_n ?_
  refine awp_seq ?_
  refine awp_seq ?_
  refine awp_region ?_
  refine AL_take 1 (by simp only [go_sem, seval]; exact rfl) ?_
  refine AL_nileq (by simp only [go_sem, seval]; exact rfl) (by simp only [go_sem, seval]) Tryz.underlying22 rfl ?_
  intro b hb
  refine AL_nil ?_
  refine thenA_n ?_
  cases b
  · refine awp_cf (by simp only [go_sem, seval]) ?_
    refine awp_skip ?_
    refine thenA_n ?_
    refine awp_seq ?_
    refine awp_region ?_
    refine AL_upto (by exact rfl) (by simp only [go_sem, seval, hc]; exact rfl) ?_
    refine AL_nil ?_
    refine thenA_n ?_
    refine awp_ret ?_
    refine retQ_ret (by simp only [Tryz.results28]; simp only [go_sem, seval]; exact rfl) ?_
    simp only [go_sem, seval]
    all_goals ((repeat' refine And.intro ?_ ?_) <;> first | rfl | (simp; done) | (simp; rfl) | (simp [*]; done) | (simp [*]; rfl))
  · refine awp_ct (by simp only [go_sem, seval]) ?_
    have hl : l = [] := by
      cases l with
      | nil => rfl
      | cons x l => exact absurd (hb (by simp)) (by simp)
    subst hl
    refine awp_seq ?_
    refine awp_region ?_
    refine AL_upto (by exact rfl) (by simp only [go_sem, seval]; exact rfl) ?_
    refine AL_nil ?_
    refine thenA_n ?_
    refine awp_ret ?_
    refine thenA_ret ?_
    refine retQ_ret (by simp only [Tryz.results28]; simp only [go_sem, seval]; exact rfl) ?_
    simp only [go_sem, seval]
    all_goals ((repeat' refine And.intro ?_ ?_) <;> first | rfl | (simp; done) | (simp; rfl) | (simp [*]; done) | (simp [*]; rfl))
end Go.Proofs.YtlaodgbkpmdhoaaGreatDoor
set_option linter.unusedVariables false
set_option linter.unusedSimpArgs false
namespace Go.Proofs.YtlaodgbkpmdhoaaGreatDoor
open Go Go.Ab
set_option maxHeartbeats 4000000 in
theorem drossref01_sign_con {D : Prop} (a1 : Int) (b2 : Int) (r3 : Int) (h : drossref01_sign a1 b2 = some r3) : Con D Tryz.prog 101 [(.int .i64 a1), (.int .i64 b2)] (.int .i64 r3) := by
 refine zP Tryz.call101 Tryz.func101 rfl Tryz.ntmps101 fun X w hT => ?_
 simp only [drossref01_sign] at h
 refine zs (zr ?_)
 refine zU (zl (zn (zs (zs (zr ?_)))))
 refine zU (zl (zn ?_))
 rcases zI h with ⟨h4, h⟩ | ⟨h4, h⟩
 refine zi (zs (zr ?_))
 refine zU (zl (zn (zq (zt ?_))))
 cases h
 exact zT Tryz.results101
 refine zj (zk (zn (zs (zs (zr ?_)))))
 refine zU (zl (zn ?_))
 rcases zI h with ⟨h5, h⟩ | ⟨h5, h⟩
 refine zi (zs (zr ?_))
 refine zU (zl (zn (zq (zt ?_))))
 cases h
 exact zT Tryz.results101
 refine zj (zk (zn (zs (zr ?_))))
 refine zU (zl (zn (zq ?_)))
 cases h
 exact zT Tryz.results101
end Go.Proofs.YtlaodgbkpmdhoaaGreatDoor
set_option linter.unusedVariables false
set_option linter.unusedSimpArgs false
namespace Go.Proofs.YtlaodgbkpmdhoaaGreatDoor
open Go Go.Ab
set_option maxRecDepth 20000 in
set_option maxHeartbeats 4000000 in
theorem drossref01_strings_con {D : Prop} (a1 : List UInt8) (b2 : List UInt8) (r3 : Int) (h : drossref01_strings a1 b2 = some r3) : Con D Tryz.prog 102 [(.str a1), (.str b2)] (.int .i64 r3) := by
 refine zP Tryz.call102 Tryz.func102 rfl Tryz.ntmps102 fun X w hT => ?_
 simp only [drossref01_strings] at h
 refine zs (zr ?_)
 refine zU (zl (zn (zs (zs (zr ?_)))))
 refine zU (zl (zn (zb ?_)))
 obtain ⟨o4, h5, h⟩ := zB h
 refine zO (fun (s : Int) => ⟨[(0, .p (.str a1)), (1, .p (.str b2)), (5, .p (.int .i64 s))], []⟩) (fun (o : (Unit) ⊕ (Int)) => match o with | .inl o6 => tE (cX Tryz.f102 X w D hT) (.exit 0) ⟨[(0, .p (.str a1)), (1, .p (.str b2))], []⟩ | .inr o7 => tR Tryz.prog Tryz.f102 (.int .i64 o7)) h5 ?_ ?_
 clear h h5
 intro i8 x h
 simp only [drossref01_strings_l1] at h
 refine zs (zs (zr ?_))
 refine zU ?_
 rcases zI h with ⟨h9, h⟩ | ⟨h9, h⟩
 refine zw 10 true ?_
 refine zg ?_
 refine zg ?_
 refine zg ?_
 refine zg ?_
 refine zU (zl (zn ?_))
 rcases zI h with ⟨h10, h⟩ | ⟨h10, h⟩
 refine zi (zk (zn (zs (zb (zs (zd ?_))))))
 obtain ⟨c11, h12, h12a, h12b, h⟩ := zX h
 obtain ⟨c13, h14, h14a, h14b, h⟩ := zX h
 refine yU ?_
 refine yd (zn ?_)
 rcases zI h with ⟨h15, h⟩ | ⟨h15, h⟩
 refine zi (zs (zd ?_))
 refine yU ?_
 obtain ⟨r16, h17, h⟩ := zB h
 refine yc (drossref01_sign_con (IntKind.i64.wrap ((c11.toNat : Nat) : Int)) (IntKind.i64.wrap ((c13.toNat : Nat) : Int)) _ h17) ?_
 refine yU ?_
 refine yd (zn (zq (yr (zt ?_))))
 cases h
 exact ⟨rfl, zT Tryz.results102⟩
 refine zj (zk (yn (zn (zr ?_))))
 refine zU (zl ?_)
 cases h
 exact ⟨rfl, zE⟩
 refine zj (zx (ze ?_))
 cases h
 exact ⟨rfl, zE⟩
 refine zw 10 false ?_
 refine zh ?_
 refine zU (zl (zn ?_))
 refine zj (zx (ze ?_))
 cases h
 exact ⟨rfl, zE⟩
 rcases o4 with ⟨⟩ | r18
 try simp only at h
 refine zA (yh (zn (zs (zr ?_))))
 refine zU ?_
 obtain ⟨r19, h20, h⟩ := zB h
 refine zc (drossref01_sign_con (a1.length : Int) (b2.length : Int) _ h20) ?_
 refine zU (zl (zn (zq ?_)))
 cases h
 exact zT Tryz.results102
 try simp only at h
 refine zZ fun s hq => ?_
 refine yr (zt ?_)
 cases h
 exact hq
end Go.Proofs.YtlaodgbkpmdhoaaGreatDoor
set_option linter.unusedVariables false
set_option linter.unusedSimpArgs false
namespace Go.Proofs.YtlaodgbkpmdhoaaGreatDoor
open Go Go.Ab
set_option maxHeartbeats 4000000 in
theorem drossref01_Compare_con {D : Prop} (a1 : Value) (b2 : Value) (r3 : Int) (h : drossref01_Compare a1 b2 = some r3) : Con D Tryz.prog 45 [(encValue a1), (encValue b2)] (.int .i64 r3) := by
 refine zP Tryz.call45 Tryz.func45 rfl Tryz.ntmps45 fun X w hT => ?_
 simp only [drossref01_Compare] at h
 refine zs (zr ?_)
 refine zU (zl (zn (zs (zs (zr ?_)))))
 refine zU ?_
 obtain ⟨r4, h5, h⟩ := zB h
 refine zc (drossref01_sign_con a1.Kind b2.Kind _ h5) ?_
 refine zU (zl (zn (zs (zr ?_))))
 refine zU (zl (zn ?_))
 rcases zI h with ⟨h6, h⟩ | ⟨h6, h⟩
 refine zi (zs (zr ?_))
 refine zU (zl (zn (zq (zt ?_))))
 cases h
 exact zT Tryz.results45
 refine zj (zk (zn (zs (zs (zr ?_)))))
 refine zU ?_
 obtain ⟨r7, h8, h⟩ := zB h
 refine zc (drossref01_sign_con a1.Num b2.Num _ h8) ?_
 refine zU (zl (zn (zs (zr ?_))))
 refine zU (zl (zn ?_))
 rcases zI h with ⟨h9, h⟩ | ⟨h9, h⟩
 refine zi (zs (zr ?_))
 refine zU (zl (zn (zq (zt ?_))))
 cases h
 exact zT Tryz.results45
 refine zj (zk (zn (zs (zr ?_))))
 refine zU ?_
 obtain ⟨r10, h11, h⟩ := zB h
 refine zc (drossref01_strings_con a1.Str b2.Str _ h11) ?_
 refine zU (zl (zn (zq ?_)))
 cases h
 exact zT Tryz.results45
end Go.Proofs.YtlaodgbkpmdhoaaGreatDoor
set_option linter.unusedVariables false
set_option linter.unusedSimpArgs false
namespace Go.Proofs.YtlaodgbkpmdhoaaGreatDoor
open Go Go.Ab
set_option maxRecDepth 20000 in
set_option maxHeartbeats 4000000 in
theorem drossref18_Contradictory_con {D : Prop} (a1 : List Atom) (r2 : Bool) (h : drossref18_Contradictory a1 = some r2) : Con D Tryz.prog 30 [(.slc (List.map encAtom a1))] (.bool r2) := by
 refine zP Tryz.call30 Tryz.func30 rfl Tryz.ntmps30 fun X w hT => ?_
 simp only [drossref18_Contradictory] at h
 refine zs (zr ?_)
 refine zU (zl (zn (zs (zr ?_))))
 refine zU (zl (zn (zs (zr ?_))))
 refine zU (zl (zn (zs (zs (zr ?_)))))
 refine zU (zl (zn (zb ?_)))
 obtain ⟨o3, h4, h⟩ := zB h
 refine zO (fun (s : List Term × List Arr3_int × Int) => ⟨[(0, .p (.slc (List.map encAtom a1))), (3, .own 328 1 0 s.1.length), (4, .own 60 1 0 s.2.1.length), (5, .p (.int .i64 s.2.2))], [(60, .arr 144 3 1 (List.map AV.p (List.map encArr3_int s.2.1))), (328, .arr 29 5 1 (List.map AV.p (List.map encTerm s.1)))]⟩) (fun (o5 : List Term × List Arr3_int) => tE (cX Tryz.f30 X w D hT) (.exit 0) ⟨[(3, .own 328 1 0 o5.1.length), (4, .own 60 1 0 o5.2.length)], [(60, .arr 144 3 1 (List.map AV.p (List.map encArr3_int o5.2))), (328, .arr 29 5 1 (List.map AV.p (List.map encTerm o5.1)))]⟩) h4 ?_ ?_
 clear h h4
 intro s x h
 obtain ⟨t6, p7, i8⟩ := s
 simp only [drossref18_Contradictory_l13] at h
 dsimp only
 refine zs (zs (zr ?_))
 refine zU (zl (zn ?_))
 rcases zI h with ⟨h9, h⟩ | ⟨h9, h⟩
 have h9T := eq_true h9
 refine zi (zk (zn (zs (zb (zs (zr ?_))))))
 refine zU (zl (zn ?_))
 obtain ⟨o10, h11, h⟩ := zB h
 refine zJ (fun (o12 : List Term × Int) => tE (cX Tryz.f30 X w D hT) .normal ⟨[(0, .p (.slc (List.map encAtom a1))), (3, .own 328 1 0 o12.1.length), (4, .own 60 1 0 p7.length), (5, .p (.int .i64 i8)), (6, .p (.int .i64 o12.2))], [(60, .arr 144 3 1 (List.map AV.p (List.map encArr3_int p7))), (328, .arr 29 5 1 (List.map AV.p (List.map encTerm o12.1)))]⟩) o10 ?_ ?_
 replace h := h11
 clear h11
 refine zr ?_
 obtain ⟨x13, h14, h14a, h14b, h⟩ := zX h
 refine zU ?_
 refine zM ⟨[(0, .p (.slc (List.map encAtom a1))), (4, .own 60 1 0 p7.length), (5, .p (.int .i64 i8)), (31, .own 328 1 0 t6.length), (36, .p (encTerm x13.Left))], [(60, .arr 144 3 1 (List.map AV.p (List.map encArr3_int p7))), (328, .arr 29 5 1 (List.map AV.p (List.map encTerm t6)))]⟩ ?_
 refine AL_inline (avs := [.own 328 1 0 t6.length, .p (encTerm x13.Left)]) 302 rfl (guard_none rfl) rfl Tryz.func87 rfl Tryz.call87 Tryz.ntmps87 (by simp) (by simp only [go_sem, seval, h9T]; all_goals rfl) ?_
 intro i15 w16 h17
 show AWp _ _ _ ⟨[(0, .own 328 1 0 t6.length), (1, .p (encTerm x13.Left))], [(60, .arr 144 3 1 (List.map AV.p (List.map encArr3_int p7))), (328, .arr 29 5 1 (List.map AV.p (List.map encTerm t6)))]⟩
 refine zs (zr ?_)
 refine zU (zl (zn (zs (zs (zr ?_)))))
 refine zU (zl (zn (zb ?_)))
 obtain ⟨o18, h19, h⟩ := zB h
 refine zO (fun (s : Int) => ⟨[(0, .own 328 1 0 t6.length), (3, .loc 305 1 0 0), (6, .p (.int .i64 s))], [(60, .arr 144 3 1 (List.map AV.p (List.map encArr3_int p7))), (305, .arr 29 5 1 [.p (encTerm x13.Left)]), (328, .arr 29 5 1 (List.map AV.p (List.map encTerm t6)))]⟩) (fun (o : (Unit) ⊕ (Int)) => match o with | .inl o20 => tE ⟨Tryz.prog, 27, 302, X, [(60, .arr 144 3 1 (List.map AV.p (List.map encArr3_int p7))), (328, .arr 29 5 1 (List.map AV.p (List.map encTerm t6)))], i15, w16, D, h17⟩ (.exit 0) ⟨[(0, .own 328 1 0 t6.length), (3, .loc 305 1 0 0)], [(60, .arr 144 3 1 (List.map AV.p (List.map encArr3_int p7))), (305, .arr 29 5 1 [.p (encTerm x13.Left)]), (328, .arr 29 5 1 (List.map AV.p (List.map encTerm t6)))]⟩ | .inr o21 => tE ⟨Tryz.prog, 27, 302, X, [(60, .arr 144 3 1 (List.map AV.p (List.map encArr3_int p7))), (328, .arr 29 5 1 (List.map AV.p (List.map encTerm t6)))], i15, w16, D, h17⟩ .ret ⟨[(4, .p (.int .i64 o21)), (5, .own 328 1 0 t6.length)], [(60, .arr 144 3 1 (List.map AV.p (List.map encArr3_int p7))), (328, .arr 29 5 1 (List.map AV.p (List.map encTerm t6)))]⟩) h19 ?_ ?_
 clear h h9 h9T h14 h14a h14b h19
 intro i22 x h
 simp only [drossref18_Contradictory_l10] at h
 refine zs (zs (zr ?_))
 refine zU (zl (zn ?_))
 rcases zI h with ⟨h23, h⟩ | ⟨h23, h⟩
 refine zi (zk (zn (zs (zb (zs (zd ?_))))))
 obtain ⟨x24, h25, h25a, h25b, h⟩ := zX h
 refine yU ?_
 refine yd (zn ?_)
 rcases zI h with ⟨h26, h⟩ | ⟨h26, h⟩
 refine zi (zs (zr ?_))
 refine zU (zl (zn (zq (yr (zt ?_)))))
 cases h
 exact ⟨rfl, zE⟩
 refine zj (zk (yn (zn (zr ?_))))
 refine zU (zl ?_)
 cases h
 exact ⟨rfl, zE⟩
 refine zj (zx (ze ?_))
 cases h
 exact ⟨rfl, zE⟩
 rcases o18 with ⟨⟩ | t27
 try simp only at h
 refine zA (yh (zn (zs (zr ?_))))
 obtain ⟨h28, h⟩ := ite_some h
 refine zU (zl (zn (zq ?_)))
 refine inlQ_ret (by simp only [Tryz.results87]; simp only [go_sem, seval, h9T]; exact rfl) ?_
 refine zU (zl ?_)
 cases h
 exact ⟨rfl, zE⟩
 try simp only at h
 refine zA (yr (zt ?_))
 refine inlQ_ret (by simp only [Tryz.results87]; simp only [go_sem, seval, h9T]; exact rfl) ?_
 refine zU (zl ?_)
 cases h
 exact ⟨rfl, zE⟩
 obtain ⟨t29, a30⟩ := o10
 try simp only at h
 refine zA (zn ?_)
 obtain ⟨o31, h32, h⟩ := zB h
 refine zJ (fun (o33 : List Term × Int) => tE (cX Tryz.f30 X w D hT) .normal ⟨[(0, .p (.slc (List.map encAtom a1))), (3, .own 328 1 0 o33.1.length), (4, .own 60 1 0 p7.length), (5, .p (.int .i64 i8)), (6, .p (.int .i64 a30)), (7, .p (.int .i64 o33.2))], [(60, .arr 144 3 1 (List.map AV.p (List.map encArr3_int p7))), (328, .arr 29 5 1 (List.map AV.p (List.map encTerm o33.1)))]⟩) o31 ?_ ?_
 replace h := h32
 clear h32
 refine zr ?_
 obtain ⟨x34, h35, h35a, h35b, h⟩ := zX h
 refine zU ?_
 refine zM ⟨[(0, .p (.slc (List.map encAtom a1))), (4, .own 60 1 0 p7.length), (5, .p (.int .i64 i8)), (6, .p (.int .i64 a30)), (41, .own 328 1 0 t29.length), (46, .p (encTerm x34.Right))], [(60, .arr 144 3 1 (List.map AV.p (List.map encArr3_int p7))), (328, .arr 29 5 1 (List.map AV.p (List.map encTerm t29)))]⟩ ?_
 refine AL_inline (avs := [.own 328 1 0 t29.length, .p (encTerm x34.Right)]) 329 rfl (guard_none rfl) rfl Tryz.func87 rfl Tryz.call87 Tryz.ntmps87 (by simp) (by simp only [go_sem, seval, h9T]; all_goals rfl) ?_
 intro i36 w37 h38
 show AWp _ _ _ ⟨[(0, .own 328 1 0 t29.length), (1, .p (encTerm x34.Right))], [(60, .arr 144 3 1 (List.map AV.p (List.map encArr3_int p7))), (328, .arr 29 5 1 (List.map AV.p (List.map encTerm t29)))]⟩
 refine zs (zr ?_)
 refine zU (zl (zn (zs (zs (zr ?_)))))
 refine zU (zl (zn (zb ?_)))
 obtain ⟨o39, h40, h⟩ := zB h
 refine zO (fun (s : Int) => ⟨[(0, .own 328 1 0 t29.length), (3, .loc 332 1 0 0), (6, .p (.int .i64 s))], [(60, .arr 144 3 1 (List.map AV.p (List.map encArr3_int p7))), (328, .arr 29 5 1 (List.map AV.p (List.map encTerm t29))), (332, .arr 29 5 1 [.p (encTerm x34.Right)])]⟩) (fun (o : (Unit) ⊕ (Int)) => match o with | .inl o41 => tE ⟨Tryz.prog, 27, 329, X, [(60, .arr 144 3 1 (List.map AV.p (List.map encArr3_int p7))), (328, .arr 29 5 1 (List.map AV.p (List.map encTerm t29)))], i36, w37, D, h38⟩ (.exit 0) ⟨[(0, .own 328 1 0 t29.length), (3, .loc 332 1 0 0)], [(60, .arr 144 3 1 (List.map AV.p (List.map encArr3_int p7))), (328, .arr 29 5 1 (List.map AV.p (List.map encTerm t29))), (332, .arr 29 5 1 [.p (encTerm x34.Right)])]⟩ | .inr o42 => tE ⟨Tryz.prog, 27, 329, X, [(60, .arr 144 3 1 (List.map AV.p (List.map encArr3_int p7))), (328, .arr 29 5 1 (List.map AV.p (List.map encTerm t29)))], i36, w37, D, h38⟩ .ret ⟨[(4, .p (.int .i64 o42)), (5, .own 328 1 0 t29.length)], [(60, .arr 144 3 1 (List.map AV.p (List.map encArr3_int p7))), (328, .arr 29 5 1 (List.map AV.p (List.map encTerm t29)))]⟩) h40 ?_ ?_
 clear h h9 h9T h35 h35a h35b h40
 intro i43 x h
 simp only [drossref18_Contradictory_l12] at h
 refine zs (zs (zr ?_))
 refine zU (zl (zn ?_))
 rcases zI h with ⟨h44, h⟩ | ⟨h44, h⟩
 refine zi (zk (zn (zs (zb (zs (zd ?_))))))
 obtain ⟨x45, h46, h46a, h46b, h⟩ := zX h
 refine yU ?_
 refine yd (zn ?_)
 rcases zI h with ⟨h47, h⟩ | ⟨h47, h⟩
 refine zi (zs (zr ?_))
 refine zU (zl (zn (zq (yr (zt ?_)))))
 cases h
 exact ⟨rfl, zE⟩
 refine zj (zk (yn (zn (zr ?_))))
 refine zU (zl ?_)
 cases h
 exact ⟨rfl, zE⟩
 refine zj (zx (ze ?_))
 cases h
 exact ⟨rfl, zE⟩
 rcases o39 with ⟨⟩ | t48
 try simp only at h
 refine zA (yh (zn (zs (zr ?_))))
 obtain ⟨h49, h⟩ := ite_some h
 refine zU (zl (zn (zq ?_)))
 refine inlQ_ret (by simp only [Tryz.results87]; simp only [go_sem, seval, h9T]; exact rfl) ?_
 refine zU (zl ?_)
 cases h
 exact ⟨rfl, zE⟩
 try simp only at h
 refine zA (yr (zt ?_))
 refine inlQ_ret (by simp only [Tryz.results87]; simp only [go_sem, seval, h9T]; exact rfl) ?_
 refine zU (zl ?_)
 cases h
 exact ⟨rfl, zE⟩
 obtain ⟨t50, b51⟩ := o31
 try simp only at h
 refine zA (zn (zr ?_))
 obtain ⟨x52, h53, h53a, h53b, h⟩ := zX h
 obtain ⟨h54, h⟩ := ite_some h
 refine zU (zl (yn (zn (zr ?_))))
 refine zU (zl ?_)
 cases h
 exact ⟨rfl, zE⟩
 have h9T := eq_false h9
 refine zj (zx (ze ?_))
 cases h
 exact ⟨rfl, zE⟩
 obtain ⟨t55, p56⟩ := o3
 try simp only at h
 refine zA (yh (zn (zs (zr ?_))))
 refine zU (zl (zn (zs (zr ?_))))
 obtain ⟨h57, h⟩ := ite_some h
 obtain ⟨h58, h⟩ := ite_some h
 refine zW 2 ?_
 refine zM ⟨[(3, .own 328 1 0 t55.length), (4, .own 60 1 0 p56.length), (8, .p (.int .i64 ((t55.length : Nat) : Int))), (64, .own 64 1 0 ((List.replicate t55.length ([] : List Int))).length)], ((60, .arr 144 3 1 (List.map AV.p (List.map encArr3_int p56))) :: (64, .arr 62 1 1 (famR 64 3 1 1 (PV.int .i64) (List.replicate t55.length ([] : List Int)))) :: (328, .arr 29 5 1 (List.map AV.p (List.map encTerm t55))) :: famL 64 3 1 1 (PV.int .i64) (List.replicate t55.length ([] : List Int)) [])⟩ ?_
 refine zU (zl (zn (zs (zs (zr ?_)))))
 refine zU (zl (zn (zb ?_)))
 obtain ⟨m59, h60, h⟩ := zB h
 refine zO (fun (s : List (List Int) × Int) => ⟨[(3, .own 328 1 0 t55.length), (4, .own 60 1 0 p56.length), (8, .p (.int .i64 ((t55.length : Nat) : Int))), (9, .own 64 1 0 s.1.length), (10, .p (.int .i64 s.2))], ((60, .arr 144 3 1 (List.map AV.p (List.map encArr3_int p56))) :: (64, .arr 62 1 1 (famR 64 3 1 1 (PV.int .i64) s.1)) :: (328, .arr 29 5 1 (List.map AV.p (List.map encTerm t55))) :: famL 64 3 1 1 (PV.int .i64) s.1 [])⟩) (fun (o61 : List (List Int)) => tE (cX Tryz.f30 X w D hT) (.exit 2) ⟨[(4, .own 60 1 0 p56.length), (8, .p (.int .i64 ((t55.length : Nat) : Int))), (9, .own 64 1 0 o61.length)], ((60, .arr 144 3 1 (List.map AV.p (List.map encArr3_int p56))) :: (64, .arr 62 1 1 (famR 64 3 1 1 (PV.int .i64) o61)) :: famL 64 3 1 1 (PV.int .i64) o61 [])⟩) h60 ?_ ?_
 clear h h4 h57 h58 h60
 intro s x h
 obtain ⟨m62, i63⟩ := s
 simp only [drossref18_Contradictory_l17] at h
 dsimp only
 refine zs (zs (zr ?_))
 refine zU (zl (zn ?_))
 rcases zI h with ⟨h64, h⟩ | ⟨h64, h⟩
 refine zi (zk (zn (zs (zb (zs (zr ?_))))))
 obtain ⟨h65, h⟩ := ite_some h
 obtain ⟨h66, h⟩ := ite_some h
 obtain ⟨x67, h68, h68a, h68b, h⟩ := zX h
 refine zW 6 ?_
 refine zSw 73 (fx 64 i63.toNat) ?_
 refine zM ⟨[(3, .own 328 1 0 t55.length), (4, .own 60 1 0 p56.length), (8, .p (.int .i64 ((t55.length : Nat) : Int))), (9, .own 64 1 0 ((m62.set i63.toNat (List.replicate t55.length 0))).length), (10, .p (.int .i64 i63))], ((60, .arr 144 3 1 (List.map AV.p (List.map encArr3_int p56))) :: (64, .arr 62 1 1 (famR 64 3 1 1 (PV.int .i64) (m62.set i63.toNat (List.replicate t55.length 0)))) :: (328, .arr 29 5 1 (List.map AV.p (List.map encTerm t55))) :: famL 64 3 1 1 (PV.int .i64) (m62.set i63.toNat (List.replicate t55.length 0)) [])⟩ ?_
 refine zl (zn (zs (zr ?_)))
 obtain ⟨x69, h70, h70a, h70b, h⟩ := zX h
 have h70B := eq_true (by simpa only [List.length_set] using h70b)
 obtain ⟨x71, h72, h72a, h72b, h⟩ := zX h
 refine zW 7 ?_
 refine zM ⟨[(3, .own 328 1 0 t55.length), (4, .own 60 1 0 p56.length), (8, .p (.int .i64 ((t55.length : Nat) : Int))), (9, .own 64 1 0 (((m62.set i63.toNat (List.replicate t55.length 0)).set i63.toNat (x69.set i63.toNat 1))).length), (10, .p (.int .i64 i63))], ((60, .arr 144 3 1 (List.map AV.p (List.map encArr3_int p56))) :: (64, .arr 62 1 1 (famR 64 3 1 1 (PV.int .i64) ((m62.set i63.toNat (List.replicate t55.length 0)).set i63.toNat (x69.set i63.toNat 1)))) :: (328, .arr 29 5 1 (List.map AV.p (List.map encTerm t55))) :: famL 64 3 1 1 (PV.int .i64) ((m62.set i63.toNat (List.replicate t55.length 0)).set i63.toNat (x69.set i63.toNat 1)) [])⟩ ?_
 refine zl (zn (zs (zr ?_)))
 refine zU (zl (zn (zb ?_)))
 obtain ⟨m73, h74, h⟩ := zB h
 refine zO (fun (s : List (List Int) × Int) => ⟨[(3, .own 328 1 0 t55.length), (4, .own 60 1 0 p56.length), (8, .p (.int .i64 ((t55.length : Nat) : Int))), (9, .own 64 1 0 s.1.length), (10, .p (.int .i64 i63)), (11, .p (.int .i64 s.2))], ((60, .arr 144 3 1 (List.map AV.p (List.map encArr3_int p56))) :: (64, .arr 62 1 1 (famR 64 3 1 1 (PV.int .i64) s.1)) :: (328, .arr 29 5 1 (List.map AV.p (List.map encTerm t55))) :: famL 64 3 1 1 (PV.int .i64) s.1 [])⟩) (fun (o75 : List (List Int)) => tE (cX Tryz.f30 X w D hT) (.exit 4) ⟨[(3, .own 328 1 0 t55.length), (4, .own 60 1 0 p56.length), (8, .p (.int .i64 ((t55.length : Nat) : Int))), (9, .own 64 1 0 o75.length), (10, .p (.int .i64 i63))], ((60, .arr 144 3 1 (List.map AV.p (List.map encArr3_int p56))) :: (64, .arr 62 1 1 (famR 64 3 1 1 (PV.int .i64) o75)) :: (328, .arr 29 5 1 (List.map AV.p (List.map encTerm t55))) :: famL 64 3 1 1 (PV.int .i64) o75 [])⟩) h74 ?_ ?_
 clear h h64 h65 h66 h68 h68a h68b h70 h70a h70b h70B h72 h72a h72b h74
 intro s x h
 obtain ⟨m76, k77⟩ := s
 simp only [drossref18_Contradictory_l16] at h
 dsimp only
 refine zs (zs (zr ?_))
 refine zU (zl (zn ?_))
 rcases zI h with ⟨h78, h⟩ | ⟨h78, h⟩
 refine zi (zk (zn (zs (zb ?_))))
 obtain ⟨t79, h80, h⟩ := zB h
 refine zJ (fun (o81 : Bool) => tE (cX Tryz.f30 X w D hT) .normal ⟨[(3, .own 328 1 0 t55.length), (4, .own 60 1 0 p56.length), (8, .p (.int .i64 ((t55.length : Nat) : Int))), (9, .own 64 1 0 m76.length), (10, .p (.int .i64 i63)), (11, .p (.int .i64 k77)), (113, .p (.bool o81))], ((60, .arr 144 3 1 (List.map AV.p (List.map encArr3_int p56))) :: (64, .arr 62 1 1 (famR 64 3 1 1 (PV.int .i64) m76)) :: (328, .arr 29 5 1 (List.map AV.p (List.map encTerm t55))) :: famL 64 3 1 1 (PV.int .i64) m76 [])⟩) t79 ?_ ?_
 replace h := h80
 clear h80
 refine zd ?_
 obtain ⟨x82, h83, h83a, h83b, h⟩ := zX h
 refine yU ?_
 rcases zI h with ⟨h84, h⟩ | ⟨h84, h⟩
 refine yw 92 true ?_
 refine yg ?_
 refine yg ?_
 obtain ⟨x85, h86, h86a, h86b, h⟩ := zX h
 refine yg ?_
 refine yg ?_
 refine yg ?_
 refine yg ?_
 refine yU ?_
 rcases zI h with ⟨h87, h⟩ | ⟨h87, h⟩
 refine yw 100 true ?_
 refine yg ?_
 refine yg ?_
 refine yg ?_
 refine yg ?_
 refine yg ?_
 refine yg ?_
 refine yg ?_
 refine yg ?_
 refine yg ?_
 refine yg ?_
 obtain ⟨r88, h89, h⟩ := zB h
 replace h := h.symm
 refine yc (drossref01_Compare_con x82.Value x85.Value _ h89) ?_
 refine yg ?_
 refine yU ?_
 refine ydS ?_
 cases h
 exact ⟨rfl, zE⟩
 refine yw 100 false ?_
 refine yk ?_
 refine yU ?_
 refine ydS ?_
 cases h
 exact ⟨rfl, zE⟩
 refine yw 92 false ?_
 refine yk ?_
 refine yU ?_
 refine yk ?_
 refine yU ?_
 refine ydS ?_
 cases h
 exact ⟨rfl, zE⟩
 try simp only at h
 refine zA (zn ?_)
 rcases zI h with ⟨h90, h⟩ | ⟨h90, h⟩
 refine zi (zr ?_)
 obtain ⟨x91, h92, h92a, h92b, h⟩ := zX h
 obtain ⟨x93, h94, h94a, h94b, h⟩ := zX h
 refine zW 7 ?_
 refine zM ⟨[(3, .own 328 1 0 t55.length), (4, .own 60 1 0 p56.length), (8, .p (.int .i64 ((t55.length : Nat) : Int))), (9, .own 64 1 0 ((m76.set i63.toNat (x91.set k77.toNat 2))).length), (10, .p (.int .i64 i63)), (11, .p (.int .i64 k77))], ((60, .arr 144 3 1 (List.map AV.p (List.map encArr3_int p56))) :: (64, .arr 62 1 1 (famR 64 3 1 1 (PV.int .i64) (m76.set i63.toNat (x91.set k77.toNat 2)))) :: (328, .arr 29 5 1 (List.map AV.p (List.map encTerm t55))) :: famL 64 3 1 1 (PV.int .i64) (m76.set i63.toNat (x91.set k77.toNat 2)) [])⟩ ?_
 refine zl (yn (zn (zr ?_)))
 refine zU (zl ?_)
 cases h
 exact ⟨rfl, zE⟩
 refine zj (zk (yn (zn (zr ?_))))
 refine zU (zl ?_)
 cases h
 exact ⟨rfl, zE⟩
 refine zj (zx (ze ?_))
 cases h
 exact ⟨rfl, zE⟩
 try simp only at h
 refine zA (yh (yn (zn (zr ?_))))
 refine zU (zl ?_)
 cases h
 exact ⟨rfl, zE⟩
 refine zj (zx (ze ?_))
 cases h
 exact ⟨rfl, zE⟩
 try simp only at h
 refine zA (yh (zn (zs (zs (zr ?_)))))
 refine zU (zl (zn (zb ?_)))
 obtain ⟨m95, h96, h⟩ := zB h
 refine zO (fun (s : List (List Int) × Int) => ⟨[(4, .own 60 1 0 p56.length), (8, .p (.int .i64 ((t55.length : Nat) : Int))), (9, .own 64 1 0 s.1.length), (12, .p (.int .i64 s.2))], ((60, .arr 144 3 1 (List.map AV.p (List.map encArr3_int p56))) :: (64, .arr 62 1 1 (famR 64 3 1 1 (PV.int .i64) s.1)) :: famL 64 3 1 1 (PV.int .i64) s.1 [])⟩) (fun (o97 : List (List Int)) => tE (cX Tryz.f30 X w D hT) (.exit 6) ⟨[(4, .own 60 1 0 p56.length), (8, .p (.int .i64 ((t55.length : Nat) : Int))), (9, .own 64 1 0 o97.length)], ((60, .arr 144 3 1 (List.map AV.p (List.map encArr3_int p56))) :: (64, .arr 62 1 1 (famR 64 3 1 1 (PV.int .i64) o97)) :: famL 64 3 1 1 (PV.int .i64) o97 [])⟩) h96 ?_ ?_
 clear h h4 h57 h58 h60 h96
 intro s x h
 obtain ⟨m98, i99⟩ := s
 simp only [drossref18_Contradictory_l18] at h
 dsimp only
 refine zs (zs (zr ?_))
 refine zU (zl (zn ?_))
 rcases zI h with ⟨h100, h⟩ | ⟨h100, h⟩
 refine zi (zk (zn (zs (zb (zs (zd ?_))))))
 obtain ⟨x101, h102, h102a, h102b, h⟩ := zX h
 refine yU ?_
 refine ydS ?_
 refine zn (zs ?_)
 obtain ⟨t103, h104, h⟩ := zB h
 refine zJ (fun (o105 : Bool) => tE (cX Tryz.f30 X w D hT) .normal ⟨[(4, .own 60 1 0 p56.length), (8, .p (.int .i64 ((t55.length : Nat) : Int))), (9, .own 64 1 0 m98.length), (12, .p (.int .i64 i99)), (13, .p (.int .i64 x101.x0)), (14, .p (.int .i64 x101.x1)), (15, .p (.int .i64 x101.x2)), (146, .p (.bool o105))], ((60, .arr 144 3 1 (List.map AV.p (List.map encArr3_int p56))) :: (64, .arr 62 1 1 (famR 64 3 1 1 (PV.int .i64) m98)) :: famL 64 3 1 1 (PV.int .i64) m98 [])⟩) t103 ?_ ?_
 replace h := h104
 clear h104
 refine zr ?_
 refine zU ?_
 rcases zI h with ⟨h106, h⟩ | ⟨h106, h⟩
 refine zw 143 true ?_
 refine zh ?_
 refine zU (zl ?_)
 cases h
 exact ⟨rfl, zE⟩
 replace h := h.symm
 refine zw 143 false ?_
 refine zg ?_
 refine zg ?_
 refine zU (zl ?_)
 cases h
 exact ⟨rfl, zE⟩
 try simp only at h
 refine zA (zn ?_)
 rcases zI h with ⟨h107, h⟩ | ⟨h107, h⟩
 refine zi ?_
 refine zdl 13 ?_
 obtain ⟨x108, h109, h109a, h109b, h⟩ := zX h
 obtain ⟨x110, h111, h111a, h111b, h⟩ := zX h
 refine yU ?_
 refine ydlS ?_
 refine zW 2 ?_
 refine zM ⟨[(4, .own 60 1 0 p56.length), (8, .p (.int .i64 ((t55.length : Nat) : Int))), (9, .own 64 1 0 ((m98.set x101.x0.toNat (x108.set x101.x2.toNat (if 1 > x110 then 1 else x110)))).length), (12, .p (.int .i64 i99)), (13, .p (.int .i64 x101.x0)), (14, .p (.int .i64 x101.x1)), (15, .p (.int .i64 x101.x2))], ((60, .arr 144 3 1 (List.map AV.p (List.map encArr3_int p56))) :: (64, .arr 62 1 1 (famR 64 3 1 1 (PV.int .i64) (m98.set x101.x0.toNat (x108.set x101.x2.toNat (if 1 > x110 then 1 else x110))))) :: famL 64 3 1 1 (PV.int .i64) (m98.set x101.x0.toNat (x108.set x101.x2.toNat (if 1 > x110 then 1 else x110))) [])⟩ ?_
 refine zl (zn (zs (zs (zr ?_))))
 refine zU (zl (zn ?_))
 rcases zI h with ⟨h112, h⟩ | ⟨h112, h⟩
 refine zi ?_
 refine zdl 13 ?_
 obtain ⟨x113, h114, h114a, h114b, h⟩ := zX h
 have h114B := eq_true (by simpa only [List.length_set] using h114b)
 obtain ⟨x115, h116, h116a, h116b, h⟩ := zX h
 refine yU ?_
 refine ydlS ?_
 refine zW 2 ?_
 refine zM ⟨[(4, .own 60 1 0 p56.length), (8, .p (.int .i64 ((t55.length : Nat) : Int))), (9, .own 64 1 0 (((m98.set x101.x0.toNat (x108.set x101.x2.toNat (if 1 > x110 then 1 else x110))).set x101.x2.toNat (x113.set x101.x0.toNat (if 1 > x115 then 1 else x115)))).length), (12, .p (.int .i64 i99)), (13, .p (.int .i64 x101.x0)), (14, .p (.int .i64 x101.x1)), (15, .p (.int .i64 x101.x2))], ((60, .arr 144 3 1 (List.map AV.p (List.map encArr3_int p56))) :: (64, .arr 62 1 1 (famR 64 3 1 1 (PV.int .i64) ((m98.set x101.x0.toNat (x108.set x101.x2.toNat (if 1 > x110 then 1 else x110))).set x101.x2.toNat (x113.set x101.x0.toNat (if 1 > x115 then 1 else x115))))) :: famL 64 3 1 1 (PV.int .i64) ((m98.set x101.x0.toNat (x108.set x101.x2.toNat (if 1 > x110 then 1 else x110))).set x101.x2.toNat (x113.set x101.x0.toNat (if 1 > x115 then 1 else x115))) [])⟩ ?_
 refine zl (zn (zs (zr ?_)))
 refine zU (zl (zn ?_))
 rcases zI h with ⟨h117, h⟩ | ⟨h117, h⟩
 refine zi (zr ?_)
 obtain ⟨x118, h119, h119a, h119b, h⟩ := zX h
 have h119B := eq_true (by simpa only [List.length_set] using h119b)
 obtain ⟨x120, h121, h121a, h121b, h⟩ := zX h
 refine zW 7 ?_
 refine zM ⟨[(4, .own 60 1 0 p56.length), (8, .p (.int .i64 ((t55.length : Nat) : Int))), (9, .own 64 1 0 ((((m98.set x101.x0.toNat (x108.set x101.x2.toNat (if 1 > x110 then 1 else x110))).set x101.x2.toNat (x113.set x101.x0.toNat (if 1 > x115 then 1 else x115))).set x101.x0.toNat (x118.set x101.x2.toNat 2))).length), (12, .p (.int .i64 i99))], ((60, .arr 144 3 1 (List.map AV.p (List.map encArr3_int p56))) :: (64, .arr 62 1 1 (famR 64 3 1 1 (PV.int .i64) (((m98.set x101.x0.toNat (x108.set x101.x2.toNat (if 1 > x110 then 1 else x110))).set x101.x2.toNat (x113.set x101.x0.toNat (if 1 > x115 then 1 else x115))).set x101.x0.toNat (x118.set x101.x2.toNat 2)))) :: famL 64 3 1 1 (PV.int .i64) (((m98.set x101.x0.toNat (x108.set x101.x2.toNat (if 1 > x110 then 1 else x110))).set x101.x2.toNat (x113.set x101.x0.toNat (if 1 > x115 then 1 else x115))).set x101.x0.toNat (x118.set x101.x2.toNat 2)) [])⟩ ?_
 refine zl (yn (zn (zr ?_)))
 refine zU (zl ?_)
 cases h
 exact ⟨rfl, zE⟩
 refine zj (zk (yn (zn (zr ?_))))
 refine zU (zl ?_)
 cases h
 exact ⟨rfl, zE⟩
 refine zj (zk (zn (zs (zr ?_))))
 refine zU (zl (zn ?_))
 rcases zI h with ⟨h122, h⟩ | ⟨h122, h⟩
 refine zi (zr ?_)
 obtain ⟨x123, h124, h124a, h124b, h⟩ := zX h
 have h124B := eq_true (by simpa only [List.length_set] using h124b)
 obtain ⟨x125, h126, h126a, h126b, h⟩ := zX h
 refine zW 7 ?_
 refine zM ⟨[(4, .own 60 1 0 p56.length), (8, .p (.int .i64 ((t55.length : Nat) : Int))), (9, .own 64 1 0 (((m98.set x101.x0.toNat (x108.set x101.x2.toNat (if 1 > x110 then 1 else x110))).set x101.x0.toNat (x123.set x101.x2.toNat 2))).length), (12, .p (.int .i64 i99))], ((60, .arr 144 3 1 (List.map AV.p (List.map encArr3_int p56))) :: (64, .arr 62 1 1 (famR 64 3 1 1 (PV.int .i64) ((m98.set x101.x0.toNat (x108.set x101.x2.toNat (if 1 > x110 then 1 else x110))).set x101.x0.toNat (x123.set x101.x2.toNat 2)))) :: famL 64 3 1 1 (PV.int .i64) ((m98.set x101.x0.toNat (x108.set x101.x2.toNat (if 1 > x110 then 1 else x110))).set x101.x0.toNat (x123.set x101.x2.toNat 2)) [])⟩ ?_
 refine zl (yn (zn (zr ?_)))
 refine zU (zl ?_)
 cases h
 exact ⟨rfl, zE⟩
 refine zj (zk (yn (zn (zr ?_))))
 refine zU (zl ?_)
 cases h
 exact ⟨rfl, zE⟩
 refine zj (zk (zn (zs (zs (zr ?_)))))
 refine zU (zl (zn ?_))
 rcases zI h with ⟨h127, h⟩ | ⟨h127, h⟩
 refine zi ?_
 refine zdl 13 ?_
 obtain ⟨x128, h129, h129a, h129b, h⟩ := zX h
 obtain ⟨x130, h131, h131a, h131b, h⟩ := zX h
 refine yU ?_
 refine ydlS ?_
 refine zW 2 ?_
 refine zM ⟨[(4, .own 60 1 0 p56.length), (8, .p (.int .i64 ((t55.length : Nat) : Int))), (9, .own 64 1 0 ((m98.set x101.x2.toNat (x128.set x101.x0.toNat (if 1 > x130 then 1 else x130)))).length), (12, .p (.int .i64 i99)), (13, .p (.int .i64 x101.x0)), (14, .p (.int .i64 x101.x1)), (15, .p (.int .i64 x101.x2))], ((60, .arr 144 3 1 (List.map AV.p (List.map encArr3_int p56))) :: (64, .arr 62 1 1 (famR 64 3 1 1 (PV.int .i64) (m98.set x101.x2.toNat (x128.set x101.x0.toNat (if 1 > x130 then 1 else x130))))) :: famL 64 3 1 1 (PV.int .i64) (m98.set x101.x2.toNat (x128.set x101.x0.toNat (if 1 > x130 then 1 else x130))) [])⟩ ?_
 refine zl (zn (zs (zr ?_)))
 refine zU (zl (zn ?_))
 rcases zI h with ⟨h132, h⟩ | ⟨h132, h⟩
 refine zi (zr ?_)
 obtain ⟨x133, h134, h134a, h134b, h⟩ := zX h
 have h134B := eq_true (by simpa only [List.length_set] using h134b)
 obtain ⟨x135, h136, h136a, h136b, h⟩ := zX h
 refine zW 7 ?_
 refine zM ⟨[(4, .own 60 1 0 p56.length), (8, .p (.int .i64 ((t55.length : Nat) : Int))), (9, .own 64 1 0 (((m98.set x101.x2.toNat (x128.set x101.x0.toNat (if 1 > x130 then 1 else x130))).set x101.x0.toNat (x133.set x101.x2.toNat 2))).length), (12, .p (.int .i64 i99))], ((60, .arr 144 3 1 (List.map AV.p (List.map encArr3_int p56))) :: (64, .arr 62 1 1 (famR 64 3 1 1 (PV.int .i64) ((m98.set x101.x2.toNat (x128.set x101.x0.toNat (if 1 > x130 then 1 else x130))).set x101.x0.toNat (x133.set x101.x2.toNat 2)))) :: famL 64 3 1 1 (PV.int .i64) ((m98.set x101.x2.toNat (x128.set x101.x0.toNat (if 1 > x130 then 1 else x130))).set x101.x0.toNat (x133.set x101.x2.toNat 2)) [])⟩ ?_
 refine zl (yn (zn (zr ?_)))
 refine zU (zl ?_)
 cases h
 exact ⟨rfl, zE⟩
 refine zj (zk (yn (zn (zr ?_))))
 refine zU (zl ?_)
 cases h
 exact ⟨rfl, zE⟩
 refine zj (zk (zn (zs (zr ?_))))
 refine zU (zl (zn ?_))
 rcases zI h with ⟨h137, h⟩ | ⟨h137, h⟩
 refine zi (zr ?_)
 obtain ⟨x138, h139, h139a, h139b, h⟩ := zX h
 obtain ⟨x140, h141, h141a, h141b, h⟩ := zX h
 refine zW 7 ?_
 refine zM ⟨[(4, .own 60 1 0 p56.length), (8, .p (.int .i64 ((t55.length : Nat) : Int))), (9, .own 64 1 0 ((m98.set x101.x0.toNat (x138.set x101.x2.toNat 2))).length), (12, .p (.int .i64 i99))], ((60, .arr 144 3 1 (List.map AV.p (List.map encArr3_int p56))) :: (64, .arr 62 1 1 (famR 64 3 1 1 (PV.int .i64) (m98.set x101.x0.toNat (x138.set x101.x2.toNat 2)))) :: famL 64 3 1 1 (PV.int .i64) (m98.set x101.x0.toNat (x138.set x101.x2.toNat 2)) [])⟩ ?_
 refine zl (yn (zn (zr ?_)))
 refine zU (zl ?_)
 cases h
 exact ⟨rfl, zE⟩
 refine zj (zk (yn (zn (zr ?_))))
 refine zU (zl ?_)
 cases h
 exact ⟨rfl, zE⟩
 refine zj (zx (ze ?_))
 cases h
 exact ⟨rfl, zE⟩
 try simp only at h
 refine zA (yh (zn (zs (zs (zr ?_)))))
 refine zU (zl (zn (zb ?_)))
 obtain ⟨m142, h143, h⟩ := zB h
 refine zO (fun (s : List (List Int) × Int) => ⟨[(4, .own 60 1 0 p56.length), (8, .p (.int .i64 ((t55.length : Nat) : Int))), (9, .own 64 1 0 s.1.length), (16, .p (.int .i64 s.2))], ((60, .arr 144 3 1 (List.map AV.p (List.map encArr3_int p56))) :: (64, .arr 62 1 1 (famR 64 3 1 1 (PV.int .i64) s.1)) :: famL 64 3 1 1 (PV.int .i64) s.1 [])⟩) (fun (o144 : List (List Int)) => tE (cX Tryz.f30 X w D hT) (.exit 8) ⟨[(4, .own 60 1 0 p56.length), (8, .p (.int .i64 ((t55.length : Nat) : Int))), (9, .own 64 1 0 o144.length)], ((60, .arr 144 3 1 (List.map AV.p (List.map encArr3_int p56))) :: (64, .arr 62 1 1 (famR 64 3 1 1 (PV.int .i64) o144)) :: famL 64 3 1 1 (PV.int .i64) o144 [])⟩) h143 ?_ ?_
 clear h h4 h57 h58 h60 h96 h143
 intro s x h
 obtain ⟨m145, k146⟩ := s
 simp only [drossref18_Contradictory_l31] at h
 dsimp only
 refine zs (zs (zr ?_))
 refine zU (zl (zn ?_))
 rcases zI h with ⟨h147, h⟩ | ⟨h147, h⟩
 refine zi (zk (zn (zs (zb (zs (zr ?_))))))
 refine zU (zl (zn (zb ?_)))
 obtain ⟨m148, h149, h⟩ := zB h
 refine zO (fun (s : List (List Int) × Int) => ⟨[(4, .own 60 1 0 p56.length), (8, .p (.int .i64 ((t55.length : Nat) : Int))), (9, .own 64 1 0 s.1.length), (16, .p (.int .i64 k146)), (17, .p (.int .i64 s.2))], ((60, .arr 144 3 1 (List.map AV.p (List.map encArr3_int p56))) :: (64, .arr 62 1 1 (famR 64 3 1 1 (PV.int .i64) s.1)) :: famL 64 3 1 1 (PV.int .i64) s.1 [])⟩) (fun (o150 : List (List Int)) => tE (cX Tryz.f30 X w D hT) (.exit 10) ⟨[(4, .own 60 1 0 p56.length), (8, .p (.int .i64 ((t55.length : Nat) : Int))), (9, .own 64 1 0 o150.length), (16, .p (.int .i64 k146))], ((60, .arr 144 3 1 (List.map AV.p (List.map encArr3_int p56))) :: (64, .arr 62 1 1 (famR 64 3 1 1 (PV.int .i64) o150)) :: famL 64 3 1 1 (PV.int .i64) o150 [])⟩) h149 ?_ ?_
 clear h h147 h149
 intro s x h
 obtain ⟨m151, i152⟩ := s
 simp only [drossref18_Contradictory_l30] at h
 dsimp only
 refine zs (zs (zr ?_))
 refine zU (zl (zn ?_))
 rcases zI h with ⟨h153, h⟩ | ⟨h153, h⟩
 refine zi (zk (zn (zs (zb (zs (zr ?_))))))
 refine zU (zl (zn (zb ?_)))
 obtain ⟨m154, h155, h⟩ := zB h
 refine zO (fun (s : List (List Int) × Int) => ⟨[(4, .own 60 1 0 p56.length), (8, .p (.int .i64 ((t55.length : Nat) : Int))), (9, .own 64 1 0 s.1.length), (16, .p (.int .i64 k146)), (17, .p (.int .i64 i152)), (18, .p (.int .i64 s.2))], ((60, .arr 144 3 1 (List.map AV.p (List.map encArr3_int p56))) :: (64, .arr 62 1 1 (famR 64 3 1 1 (PV.int .i64) s.1)) :: famL 64 3 1 1 (PV.int .i64) s.1 [])⟩) (fun (o156 : List (List Int)) => tE (cX Tryz.f30 X w D hT) (.exit 12) ⟨[(4, .own 60 1 0 p56.length), (8, .p (.int .i64 ((t55.length : Nat) : Int))), (9, .own 64 1 0 o156.length), (16, .p (.int .i64 k146)), (17, .p (.int .i64 i152))], ((60, .arr 144 3 1 (List.map AV.p (List.map encArr3_int p56))) :: (64, .arr 62 1 1 (famR 64 3 1 1 (PV.int .i64) o156)) :: famL 64 3 1 1 (PV.int .i64) o156 [])⟩) h155 ?_ ?_
 clear h h153 h155
 intro s x h
 obtain ⟨m157, j158⟩ := s
 simp only [drossref18_Contradictory_l29] at h
 dsimp only
 refine zs (zs (zr ?_))
 refine zU (zl (zn ?_))
 rcases zI h with ⟨h159, h⟩ | ⟨h159, h⟩
 refine zi (zk (zn (zs (zb ?_))))
 obtain ⟨t160, h161, h⟩ := zB h
 refine zJ (fun (o162 : Bool) => tE (cX Tryz.f30 X w D hT) .normal ⟨[(4, .own 60 1 0 p56.length), (8, .p (.int .i64 ((t55.length : Nat) : Int))), (9, .own 64 1 0 m157.length), (16, .p (.int .i64 k146)), (17, .p (.int .i64 i152)), (18, .p (.int .i64 j158)), (217, .p (.bool o162))], ((60, .arr 144 3 1 (List.map AV.p (List.map encArr3_int p56))) :: (64, .arr 62 1 1 (famR 64 3 1 1 (PV.int .i64) m157)) :: famL 64 3 1 1 (PV.int .i64) m157 [])⟩) t160 ?_ ?_
 replace h := h161
 clear h161
 refine zr ?_
 obtain ⟨x163, h164, h164a, h164b, h⟩ := zX h
 obtain ⟨x165, h166, h166a, h166b, h⟩ := zX h
 refine zU ?_
 rcases zI h with ⟨h167, h⟩ | ⟨h167, h⟩
 refine zw 208 true ?_
 refine zg ?_
 refine zg ?_
 obtain ⟨x168, h169, h169a, h169b, h⟩ := zX h
 refine zg ?_
 refine zg ?_
 refine zg ?_
 obtain ⟨x170, h171, h171a, h171b, h⟩ := zX h
 replace h := h.symm
 refine zg ?_
 refine zg ?_
 refine zg ?_
 refine zU (zl ?_)
 cases h
 exact ⟨rfl, zE⟩
 refine zw 208 false ?_
 refine zh ?_
 refine zU (zl ?_)
 cases h
 exact ⟨rfl, zE⟩
 try simp only at h
 refine zA (zn ?_)
 rcases zI h with ⟨h172, h⟩ | ⟨h172, h⟩
 refine zi ?_
 refine zdl 27 ?_
 obtain ⟨x173, h174, h174a, h174b, h⟩ := zX h
 obtain ⟨x175, h176, h176a, h176b, h⟩ := zX h
 obtain ⟨x177, h178, h178a, h178b, h⟩ := zX h
 obtain ⟨x179, h180, h180a, h180b, h⟩ := zX h
 obtain ⟨x181, h182, h182a, h182b, h⟩ := zX h
 refine yU ?_
 refine ydlS ?_
 refine zW 2 ?_
 refine zM ⟨[(4, .own 60 1 0 p56.length), (8, .p (.int .i64 ((t55.length : Nat) : Int))), (9, .own 64 1 0 ((m157.set i152.toNat (x173.set j158.toNat (if x181 > (if x177 > x175 then x177 else x175) then x181 else (if x177 > x175 then x177 else x175))))).length), (16, .p (.int .i64 k146)), (17, .p (.int .i64 i152)), (18, .p (.int .i64 j158))], ((60, .arr 144 3 1 (List.map AV.p (List.map encArr3_int p56))) :: (64, .arr 62 1 1 (famR 64 3 1 1 (PV.int .i64) (m157.set i152.toNat (x173.set j158.toNat (if x181 > (if x177 > x175 then x177 else x175) then x181 else (if x177 > x175 then x177 else x175)))))) :: famL 64 3 1 1 (PV.int .i64) (m157.set i152.toNat (x173.set j158.toNat (if x181 > (if x177 > x175 then x177 else x175) then x181 else (if x177 > x175 then x177 else x175)))) [])⟩ ?_
 refine zl (yn (zn (zr ?_)))
 refine zU (zl ?_)
 cases h
 exact ⟨rfl, zE⟩
 refine zj (zk (yn (zn (zr ?_))))
 refine zU (zl ?_)
 cases h
 exact ⟨rfl, zE⟩
 refine zj (zx (ze ?_))
 cases h
 exact ⟨rfl, zE⟩
 try simp only at h
 refine zA (yh (yn (zn (zr ?_))))
 refine zU (zl ?_)
 cases h
 exact ⟨rfl, zE⟩
 refine zj (zx (ze ?_))
 cases h
 exact ⟨rfl, zE⟩
 try simp only at h
 refine zA (yh (yn (zn (zr ?_))))
 refine zU (zl ?_)
 cases h
 exact ⟨rfl, zE⟩
 refine zj (zx (ze ?_))
 cases h
 exact ⟨rfl, zE⟩
 try simp only at h
 refine zA (yh (zn (zs (zs (zr ?_)))))
 refine zU (zl (zn (zb ?_)))
 obtain ⟨o183, h184, h⟩ := zB h
 refine zO (fun (s : Int) => ⟨[(4, .own 60 1 0 p56.length), (8, .p (.int .i64 ((t55.length : Nat) : Int))), (9, .own 64 1 0 m142.length), (19, .p (.int .i64 s))], ((60, .arr 144 3 1 (List.map AV.p (List.map encArr3_int p56))) :: (64, .arr 62 1 1 (famR 64 3 1 1 (PV.int .i64) m142)) :: famL 64 3 1 1 (PV.int .i64) m142 [])⟩) (fun (o : (Unit) ⊕ (Bool)) => match o with | .inl o185 => tE (cX Tryz.f30 X w D hT) (.exit 14) ⟨[(4, .own 60 1 0 p56.length), (9, .own 64 1 0 m142.length)], ((60, .arr 144 3 1 (List.map AV.p (List.map encArr3_int p56))) :: (64, .arr 62 1 1 (famR 64 3 1 1 (PV.int .i64) m142)) :: famL 64 3 1 1 (PV.int .i64) m142 [])⟩ | .inr o186 => tR Tryz.prog Tryz.f30 (.bool o186)) h184 ?_ ?_
 clear h h4 h57 h58 h60 h96 h143 h184
 intro i187 x h
 simp only [drossref18_Contradictory_l32] at h
 refine zs (zs (zr ?_))
 refine zU (zl (zn ?_))
 rcases zI h with ⟨h188, h⟩ | ⟨h188, h⟩
 refine zi (zk (zn (zs (zb (zs (zr ?_))))))
 obtain ⟨x189, h190, h190a, h190b, h⟩ := zX h
 obtain ⟨x191, h192, h192a, h192b, h⟩ := zX h
 refine zU (zl (zn ?_))
 rcases zI h with ⟨h193, h⟩ | ⟨h193, h⟩
 refine zi (zs (zr ?_))
 refine zU (zl (zn (zq (yr (zt ?_)))))
 cases h
 exact ⟨rfl, zT Tryz.results30⟩
 refine zj (zk (yn (zn (zr ?_))))
 refine zU (zl ?_)
 cases h
 exact ⟨rfl, zE⟩
 refine zj (zx (ze ?_))
 cases h
 exact ⟨rfl, zE⟩
 rcases o183 with ⟨⟩ | r194
 try simp only at h
 refine zA (yh (zn (zs (zs (zr ?_)))))
 refine zU (zl (zn (zb ?_)))
 obtain ⟨o195, h196, h⟩ := zB h
 refine zO (fun (s : Int) => ⟨[(4, .own 60 1 0 p56.length), (9, .own 64 1 0 m142.length), (20, .p (.int .i64 s))], ((60, .arr 144 3 1 (List.map AV.p (List.map encArr3_int p56))) :: (64, .arr 62 1 1 (famR 64 3 1 1 (PV.int .i64) m142)) :: famL 64 3 1 1 (PV.int .i64) m142 [])⟩) (fun (o : (Unit) ⊕ (Bool)) => match o with | .inl o197 => tE (cX Tryz.f30 X w D hT) (.exit 16) ⟨[], []⟩ | .inr o198 => tR Tryz.prog Tryz.f30 (.bool o198)) h196 ?_ ?_
 clear h h4 h57 h58 h60 h96 h143 h184 h196
 intro i199 x h
 simp only [drossref18_Contradictory_l33] at h
 refine zs (zs (zr ?_))
 refine zU (zl (zn ?_))
 rcases zI h with ⟨h200, h⟩ | ⟨h200, h⟩
 refine zi (zk (zn (zs (zb (zs (zd ?_))))))
 obtain ⟨x201, h202, h202a, h202b, h⟩ := zX h
 refine yU ?_
 refine ydS ?_
 refine zn (zs (zr ?_))
 refine zU ?_
 rcases zI h with ⟨h203, h⟩ | ⟨h203, h⟩
 refine zw 282 true ?_
 refine zg ?_
 refine zg ?_
 obtain ⟨x204, h205, h205a, h205b, h⟩ := zX h
 refine zg ?_
 refine zg ?_
 refine zg ?_
 obtain ⟨x206, h207, h207a, h207b, h⟩ := zX h
 refine zg ?_
 refine zg ?_
 refine zg ?_
 refine zU ?_
 rcases zI h with ⟨h208, h⟩ | ⟨h208, h⟩
 refine zw 292 true ?_
 refine zg ?_
 refine zg ?_
 obtain ⟨x209, h210, h210a, h210b, h⟩ := zX h
 refine zg ?_
 refine zg ?_
 refine zg ?_
 obtain ⟨x211, h212, h212a, h212b, h⟩ := zX h
 refine zg ?_
 refine zg ?_
 refine zg ?_
 refine zU (zl (zn ?_))
 rcases zI h with ⟨h213, h⟩ | ⟨h213, h⟩
 refine zi (zs (zr ?_))
 refine zU (zl (zn (zq (yr (zt ?_)))))
 cases h
 exact ⟨rfl, zT Tryz.results30⟩
 refine zj (zk (yn (zn (zr ?_))))
 refine zU (zl ?_)
 cases h
 exact ⟨rfl, zE⟩
 refine zw 292 false ?_
 refine zh ?_
 refine zU (zl (zn ?_))
 refine zj (zk (yn (zn (zr ?_))))
 refine zU (zl ?_)
 cases h
 exact ⟨rfl, zE⟩
 refine zw 282 false ?_
 refine zh ?_
 refine zU ?_
 refine zh ?_
 refine zU (zl (zn ?_))
 refine zj (zk (yn (zn (zr ?_))))
 refine zU (zl ?_)
 cases h
 exact ⟨rfl, zE⟩
 refine zj (zx (ze ?_))
 cases h
 exact ⟨rfl, zE⟩
 rcases o195 with ⟨⟩ | r214
 try simp only at h
 refine zA (yh (zn (zs (zr ?_))))
 refine zU (zl (zn (zq ?_)))
 cases h
 exact zT Tryz.results30
 try simp only at h
 refine zZ fun s hq => ?_
 refine yr (zt ?_)
 cases h
 exact hq
 try simp only at h
 refine zZ fun s hq => ?_
 refine yr (zt ?_)
 cases h
 exact hq
end Go.Proofs.YtlaodgbkpmdhoaaGreatDoor
set_option linter.unusedVariables false
set_option linter.unusedSimpArgs false
namespace Go.Proofs.YtlaodgbkpmdhoaaGreatDoor
open Go Go.Ab
set_option maxRecDepth 20000 in
set_option maxHeartbeats 4000000 in
theorem drosslaw18_DenialContradictory_con (x1 : Drossref03_Recipe) (r2 : Drossref18_Recipe) (r3 : Bool) (h : drosslaw18_DenialContradictory x1 r2 = some r3) : Con False Tryz.prog 6 [(encDrossref03_Recipe x1), (encDrossref18_Recipe r2)] (.bool r3) := by
 refine zP Tryz.call6 Tryz.func6 rfl Tryz.ntmps6 fun X w hT => ?_
 simp only [drosslaw18_DenialContradictory] at h
 refine zs (zr ?_)
 refine zU (zl (zn (zs (zr ?_))))
 refine zU ?_
 obtain ⟨r4, h5, h⟩ := zB h
 refine zc (drossref03_Table_con x1 7 _ h5) ?_
 refine zU (zl (zn (zs (zr ?_))))
 refine zU ?_
 obtain ⟨r6, h7, h⟩ := zB h
 refine zc (drossref18_Of_con (r4.1.Attrs.length : Int) r2 _ h7) ?_
 refine zU (zl (zn (zs ?_)))
 obtain ⟨t8, h9, h⟩ := zB h
 refine zJ (fun (o10 : Bool) => tE (cX Tryz.f6 X w False hT) .normal ⟨[(5, .loc 5 1 0 0), (7, .loc 7 1 0 0), (34, .p (.bool o10))], [(5, .arr 41 3 1 [.p (encTable r4.1)]), (7, .arr 24 2 1 [.p (encDenial r6.1)])]⟩) t8 ?_ ?_
 replace h := h9
 clear h9
 refine zr ?_
 obtain ⟨r11, h12, h⟩ := zB h
 refine zc (drosslaw18_awake_con  _ h12) ?_
 refine zU ?_
 rcases zI h with ⟨h13, h⟩ | ⟨h13, h⟩
 refine zw 27 false ?_
 refine zg ?_
 refine zg ?_
 refine zU ?_
 rcases zI h with ⟨h14, h⟩ | ⟨h14, h⟩
 replace h := h.symm
 refine zw 31 false ?_
 refine zg ?_
 refine zg ?_
 refine zU (zl ?_)
 cases h
 exact ⟨rfl, zE⟩
 refine zw 31 true ?_
 refine zh ?_
 refine zU (zl ?_)
 cases h
 exact ⟨rfl, zE⟩
 refine zw 27 true ?_
 refine zh ?_
 refine zU ?_
 refine zh ?_
 refine zU (zl ?_)
 cases h
 exact ⟨rfl, zE⟩
 try simp only at h
 refine zA (zn ?_)
 rcases zI h with ⟨h15, h⟩ | ⟨h15, h⟩
 refine zi (zs (zr ?_))
 obtain ⟨r16, h17, h⟩ := zB h
 refine zc (drosslaw18_awake_con  _ h17) ?_
 refine zU (zl (zn (zq (zt ?_))))
 cases h
 exact zT Tryz.results6
 refine zj (zk (zn (zs (zr ?_))))
 refine zU ?_
 obtain ⟨r18, h19, h⟩ := zB h
 refine zc (slices_Clone_Atom_con r6.1.Atoms _ h19) ?_
 obtain ⟨r20, h21, h⟩ := zB h
 refine zc (denial_Contradictory_con r18 _ h21) ?_
 refine zU (zl (zn (zs (zr ?_))))
 refine zU ?_
 obtain ⟨r22, h23, h⟩ := zB h
 refine zc (denial_Violations_con r4.1 r6.1 _ h23) ?_
 refine zU (zl (zn (zs (zr ?_))))
 refine zU ?_
 obtain ⟨r24, h25, h⟩ := zB h
 refine zc (drossref18_Contradictory_con r6.1.Atoms _ h25) ?_
 refine zU ?_
 rcases zI h with ⟨h26, h⟩ | ⟨h26, h⟩
 refine zw 51 true ?_
 refine zg ?_
 refine zg ?_
 refine zU ?_
 rcases zI h with ⟨h27, h⟩ | ⟨h27, h⟩
 refine zw 55 true ?_
 refine zg ?_
 refine zg ?_
 rcases zI h with ⟨h28, h⟩ | ⟨h28, h⟩
 replace h := h.symm
 refine zw 57 true ?_
 refine zg ?_
 refine zg ?_
 refine zg ?_
 refine zg ?_
 refine zg ?_
 refine zU (zl (zn (zq ?_)))
 cases h
 exact zT Tryz.results6
 replace h := h.symm
 refine zw 57 false ?_
 refine zh ?_
 refine zg ?_
 refine zg ?_
 refine zU (zl (zn (zq ?_)))
 cases h
 exact zT Tryz.results6
 refine zw 55 false ?_
 refine zh ?_
 refine zU (zl (zn (zq ?_)))
 cases h
 exact zT Tryz.results6
 refine zw 51 false ?_
 refine zh ?_
 refine zU ?_
 refine zh ?_
 refine zU (zl (zn (zq ?_)))
 cases h
 exact zT Tryz.results6
end Go.Proofs.YtlaodgbkpmdhoaaGreatDoor
