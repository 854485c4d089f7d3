/- Each function of the program computes what its Lean function says, where that has a value. -/
import Derived.Test.YtlaodgbkpmdhoaaGreatDoorW1
set_option linter.unusedVariables false
set_option linter.unusedSimpArgs false
namespace Go.Proofs.YtlaodgbkpmdhoaaGreatDoor
open Go Go.Ab
set_option maxHeartbeats 4000000 in
theorem denial_Violations_con (t1 : Table) (d2 : Denial) (r3 : List (List Int) × Int) (h : denial_Violations t1 d2 = some r3) : Con False Tryz.prog 29 [(encTable t1), (encDenial d2)] (.tup [(.slc (List.map (encL (PV.int .i64)) r3.1)), (.int .i64 r3.2)]) := by
 refine zP Tryz.call29 Tryz.func29 rfl Tryz.ntmps29 fun X w hT => ?_
 simp only [denial_Violations] at h
 refine zs (zr ?_)
 refine zU (zl (zn (zs (zs (zr ?_)))))
 refine zU ?_
 obtain ⟨r4, h5, h⟩ := zB h
 refine zc (denial_checked_con t1 d2 _ h5) ?_
 refine zU (zl (zn (zs (zr ?_))))
 refine zU (zl (zn ?_))
 rcases zI h with ⟨h6, h⟩ | ⟨h6, h⟩
 refine zi (zs (zr ?_))
 refine zU (zl (zn (zq (zt ?_))))
 cases h
 exact zT Tryz.results29
 have h6F := Bool.eq_false_iff.2 h6
 refine zj (zk (zn (zs (zr ?_))))
 refine zU (zl (zn (zs (zr ?_))))
 refine zU (zl (zn ?_))
 obtain ⟨o7, h8, h⟩ := zB h
 refine zJ (fun (o9 : List (List Int) × Bool) => tE (cX Tryz.f29 X w False hT) .normal ⟨[(8, .loc 8 1 0 0), (9, .p (.bool o9.2))], [(8, .arr 52 1 1 [.own 200008 1 0 o9.1.length]), (200008, .arr 57 1 1 (List.map AV.p (List.map (encL (PV.int .i64)) o9.1)))]⟩) o7 ?_ ?_
 replace h := h8
 clear h8
 refine zr ?_
 refine zU ?_
 refine zM ⟨[(8, .loc 8 1 0 0), (17, .p (encTable t1)), (18, .p (encDenial d2)), (19, .func (.func 83) [.loc 7 1 0 0, .loc 8 1 0 0])], [(7, .arr 134 1 1 [.mapo 16 1]), (8, .arr 52 1 1 [.own 200008 1 0 0]), (16, .map 1 [] []), (200008, .arr 57 1 1 [])]⟩ ?_
 obtain ⟨m10, h11, h⟩ := zB h
 replace h11 := Option.some.inj h11
 refine AL_le (st' := ⟨[(8, .loc 8 1 0 0), (17, .p (encTable t1)), (18, .p (encDenial d2)), (19, .func (.func 83) [.loc 7 1 0 0, .loc 8 1 0 0])], [(7, .arr 134 1 1 [.mapo 16 1]), (8, .arr 52 1 1 [.own 200008 1 0 0]), (16, .map 1 (List.map AV.p (encK encArr3_int64 m10)) (List.map AV.p (encW PV.bool m10))), (200008, .arr 57 1 1 [])]⟩) (by simp only [go_sem, seval, h6F, ← h11]; all_goals ((repeat' refine And.intro ?_ ?_) <;> first | rfl | (simp; done) | (simp; rfl) | (simp [*]; done) | (simp [*]; rfl))) ?_
 clear h11
 refine zM ⟨[(8, .loc 8 1 0 0), (17, .p (encTable t1)), (18, .p (encDenial d2)), (19, .func (.func 83) [.loc 7 1 0 0, .loc 8 1 0 0])], [(7, .arr 134 1 1 [.mapo 16 1]), (8, .arr 52 1 1 [.own 200008 1 0 0]), (16, .map 1 (List.map AV.p (encK encArr3_int64 m10)) (List.map AV.p (encW PV.bool m10))), (200008, .arr 57 1 1 [])]⟩ ?_
 refine AL_inline (avs := [.p (encTable t1), .p (encDenial d2), .nils, .func (.func 83) [.loc 7 1 0 0, .loc 8 1 0 0]]) 26 rfl (guard_none rfl) rfl Tryz.func82 rfl Tryz.call82 Tryz.ntmps82 (by simp) (by simp only [go_sem, seval, h6F]; all_goals rfl) ?_
 intro i12 w13 h14
 obtain ⟨l15, h16, h⟩ := zB h
 replace h16 := Option.some.inj h16
 refine awp_le (st' := ⟨[(0, .p (encTable t1)), (1, .p (encDenial d2)), (2, .p (.slc (List.map encRow l15))), (3, .func (.func 83) [.loc 7 1 0 0, .loc 8 1 0 0])], [(7, .arr 134 1 1 [.mapo 16 1]), (8, .arr 52 1 1 [.own 200008 1 0 0]), (16, .map 1 (List.map AV.p (encK encArr3_int64 m10)) (List.map AV.p (encW PV.bool m10))), (200008, .arr 57 1 1 [])]⟩) (by simp only [go_sem, seval, h6F, ← h16]; all_goals ((repeat' refine And.intro ?_ ?_) <;> first | rfl | (simp; done) | (simp; rfl) | (simp [*]; done) | (simp [*]; rfl))) ?_
 clear h16
 refine zs (zr ?_)
 refine zU (zl (zn (zs (zs (zr ?_)))))
 refine zU (zl (zn ?_))
 rcases zI h with ⟨h17, h⟩ | ⟨h17, h⟩
 refine zi (zs (zr ?_))
 refine zU ?_
 obtain ⟨r18, h19, h⟩ := zB h
 refine zc (denial_satisfied_con l15 d2.Atoms _ h19) ?_
 refine zU ?_
 rcases zI h with ⟨h20, h⟩ | ⟨h20, h⟩
 refine zw 21 false ?_
 refine zg ?_
 refine zg ?_
 refine zM ⟨[(21, .p (.bool false)), (22, .func (.func 83) [.loc 7 1 0 0, .loc 8 1 0 0]), (23, .p (.slc (List.map encRow l15)))], [(7, .arr 134 1 1 [.mapo 16 1]), (8, .arr 52 1 1 [.own 200008 1 0 0]), (16, .map 1 (List.map AV.p (encK encArr3_int64 m10)) (List.map AV.p (encW PV.bool m10))), (200008, .arr 57 1 1 [])]⟩ ?_
 refine AL_inline (avs := [.p (.slc (List.map encRow l15)), .loc 7 1 0 0, .loc 8 1 0 0]) 73 rfl (guard_true' rfl rfl (by exact rfl) (by exact rfl)) rfl Tryz.func83 rfl Tryz.call83 Tryz.ntmps83 (by simp) (by simp only [go_sem, seval, h6F, h17, h20]; all_goals rfl) ?_
 intro i21 w22 h23
 show AWp _ _ _ ⟨[(0, .p (.slc (List.map encRow l15))), (1, .loc 7 1 0 0), (2, .loc 8 1 0 0)], [(7, .arr 134 1 1 [.mapo 16 1]), (8, .arr 52 1 1 [.own 200008 1 0 0]), (16, .map 1 (List.map AV.p (encK encArr3_int64 m10)) (List.map AV.p (encW PV.bool m10))), (200008, .arr 57 1 1 [])]⟩
 refine zs (zr ?_)
 refine zU (zl (zn (zs (zr ?_))))
 refine zU (zl (zn (zs (zs (zr ?_)))))
 refine zU (zl (zn (zb ?_)))
 obtain ⟨l24, h25, h⟩ := zB h
 refine zO (fun (s : List Int × Int) => ⟨[(1, .loc 7 1 0 0), (2, .loc 8 1 0 0), (5, .own 92 1 0 s.1.length), (9, .p (.slc (List.map encRow l15))), (10, .p (.int .i64 (l15.length : Int))), (11, .p (.int .i64 s.2))], [(7, .arr 134 1 1 [.mapo 16 1]), (8, .arr 52 1 1 [.own 200008 1 0 0]), (16, .map 1 (List.map AV.p (encK encArr3_int64 m10)) (List.map AV.p (encW PV.bool m10))), (92, .arr 2 1 1 (List.map AV.p (List.map (PV.int .i64) s.1))), (200008, .arr 57 1 1 (List.map AV.p (List.map (encL (PV.int .i64)) [])))]⟩) (fun (o26 : List Int) => tE ⟨Tryz.prog, 39, 73, X, [(7, .arr 134 1 1 [.mapo 16 1]), (8, .arr 52 1 1 [.own 200008 1 0 0]), (16, .map 1 (List.map AV.p (encK encArr3_int64 m10)) (List.map AV.p (encW PV.bool m10))), (200008, .arr 57 1 1 [])], i21, w22, False, h23⟩ (.exit 0) ⟨[(1, .loc 7 1 0 0), (2, .loc 8 1 0 0), (5, .own 92 1 0 o26.length)], [(7, .arr 134 1 1 [.mapo 16 1]), (8, .arr 52 1 1 [.own 200008 1 0 0]), (16, .map 1 (List.map AV.p (encK encArr3_int64 m10)) (List.map AV.p (encW PV.bool m10))), (92, .arr 2 1 1 (List.map AV.p (List.map (PV.int .i64) o26))), (200008, .arr 57 1 1 (List.map AV.p (List.map (encL (PV.int .i64)) [])))]⟩) h25 ?_ ?_
 clear h h5 h6 h6F h17 h19 h20 h25
 intro s x h
 obtain ⟨l27, t28⟩ := s
 simp only [denial_Violations_l81] at h
 dsimp only
 refine zs (zr ?_)
 refine zU (zl (zn (zs ?_)))
 rcases zI h with ⟨h29, h⟩ | ⟨h29, h⟩
 refine zi (zk (zn (zs (zb (zs (zr ?_))))))
 obtain ⟨x30, h31, h31a, h31b, h⟩ := zX h
 refine zU (zl (zn (zr ?_)))
 obtain ⟨h32, h⟩ := ite_some h
 refine zU (zl (yn (zn (zr ?_))))
 refine zU (zl ?_)
 cases h
 exact ⟨rfl, zE⟩
 refine zj (zx (ze ?_))
 cases h
 exact ⟨rfl, zE⟩
 try simp only at h
 refine zA (yh (zn (zs (zr ?_))))
 refine zU ?_
 refine zM ⟨[(1, .loc 7 1 0 0), (2, .loc 8 1 0 0), (5, .own 92 1 0 l24.length), (21, .own 92 1 0 l24.length)], [(7, .arr 134 1 1 [.mapo 16 1]), (8, .arr 52 1 1 [.own 200008 1 0 0]), (16, .map 1 (List.map AV.p (encK encArr3_int64 m10)) (List.map AV.p (encW PV.bool m10))), (92, .arr 2 1 1 (List.map AV.p (List.map (PV.int .i64) l24))), (200008, .arr 57 1 1 (List.map AV.p (List.map (encL (PV.int .i64)) [])))]⟩ ?_
 obtain ⟨l33, h34, h⟩ := zB h
 refine zSI srt84 h34 ?_
 have h35 := srtIF_len h34
 refine zM ⟨[(1, .loc 7 1 0 0), (2, .loc 8 1 0 0), (5, .own 92 1 0 l33.length), (22, .p (.tup []))], [(7, .arr 134 1 1 [.mapo 16 1]), (8, .arr 52 1 1 [.own 200008 1 0 0]), (16, .map 1 (List.map AV.p (encK encArr3_int64 m10)) (List.map AV.p (encW PV.bool m10))), (92, .arr 2 1 1 (List.map AV.p (List.map (PV.int .i64) l33))), (200008, .arr 57 1 1 (List.map AV.p (List.map (encL (PV.int .i64)) [])))]⟩ ?_
 clear h35
 refine zl (zn (zs (zr ?_)))
 refine zU (zl (zn (zs (zr ?_))))
 refine zM ⟨[(1, .loc 7 1 0 0), (2, .loc 8 1 0 0), (5, .p (.slc (List.map (PV.int .i64) l33))), (8, .loc 81 1 0 0)], [(7, .arr 134 1 1 [.mapo 16 1]), (8, .arr 52 1 1 [.own 200008 1 0 0]), (16, .map 1 (List.map AV.p (encK encArr3_int64 m10)) (List.map AV.p (encW PV.bool m10))), (81, .arr 137 3 1 [.p (.agg [.int .i64 0, .int .i64 0, .int .i64 0])]), (200008, .arr 57 1 1 (List.map AV.p (List.map (encL (PV.int .i64)) [])))]⟩ ?_
 refine zCpa 81 0 0 0 l33 Tryz.underlying137 Tryz.underlying57 ?_
 refine zl (zn (zs (zs (zr ?_))))
 refine zU (zl (zn ?_))
 rcases zI h with ⟨h36, h⟩ | ⟨h36, h⟩
 refine zj (zk (zn (zs (zr ?_))))
 refine zU (zl (zn (zq ?_)))
 refine inlQ_ret (by simp only [Tryz.results83]; simp only [go_sem, seval, h6F, h17, h20, h36]; exact rfl) ?_
 refine zU (zl (zn (zq (zt ?_))))
 refine inlQ_ret (by simp only [Tryz.results82]; simp only [go_sem, seval, h6F, h17, h20, h36]; exact rfl) ?_
 refine zU (zl ?_)
 cases h
 exact ⟨rfl, zE⟩
 have h36F := Bool.eq_false_iff.2 h36
 refine zi (zs (zr ?_))
 refine zU (zl (zn (zr ?_)))
 have h37 : roomB 1 24 = true := by decide
 refine zU (zl (zn (zs (zr ?_))))
 refine zU (zl (zn (zq ?_)))
 refine inlQ_ret (by simp only [Tryz.results83]; simp only [go_sem, seval, h6F, h17, h20, h36F]; exact rfl) ?_
 refine zU (zl (zn (zq (zt ?_))))
 refine inlQ_ret (by simp only [Tryz.results82]; simp only [go_sem, seval, h6F, h17, h20, h36F]; exact rfl) ?_
 refine zU (zl ?_)
 cases h
 exact ⟨rfl, zE⟩
 have h20F := Bool.eq_false_iff.2 h20
 refine zw 21 true ?_
 refine zh ?_
 refine zU (zl (zn (zq (zt ?_))))
 refine inlQ_ret (by simp only [Tryz.results82]; simp only [go_sem, seval, h6F, h17, h20F]; exact rfl) ?_
 refine zU (zl ?_)
 cases h
 exact ⟨rfl, zE⟩
 have h17F := Bool.eq_false_iff.2 h17
 refine zj (zk (zn (zs (zs (zr ?_)))))
 refine zU (zl (zn (zb ?_)))
 obtain ⟨o38, h39, h⟩ := zB h
 refine zO (fun (s : (List (Arr3_int64 × Bool)) × List (List Int) × Int) => ⟨[(2, .p (.slc (List.map encRow l15))), (3, .func (.func 83) [.loc 7 1 0 0, .loc 8 1 0 0]), (4, .loc 30 1 0 0), (5, .loc 31 1 0 0), (27, .p (.slc (List.map encRow t1.Rows))), (28, .p (.int .i64 (t1.Rows.length : Int))), (29, .p (.int .i64 s.2.2))], [(7, .arr 134 1 1 [.mapo 16 1]), (8, .arr 52 1 1 [.own 200008 2 0 s.2.1.length]), (16, .map 1 (List.map AV.p (encK encArr3_int64 s.1)) (List.map AV.p (encW PV.bool s.1))), (30, .arr 41 3 1 [.p (encTable t1)]), (31, .arr 24 2 1 [.p (encDenial d2)]), (200008, .arr 57 1 2 (List.map AV.p (List.map (encL (PV.int .i64)) s.2.1)))]⟩) (fun (o : ((List (Arr3_int64 × Bool)) × List (List Int)) ⊕ ((List (Arr3_int64 × Bool)) × List (List Int))) => match o with | .inl o40 => tE ⟨Tryz.prog, 47, 26, X, [(7, .arr 134 1 1 [.mapo 16 1]), (8, .arr 52 1 1 [.own 200008 1 0 0]), (16, .map 1 (List.map AV.p (encK encArr3_int64 m10)) (List.map AV.p (encW PV.bool m10))), (200008, .arr 57 1 1 [])], i12, w13, False, h14⟩ (.exit 0) ⟨[], [(7, .arr 134 1 1 [.mapo 16 1]), (8, .arr 52 1 1 [.own 200008 2 0 o40.2.length]), (16, .map 1 (List.map AV.p (encK encArr3_int64 o40.1)) (List.map AV.p (encW PV.bool o40.1))), (200008, .arr 57 1 2 (List.map AV.p (List.map (encL (PV.int .i64)) o40.2)))]⟩ | .inr o41 => tE ⟨Tryz.prog, 47, 26, X, [(7, .arr 134 1 1 [.mapo 16 1]), (8, .arr 52 1 1 [.own 200008 1 0 0]), (16, .map 1 (List.map AV.p (encK encArr3_int64 m10)) (List.map AV.p (encW PV.bool m10))), (200008, .arr 57 1 1 [])], i12, w13, False, h14⟩ .ret ⟨[(8, .p (.bool false))], [(7, .arr 134 1 1 [.mapo 16 1]), (8, .arr 52 1 1 [.own 200008 2 0 o41.2.length]), (16, .map 1 (List.map AV.p (encK encArr3_int64 o41.1)) (List.map AV.p (encW PV.bool o41.1))), (200008, .arr 57 1 2 (List.map AV.p (List.map (encL (PV.int .i64)) o41.2)))]⟩) h39 ?_ ?_
 clear h h5 h6 h6F h17 h17F h39
 intro s x h
 obtain ⟨f42, f43, t44⟩ := s
 simp only [denial_Violations_l160] at h
 dsimp only
 refine zs (zr ?_)
 refine zU (zl (zn (zs ?_)))
 rcases zI h with ⟨h45, h⟩ | ⟨h45, h⟩
 have h45T := eq_true h45
 refine zi (zk (zn (zs (zb (zs (zr ?_))))))
 obtain ⟨x46, h47, h47a, h47b, h⟩ := zX h
 refine zU (zl (zn (zs (zs (zr ?_)))))
 refine zU ?_
 obtain ⟨r48, h49, h⟩ := zB h
 refine zc (slices_ContainsFunc_Row_con l15 (fun (y50 : Row) => denial_visit_1 y50 x46) 125 [.imm [.int .i64 x46.ID, .slc (List.map encValue x46.Values)]] (fun y50 r h => denial_visit_1_con y50 x46 r h) _ h49) ?_
 refine zl (zn ?_)
 rcases zI h with ⟨h51, h⟩ | ⟨h51, h⟩
 refine zi (zx (ze (yh (zn (zr ?_)))))
 refine zU (zl ?_)
 cases h
 exact ⟨rfl, zE⟩
 have h51F := Bool.eq_false_iff.2 h51
 refine zj (zk (zn (zs ?_)))
 refine zdl 8 ?_
 refine yU ?_
 obtain ⟨h52, h⟩ := ite_some h
 refine yK cln126 65 encRow l15 _ rfl ⟨by unfold maxLen; omega, by omega⟩ ?_
 have h53 := @take_cut PV
 obtain ⟨h54, h⟩ := ite_some h
 refine yU ?_
 refine ydlS ?_
 refine zM ⟨[(2, .p (.slc (List.map encRow l15))), (3, .func (.func 83) [.loc 7 1 0 0, .loc 8 1 0 0]), (4, .loc 30 1 0 0), (5, .loc 31 1 0 0), (27, .p (.slc (List.map encRow t1.Rows))), (28, .p (.int .i64 (t1.Rows.length : Int))), (29, .p (.int .i64 t44)), (36, .p (encTable t1)), (37, .p (encDenial d2)), (42, .p (.slc (List.map encRow (l15 ++ [x46])))), (43, .func (.func 83) [.loc 7 1 0 0, .loc 8 1 0 0])], [(7, .arr 134 1 1 [.mapo 16 1]), (8, .arr 52 1 1 [.own 200008 2 0 f43.length]), (16, .map 1 (List.map AV.p (encK encArr3_int64 f42)) (List.map AV.p (encW PV.bool f42))), (30, .arr 41 3 1 [.p (encTable t1)]), (31, .arr 24 2 1 [.p (encDenial d2)]), (200008, .arr 57 1 2 (List.map AV.p (List.map (encL (PV.int .i64)) f43)))]⟩ ?_
 refine AL_inline (avs := [.p (encTable t1), .p (encDenial d2), .p (.slc (List.map encRow (l15 ++ [x46]))), .func (.func 83) [.loc 7 1 0 0, .loc 8 1 0 0]]) 112 rfl (guard_none rfl) rfl Tryz.func82 rfl Tryz.call82 Tryz.ntmps82 (by simp) (by simp only [go_sem, seval, h45T, h51F]; all_goals rfl) ?_
 intro i55 w56 h57
 obtain ⟨l58, h59, h⟩ := zB h
 replace h59 := Option.some.inj h59
 refine awp_le (st' := ⟨[(0, .p (encTable t1)), (1, .p (encDenial d2)), (2, .p (.slc (List.map encRow l58))), (3, .func (.func 83) [.loc 7 1 0 0, .loc 8 1 0 0])], [(7, .arr 134 1 1 [.mapo 16 1]), (8, .arr 52 1 1 [.own 200008 2 0 f43.length]), (16, .map 1 (List.map AV.p (encK encArr3_int64 f42)) (List.map AV.p (encW PV.bool f42))), (30, .arr 41 3 1 [.p (encTable t1)]), (31, .arr 24 2 1 [.p (encDenial d2)]), (200008, .arr 57 1 2 (List.map AV.p (List.map (encL (PV.int .i64)) f43)))]⟩) (by simp only [go_sem, seval, h45T, h51F, ← h59]; all_goals ((repeat' refine And.intro ?_ ?_) <;> first | rfl | (simp; done) | (simp; rfl) | (simp [*]; done) | (simp [*]; rfl))) ?_
 clear h59
 refine zs (zr ?_)
 refine zU (zl (zn (zs (zs (zr ?_)))))
 refine zU (zl (zn ?_))
 rcases zI h with ⟨h60, h⟩ | ⟨h60, h⟩
 refine zi (zs (zr ?_))
 refine zU ?_
 obtain ⟨r61, h62, h⟩ := zB h
 refine zc (denial_satisfied_con l58 d2.Atoms _ h62) ?_
 refine zU ?_
 rcases zI h with ⟨h63, h⟩ | ⟨h63, h⟩
 refine zw 21 false ?_
 refine zg ?_
 refine zg ?_
 refine zM ⟨[(21, .p (.bool false)), (22, .func (.func 83) [.loc 7 1 0 0, .loc 8 1 0 0]), (23, .p (.slc (List.map encRow l58)))], [(7, .arr 134 1 1 [.mapo 16 1]), (8, .arr 52 1 1 [.own 200008 2 0 f43.length]), (16, .map 1 (List.map AV.p (encK encArr3_int64 f42)) (List.map AV.p (encW PV.bool f42))), (30, .arr 41 3 1 [.p (encTable t1)]), (31, .arr 24 2 1 [.p (encDenial d2)]), (200008, .arr 57 1 2 (List.map AV.p (List.map (encL (PV.int .i64)) f43)))]⟩ ?_
 refine AL_inline (avs := [.p (.slc (List.map encRow l58)), .loc 7 1 0 0, .loc 8 1 0 0]) 159 rfl (guard_true' rfl rfl (by exact rfl) (by exact rfl)) rfl Tryz.func83 rfl Tryz.call83 Tryz.ntmps83 (by simp) (by simp only [go_sem, seval, h45T, h51F, h60, h63]; all_goals rfl) ?_
 intro i65 w66 h67
 show AWp _ _ _ ⟨[(0, .p (.slc (List.map encRow l58))), (1, .loc 7 1 0 0), (2, .loc 8 1 0 0)], [(7, .arr 134 1 1 [.mapo 16 1]), (8, .arr 52 1 1 [.own 200008 2 0 f43.length]), (16, .map 1 (List.map AV.p (encK encArr3_int64 f42)) (List.map AV.p (encW PV.bool f42))), (30, .arr 41 3 1 [.p (encTable t1)]), (31, .arr 24 2 1 [.p (encDenial d2)]), (200008, .arr 57 1 2 (List.map AV.p (List.map (encL (PV.int .i64)) f43)))]⟩
 refine zs (zr ?_)
 refine zU (zl (zn (zs (zr ?_))))
 refine zU (zl (zn (zs (zs (zr ?_)))))
 refine zU (zl (zn (zb ?_)))
 obtain ⟨l68, h69, h⟩ := zB h
 refine zO (fun (s : List Int × Int) => ⟨[(1, .loc 7 1 0 0), (2, .loc 8 1 0 0), (5, .own 178 1 0 s.1.length), (9, .p (.slc (List.map encRow l58))), (10, .p (.int .i64 (l58.length : Int))), (11, .p (.int .i64 s.2))], [(7, .arr 134 1 1 [.mapo 16 1]), (8, .arr 52 1 1 [.own 200008 2 0 f43.length]), (16, .map 1 (List.map AV.p (encK encArr3_int64 f42)) (List.map AV.p (encW PV.bool f42))), (30, .arr 41 3 1 [.p (encTable t1)]), (31, .arr 24 2 1 [.p (encDenial d2)]), (178, .arr 2 1 1 (List.map AV.p (List.map (PV.int .i64) s.1))), (200008, .arr 57 1 2 (List.map AV.p (List.map (encL (PV.int .i64)) f43)))]⟩) (fun (o70 : List Int) => tE ⟨Tryz.prog, 39, 159, X, [(7, .arr 134 1 1 [.mapo 16 1]), (8, .arr 52 1 1 [.own 200008 2 0 f43.length]), (16, .map 1 (List.map AV.p (encK encArr3_int64 f42)) (List.map AV.p (encW PV.bool f42))), (30, .arr 41 3 1 [.p (encTable t1)]), (31, .arr 24 2 1 [.p (encDenial d2)]), (200008, .arr 57 1 2 (List.map AV.p (List.map (encL (PV.int .i64)) f43)))], i65, w66, False, h67⟩ (.exit 0) ⟨[(1, .loc 7 1 0 0), (2, .loc 8 1 0 0), (5, .own 178 1 0 o70.length)], [(7, .arr 134 1 1 [.mapo 16 1]), (8, .arr 52 1 1 [.own 200008 2 0 f43.length]), (16, .map 1 (List.map AV.p (encK encArr3_int64 f42)) (List.map AV.p (encW PV.bool f42))), (30, .arr 41 3 1 [.p (encTable t1)]), (31, .arr 24 2 1 [.p (encDenial d2)]), (178, .arr 2 1 1 (List.map AV.p (List.map (PV.int .i64) o70))), (200008, .arr 57 1 2 (List.map AV.p (List.map (encL (PV.int .i64)) f43)))]⟩) h69 ?_ ?_
 clear h h45 h45T h47 h47a h47b h49 h51 h51F h52 h53 h54 h60 h62 h63 h69
 intro s x h
 obtain ⟨l71, t72⟩ := s
 simp only [denial_Violations_l134] at h
 dsimp only
 refine zs (zr ?_)
 refine zU (zl (zn (zs ?_)))
 rcases zI h with ⟨h73, h⟩ | ⟨h73, h⟩
 refine zi (zk (zn (zs (zb (zs (zr ?_))))))
 obtain ⟨x74, h75, h75a, h75b, h⟩ := zX h
 refine zU (zl (zn (zr ?_)))
 obtain ⟨h76, h⟩ := ite_some h
 refine zU (zl (yn (zn (zr ?_))))
 refine zU (zl ?_)
 cases h
 exact ⟨rfl, zE⟩
 refine zj (zx (ze ?_))
 cases h
 exact ⟨rfl, zE⟩
 try simp only at h
 refine zA (yh (zn (zs (zr ?_))))
 refine zU ?_
 refine zM ⟨[(1, .loc 7 1 0 0), (2, .loc 8 1 0 0), (5, .own 178 1 0 l68.length), (21, .own 178 1 0 l68.length)], [(7, .arr 134 1 1 [.mapo 16 1]), (8, .arr 52 1 1 [.own 200008 2 0 f43.length]), (16, .map 1 (List.map AV.p (encK encArr3_int64 f42)) (List.map AV.p (encW PV.bool f42))), (30, .arr 41 3 1 [.p (encTable t1)]), (31, .arr 24 2 1 [.p (encDenial d2)]), (178, .arr 2 1 1 (List.map AV.p (List.map (PV.int .i64) l68))), (200008, .arr 57 1 2 (List.map AV.p (List.map (encL (PV.int .i64)) f43)))]⟩ ?_
 obtain ⟨l77, h78, h⟩ := zB h
 refine zSI srt84 h78 ?_
 have h79 := srtIF_len h78
 refine zM ⟨[(1, .loc 7 1 0 0), (2, .loc 8 1 0 0), (5, .own 178 1 0 l77.length), (22, .p (.tup []))], [(7, .arr 134 1 1 [.mapo 16 1]), (8, .arr 52 1 1 [.own 200008 2 0 f43.length]), (16, .map 1 (List.map AV.p (encK encArr3_int64 f42)) (List.map AV.p (encW PV.bool f42))), (30, .arr 41 3 1 [.p (encTable t1)]), (31, .arr 24 2 1 [.p (encDenial d2)]), (178, .arr 2 1 1 (List.map AV.p (List.map (PV.int .i64) l77))), (200008, .arr 57 1 2 (List.map AV.p (List.map (encL (PV.int .i64)) f43)))]⟩ ?_
 clear h79
 refine zl (zn (zs (zr ?_)))
 refine zU (zl (zn (zs (zr ?_))))
 refine zM ⟨[(1, .loc 7 1 0 0), (2, .loc 8 1 0 0), (5, .p (.slc (List.map (PV.int .i64) l77))), (8, .loc 167 1 0 0)], [(7, .arr 134 1 1 [.mapo 16 1]), (8, .arr 52 1 1 [.own 200008 2 0 f43.length]), (16, .map 1 (List.map AV.p (encK encArr3_int64 f42)) (List.map AV.p (encW PV.bool f42))), (30, .arr 41 3 1 [.p (encTable t1)]), (31, .arr 24 2 1 [.p (encDenial d2)]), (167, .arr 137 3 1 [.p (.agg [.int .i64 0, .int .i64 0, .int .i64 0])]), (200008, .arr 57 1 2 (List.map AV.p (List.map (encL (PV.int .i64)) f43)))]⟩ ?_
 refine zCpa 167 0 0 0 l77 Tryz.underlying137 Tryz.underlying57 ?_
 refine zl (zn (zs (zs (zr ?_))))
 refine zU (zl (zn ?_))
 rcases zI h with ⟨h80, h⟩ | ⟨h80, h⟩
 refine zj (zk (zn (zs (zr ?_))))
 refine zU (zl (zn (zq ?_)))
 refine inlQ_ret (by simp only [Tryz.results83]; simp only [go_sem, seval, h45T, h51F, h60, h63, h80]; exact rfl) ?_
 refine zU (zl (zn (zq (zt ?_))))
 refine inlQ_ret (by simp only [Tryz.results82]; simp only [go_sem, seval, h45T, h51F, h60, h63, h80]; exact rfl) ?_
 refine zU (zl (zn ?_))
 rcases zI h with ⟨h81, h⟩ | ⟨h81, h⟩
 refine zj (zk (yn (zn (zr ?_))))
 refine zU (zl ?_)
 cases h
 exact ⟨rfl, zE⟩
 refine zi (zs (zr ?_))
 refine zU (zl (zn (zq (yr (zt ?_)))))
 cases h
 exact ⟨rfl, zE⟩
 have h80F := Bool.eq_false_iff.2 h80
 refine zi (zs (zr ?_))
 refine zU (zl (zn (zr ?_)))
 obtain ⟨h82, h⟩ := ite_some h
 refine zU (zl (zn (zs (zr ?_))))
 refine zU (zl (zn (zq ?_)))
 refine inlQ_ret (by simp only [Tryz.results83]; simp only [go_sem, seval, h45T, h51F, h60, h63, h80F]; exact rfl) ?_
 refine zU (zl (zn (zq (zt ?_))))
 refine inlQ_ret (by simp only [Tryz.results82]; simp only [go_sem, seval, h45T, h51F, h60, h63, h80F]; exact rfl) ?_
 refine zU (zl (zn ?_))
 rcases zI h with ⟨h83, h⟩ | ⟨h83, h⟩
 refine zj (zk (yn (zn (zr ?_))))
 refine zU (zl ?_)
 cases h
 exact ⟨rfl, zE⟩
 refine zi (zs (zr ?_))
 refine zU (zl (zn (zq (yr (zt ?_)))))
 cases h
 exact ⟨rfl, zE⟩
 have h63F := Bool.eq_false_iff.2 h63
 refine zw 21 true ?_
 refine zh ?_
 refine zU (zl (zn (zq (zt ?_))))
 refine inlQ_ret (by simp only [Tryz.results82]; simp only [go_sem, seval, h45T, h51F, h60, h63F]; exact rfl) ?_
 refine zU (zl (zn ?_))
 refine zj (zk (yn (zn (zr ?_))))
 refine zU (zl ?_)
 cases h
 exact ⟨rfl, zE⟩
 have h60F := Bool.eq_false_iff.2 h60
 refine zj (zk (zn (zs (zs (zr ?_)))))
 refine zU (zl (zn (zb ?_)))
 obtain ⟨o84, h85, h⟩ := zB h
 refine zO (fun (s : (List (Arr3_int64 × Bool)) × List (List Int) × Int) => ⟨[(2, .p (.slc (List.map encRow l58))), (3, .func (.func 83) [.loc 7 1 0 0, .loc 8 1 0 0]), (4, .loc 116 1 0 0), (5, .loc 117 1 0 0), (27, .p (.slc (List.map encRow t1.Rows))), (28, .p (.int .i64 (t1.Rows.length : Int))), (29, .p (.int .i64 s.2.2))], [(7, .arr 134 1 1 [.mapo 16 1]), (8, .arr 52 1 1 [.own 200008 3 0 s.2.1.length]), (16, .map 1 (List.map AV.p (encK encArr3_int64 s.1)) (List.map AV.p (encW PV.bool s.1))), (30, .arr 41 3 1 [.p (encTable t1)]), (31, .arr 24 2 1 [.p (encDenial d2)]), (116, .arr 41 3 1 [.p (encTable t1)]), (117, .arr 24 2 1 [.p (encDenial d2)]), (200008, .arr 57 1 3 (List.map AV.p (List.map (encL (PV.int .i64)) s.2.1)))]⟩) (fun (o : ((List (Arr3_int64 × Bool)) × List (List Int)) ⊕ ((List (Arr3_int64 × Bool)) × List (List Int))) => match o with | .inl o86 => tE ⟨Tryz.prog, 47, 112, X, [(7, .arr 134 1 1 [.mapo 16 1]), (8, .arr 52 1 1 [.own 200008 2 0 f43.length]), (16, .map 1 (List.map AV.p (encK encArr3_int64 f42)) (List.map AV.p (encW PV.bool f42))), (30, .arr 41 3 1 [.p (encTable t1)]), (31, .arr 24 2 1 [.p (encDenial d2)]), (200008, .arr 57 1 2 (List.map AV.p (List.map (encL (PV.int .i64)) f43)))], i55, w56, False, h57⟩ (.exit 0) ⟨[], [(7, .arr 134 1 1 [.mapo 16 1]), (8, .arr 52 1 1 [.own 200008 3 0 o86.2.length]), (16, .map 1 (List.map AV.p (encK encArr3_int64 o86.1)) (List.map AV.p (encW PV.bool o86.1))), (30, .arr 41 3 1 [.p (encTable t1)]), (31, .arr 24 2 1 [.p (encDenial d2)]), (200008, .arr 57 1 3 (List.map AV.p (List.map (encL (PV.int .i64)) o86.2)))]⟩ | .inr o87 => tE ⟨Tryz.prog, 47, 112, X, [(7, .arr 134 1 1 [.mapo 16 1]), (8, .arr 52 1 1 [.own 200008 2 0 f43.length]), (16, .map 1 (List.map AV.p (encK encArr3_int64 f42)) (List.map AV.p (encW PV.bool f42))), (30, .arr 41 3 1 [.p (encTable t1)]), (31, .arr 24 2 1 [.p (encDenial d2)]), (200008, .arr 57 1 2 (List.map AV.p (List.map (encL (PV.int .i64)) f43)))], i55, w56, False, h57⟩ .ret ⟨[(8, .p (.bool false))], [(7, .arr 134 1 1 [.mapo 16 1]), (8, .arr 52 1 1 [.own 200008 3 0 o87.2.length]), (16, .map 1 (List.map AV.p (encK encArr3_int64 o87.1)) (List.map AV.p (encW PV.bool o87.1))), (30, .arr 41 3 1 [.p (encTable t1)]), (31, .arr 24 2 1 [.p (encDenial d2)]), (200008, .arr 57 1 3 (List.map AV.p (List.map (encL (PV.int .i64)) o87.2)))]⟩) h85 ?_ ?_
 clear h h45 h45T h47 h47a h47b h49 h51 h51F h52 h53 h54 h60 h60F h85
 intro s x h
 obtain ⟨f88, f89, t90⟩ := s
 simp only [denial_Violations_l159] at h
 dsimp only
 refine zs (zr ?_)
 refine zU (zl (zn (zs ?_)))
 rcases zI h with ⟨h91, h⟩ | ⟨h91, h⟩
 have h91T := eq_true h91
 refine zi (zk (zn (zs (zb (zs (zr ?_))))))
 obtain ⟨x92, h93, h93a, h93b, h⟩ := zX h
 refine zU (zl (zn (zs (zs (zr ?_)))))
 refine zU ?_
 obtain ⟨r94, h95, h⟩ := zB h
 refine zc (slices_ContainsFunc_Row_con l58 (fun (y96 : Row) => denial_visit_1 y96 x92) 125 [.imm [.int .i64 x92.ID, .slc (List.map encValue x92.Values)]] (fun y96 r h => denial_visit_1_con y96 x92 r h) _ h95) ?_
 refine zl (zn ?_)
 rcases zI h with ⟨h97, h⟩ | ⟨h97, h⟩
 refine zi (zx (ze (yh (zn (zr ?_)))))
 refine zU (zl ?_)
 cases h
 exact ⟨rfl, zE⟩
 have h97F := Bool.eq_false_iff.2 h97
 refine zj (zk (zn (zs ?_)))
 refine zdl 8 ?_
 refine yU ?_
 obtain ⟨h98, h⟩ := ite_some h
 refine yK cln126 151 encRow l58 _ rfl ⟨by unfold maxLen; omega, by omega⟩ ?_
 have h99 := @take_cut PV
 obtain ⟨h100, h⟩ := ite_some h
 refine yU ?_
 refine ydlS ?_
 refine zM ⟨[(2, .p (.slc (List.map encRow l58))), (3, .func (.func 83) [.loc 7 1 0 0, .loc 8 1 0 0]), (4, .loc 116 1 0 0), (5, .loc 117 1 0 0), (27, .p (.slc (List.map encRow t1.Rows))), (28, .p (.int .i64 (t1.Rows.length : Int))), (29, .p (.int .i64 t90)), (36, .p (encTable t1)), (37, .p (encDenial d2)), (42, .p (.slc (List.map encRow (l58 ++ [x92])))), (43, .func (.func 83) [.loc 7 1 0 0, .loc 8 1 0 0])], [(7, .arr 134 1 1 [.mapo 16 1]), (8, .arr 52 1 1 [.own 200008 3 0 f89.length]), (16, .map 1 (List.map AV.p (encK encArr3_int64 f88)) (List.map AV.p (encW PV.bool f88))), (30, .arr 41 3 1 [.p (encTable t1)]), (31, .arr 24 2 1 [.p (encDenial d2)]), (116, .arr 41 3 1 [.p (encTable t1)]), (117, .arr 24 2 1 [.p (encDenial d2)]), (200008, .arr 57 1 3 (List.map AV.p (List.map (encL (PV.int .i64)) f89)))]⟩ ?_
 refine AL_inline (avs := [.p (encTable t1), .p (encDenial d2), .p (.slc (List.map encRow (l58 ++ [x92]))), .func (.func 83) [.loc 7 1 0 0, .loc 8 1 0 0]]) 198 rfl (guard_none rfl) rfl Tryz.func82 rfl Tryz.call82 Tryz.ntmps82 (by simp) (by simp only [go_sem, seval, h91T, h97F]; all_goals rfl) ?_
 intro i101 w102 h103
 obtain ⟨l104, h105, h⟩ := zB h
 replace h105 := Option.some.inj h105
 refine awp_le (st' := ⟨[(0, .p (encTable t1)), (1, .p (encDenial d2)), (2, .p (.slc (List.map encRow l104))), (3, .func (.func 83) [.loc 7 1 0 0, .loc 8 1 0 0])], [(7, .arr 134 1 1 [.mapo 16 1]), (8, .arr 52 1 1 [.own 200008 3 0 f89.length]), (16, .map 1 (List.map AV.p (encK encArr3_int64 f88)) (List.map AV.p (encW PV.bool f88))), (30, .arr 41 3 1 [.p (encTable t1)]), (31, .arr 24 2 1 [.p (encDenial d2)]), (116, .arr 41 3 1 [.p (encTable t1)]), (117, .arr 24 2 1 [.p (encDenial d2)]), (200008, .arr 57 1 3 (List.map AV.p (List.map (encL (PV.int .i64)) f89)))]⟩) (by simp only [go_sem, seval, h91T, h97F, ← h105]; all_goals ((repeat' refine And.intro ?_ ?_) <;> first | rfl | (simp; done) | (simp; rfl) | (simp [*]; done) | (simp [*]; rfl))) ?_
 clear h105
 refine zs (zr ?_)
 refine zU (zl (zn (zs (zs (zr ?_)))))
 refine zU (zl (zn ?_))
 rcases zI h with ⟨h106, h⟩ | ⟨h106, h⟩
 refine zi (zs (zr ?_))
 refine zU ?_
 obtain ⟨r107, h108, h⟩ := zB h
 refine zc (denial_satisfied_con l104 d2.Atoms _ h108) ?_
 refine zU ?_
 rcases zI h with ⟨h109, h⟩ | ⟨h109, h⟩
 refine zw 21 false ?_
 refine zg ?_
 refine zg ?_
 refine zM ⟨[(21, .p (.bool false)), (22, .func (.func 83) [.loc 7 1 0 0, .loc 8 1 0 0]), (23, .p (.slc (List.map encRow l104)))], [(7, .arr 134 1 1 [.mapo 16 1]), (8, .arr 52 1 1 [.own 200008 3 0 f89.length]), (16, .map 1 (List.map AV.p (encK encArr3_int64 f88)) (List.map AV.p (encW PV.bool f88))), (30, .arr 41 3 1 [.p (encTable t1)]), (31, .arr 24 2 1 [.p (encDenial d2)]), (116, .arr 41 3 1 [.p (encTable t1)]), (117, .arr 24 2 1 [.p (encDenial d2)]), (200008, .arr 57 1 3 (List.map AV.p (List.map (encL (PV.int .i64)) f89)))]⟩ ?_
 refine AL_inline (avs := [.p (.slc (List.map encRow l104)), .loc 7 1 0 0, .loc 8 1 0 0]) 245 rfl (guard_true' rfl rfl (by exact rfl) (by exact rfl)) rfl Tryz.func83 rfl Tryz.call83 Tryz.ntmps83 (by simp) (by simp only [go_sem, seval, h91T, h97F, h106, h109]; all_goals rfl) ?_
 intro i110 w111 h112
 show AWp _ _ _ ⟨[(0, .p (.slc (List.map encRow l104))), (1, .loc 7 1 0 0), (2, .loc 8 1 0 0)], [(7, .arr 134 1 1 [.mapo 16 1]), (8, .arr 52 1 1 [.own 200008 3 0 f89.length]), (16, .map 1 (List.map AV.p (encK encArr3_int64 f88)) (List.map AV.p (encW PV.bool f88))), (30, .arr 41 3 1 [.p (encTable t1)]), (31, .arr 24 2 1 [.p (encDenial d2)]), (116, .arr 41 3 1 [.p (encTable t1)]), (117, .arr 24 2 1 [.p (encDenial d2)]), (200008, .arr 57 1 3 (List.map AV.p (List.map (encL (PV.int .i64)) f89)))]⟩
 refine zs (zr ?_)
 refine zU (zl (zn (zs (zr ?_))))
 refine zU (zl (zn (zs (zs (zr ?_)))))
 refine zU (zl (zn (zb ?_)))
 obtain ⟨l113, h114, h⟩ := zB h
 refine zO (fun (s : List Int × Int) => ⟨[(1, .loc 7 1 0 0), (2, .loc 8 1 0 0), (5, .own 264 1 0 s.1.length), (9, .p (.slc (List.map encRow l104))), (10, .p (.int .i64 (l104.length : Int))), (11, .p (.int .i64 s.2))], [(7, .arr 134 1 1 [.mapo 16 1]), (8, .arr 52 1 1 [.own 200008 3 0 f89.length]), (16, .map 1 (List.map AV.p (encK encArr3_int64 f88)) (List.map AV.p (encW PV.bool f88))), (30, .arr 41 3 1 [.p (encTable t1)]), (31, .arr 24 2 1 [.p (encDenial d2)]), (116, .arr 41 3 1 [.p (encTable t1)]), (117, .arr 24 2 1 [.p (encDenial d2)]), (264, .arr 2 1 1 (List.map AV.p (List.map (PV.int .i64) s.1))), (200008, .arr 57 1 3 (List.map AV.p (List.map (encL (PV.int .i64)) f89)))]⟩) (fun (o115 : List Int) => tE ⟨Tryz.prog, 39, 245, X, [(7, .arr 134 1 1 [.mapo 16 1]), (8, .arr 52 1 1 [.own 200008 3 0 f89.length]), (16, .map 1 (List.map AV.p (encK encArr3_int64 f88)) (List.map AV.p (encW PV.bool f88))), (30, .arr 41 3 1 [.p (encTable t1)]), (31, .arr 24 2 1 [.p (encDenial d2)]), (116, .arr 41 3 1 [.p (encTable t1)]), (117, .arr 24 2 1 [.p (encDenial d2)]), (200008, .arr 57 1 3 (List.map AV.p (List.map (encL (PV.int .i64)) f89)))], i110, w111, False, h112⟩ (.exit 0) ⟨[(1, .loc 7 1 0 0), (2, .loc 8 1 0 0), (5, .own 264 1 0 o115.length)], [(7, .arr 134 1 1 [.mapo 16 1]), (8, .arr 52 1 1 [.own 200008 3 0 f89.length]), (16, .map 1 (List.map AV.p (encK encArr3_int64 f88)) (List.map AV.p (encW PV.bool f88))), (30, .arr 41 3 1 [.p (encTable t1)]), (31, .arr 24 2 1 [.p (encDenial d2)]), (116, .arr 41 3 1 [.p (encTable t1)]), (117, .arr 24 2 1 [.p (encDenial d2)]), (264, .arr 2 1 1 (List.map AV.p (List.map (PV.int .i64) o115))), (200008, .arr 57 1 3 (List.map AV.p (List.map (encL (PV.int .i64)) f89)))]⟩) h114 ?_ ?_
 clear h h91 h91T h93 h93a h93b h95 h97 h97F h98 h99 h100 h106 h108 h109 h114
 intro s x h
 obtain ⟨l116, t117⟩ := s
 simp only [denial_Violations_l151] at h
 dsimp only
 refine zs (zr ?_)
 refine zU (zl (zn (zs ?_)))
 rcases zI h with ⟨h118, h⟩ | ⟨h118, h⟩
 refine zi (zk (zn (zs (zb (zs (zr ?_))))))
 obtain ⟨x119, h120, h120a, h120b, h⟩ := zX h
 refine zU (zl (zn (zr ?_)))
 obtain ⟨h121, h⟩ := ite_some h
 refine zU (zl (yn (zn (zr ?_))))
 refine zU (zl ?_)
 cases h
 exact ⟨rfl, zE⟩
 refine zj (zx (ze ?_))
 cases h
 exact ⟨rfl, zE⟩
 try simp only at h
 refine zA (yh (zn (zs (zr ?_))))
 refine zU ?_
 refine zM ⟨[(1, .loc 7 1 0 0), (2, .loc 8 1 0 0), (5, .own 264 1 0 l113.length), (21, .own 264 1 0 l113.length)], [(7, .arr 134 1 1 [.mapo 16 1]), (8, .arr 52 1 1 [.own 200008 3 0 f89.length]), (16, .map 1 (List.map AV.p (encK encArr3_int64 f88)) (List.map AV.p (encW PV.bool f88))), (30, .arr 41 3 1 [.p (encTable t1)]), (31, .arr 24 2 1 [.p (encDenial d2)]), (116, .arr 41 3 1 [.p (encTable t1)]), (117, .arr 24 2 1 [.p (encDenial d2)]), (264, .arr 2 1 1 (List.map AV.p (List.map (PV.int .i64) l113))), (200008, .arr 57 1 3 (List.map AV.p (List.map (encL (PV.int .i64)) f89)))]⟩ ?_
 obtain ⟨l122, h123, h⟩ := zB h
 refine zSI srt84 h123 ?_
 have h124 := srtIF_len h123
 refine zM ⟨[(1, .loc 7 1 0 0), (2, .loc 8 1 0 0), (5, .own 264 1 0 l122.length), (22, .p (.tup []))], [(7, .arr 134 1 1 [.mapo 16 1]), (8, .arr 52 1 1 [.own 200008 3 0 f89.length]), (16, .map 1 (List.map AV.p (encK encArr3_int64 f88)) (List.map AV.p (encW PV.bool f88))), (30, .arr 41 3 1 [.p (encTable t1)]), (31, .arr 24 2 1 [.p (encDenial d2)]), (116, .arr 41 3 1 [.p (encTable t1)]), (117, .arr 24 2 1 [.p (encDenial d2)]), (264, .arr 2 1 1 (List.map AV.p (List.map (PV.int .i64) l122))), (200008, .arr 57 1 3 (List.map AV.p (List.map (encL (PV.int .i64)) f89)))]⟩ ?_
 clear h124
 refine zl (zn (zs (zr ?_)))
 refine zU (zl (zn (zs (zr ?_))))
 refine zM ⟨[(1, .loc 7 1 0 0), (2, .loc 8 1 0 0), (5, .p (.slc (List.map (PV.int .i64) l122))), (8, .loc 253 1 0 0)], [(7, .arr 134 1 1 [.mapo 16 1]), (8, .arr 52 1 1 [.own 200008 3 0 f89.length]), (16, .map 1 (List.map AV.p (encK encArr3_int64 f88)) (List.map AV.p (encW PV.bool f88))), (30, .arr 41 3 1 [.p (encTable t1)]), (31, .arr 24 2 1 [.p (encDenial d2)]), (116, .arr 41 3 1 [.p (encTable t1)]), (117, .arr 24 2 1 [.p (encDenial d2)]), (253, .arr 137 3 1 [.p (.agg [.int .i64 0, .int .i64 0, .int .i64 0])]), (200008, .arr 57 1 3 (List.map AV.p (List.map (encL (PV.int .i64)) f89)))]⟩ ?_
 refine zCpa 253 0 0 0 l122 Tryz.underlying137 Tryz.underlying57 ?_
 refine zl (zn (zs (zs (zr ?_))))
 refine zU (zl (zn ?_))
 rcases zI h with ⟨h125, h⟩ | ⟨h125, h⟩
 refine zj (zk (zn (zs (zr ?_))))
 refine zU (zl (zn (zq ?_)))
 refine inlQ_ret (by simp only [Tryz.results83]; simp only [go_sem, seval, h91T, h97F, h106, h109, h125]; exact rfl) ?_
 refine zU (zl (zn (zq (zt ?_))))
 refine inlQ_ret (by simp only [Tryz.results82]; simp only [go_sem, seval, h91T, h97F, h106, h109, h125]; exact rfl) ?_
 refine zU (zl (zn ?_))
 rcases zI h with ⟨h126, h⟩ | ⟨h126, h⟩
 refine zj (zk (yn (zn (zr ?_))))
 refine zU (zl ?_)
 cases h
 exact ⟨rfl, zE⟩
 refine zi (zs (zr ?_))
 refine zU (zl (zn (zq (yr (zt ?_)))))
 cases h
 exact ⟨rfl, zE⟩
 have h125F := Bool.eq_false_iff.2 h125
 refine zi (zs (zr ?_))
 refine zU (zl (zn (zr ?_)))
 obtain ⟨h127, h⟩ := ite_some h
 refine zU (zl (zn (zs (zr ?_))))
 refine zU (zl (zn (zq ?_)))
 refine inlQ_ret (by simp only [Tryz.results83]; simp only [go_sem, seval, h91T, h97F, h106, h109, h125F]; exact rfl) ?_
 refine zU (zl (zn (zq (zt ?_))))
 refine inlQ_ret (by simp only [Tryz.results82]; simp only [go_sem, seval, h91T, h97F, h106, h109, h125F]; exact rfl) ?_
 refine zU (zl (zn ?_))
 rcases zI h with ⟨h128, h⟩ | ⟨h128, h⟩
 refine zj (zk (yn (zn (zr ?_))))
 refine zU (zl ?_)
 cases h
 exact ⟨rfl, zE⟩
 refine zi (zs (zr ?_))
 refine zU (zl (zn (zq (yr (zt ?_)))))
 cases h
 exact ⟨rfl, zE⟩
 have h109F := Bool.eq_false_iff.2 h109
 refine zw 21 true ?_
 refine zh ?_
 refine zU (zl (zn (zq (zt ?_))))
 refine inlQ_ret (by simp only [Tryz.results82]; simp only [go_sem, seval, h91T, h97F, h106, h109F]; exact rfl) ?_
 refine zU (zl (zn ?_))
 refine zj (zk (yn (zn (zr ?_))))
 refine zU (zl ?_)
 cases h
 exact ⟨rfl, zE⟩
 have h106F := Bool.eq_false_iff.2 h106
 refine zj (zk (zn (zs (zs (zr ?_)))))
 refine zU (zl (zn (zb ?_)))
 obtain ⟨o129, h130, h⟩ := zB h
 refine zO (fun (s : (List (Arr3_int64 × Bool)) × List (List Int) × Int) => ⟨[(2, .p (.slc (List.map encRow l104))), (3, .func (.func 83) [.loc 7 1 0 0, .loc 8 1 0 0]), (4, .loc 202 1 0 0), (5, .loc 203 1 0 0), (27, .p (.slc (List.map encRow t1.Rows))), (28, .p (.int .i64 (t1.Rows.length : Int))), (29, .p (.int .i64 s.2.2))], [(7, .arr 134 1 1 [.mapo 16 1]), (8, .arr 52 1 1 [.own 200008 4 0 s.2.1.length]), (16, .map 1 (List.map AV.p (encK encArr3_int64 s.1)) (List.map AV.p (encW PV.bool s.1))), (30, .arr 41 3 1 [.p (encTable t1)]), (31, .arr 24 2 1 [.p (encDenial d2)]), (116, .arr 41 3 1 [.p (encTable t1)]), (117, .arr 24 2 1 [.p (encDenial d2)]), (202, .arr 41 3 1 [.p (encTable t1)]), (203, .arr 24 2 1 [.p (encDenial d2)]), (200008, .arr 57 1 4 (List.map AV.p (List.map (encL (PV.int .i64)) s.2.1)))]⟩) (fun (o : ((List (Arr3_int64 × Bool)) × List (List Int)) ⊕ ((List (Arr3_int64 × Bool)) × List (List Int))) => match o with | .inl o131 => tE ⟨Tryz.prog, 47, 198, X, [(7, .arr 134 1 1 [.mapo 16 1]), (8, .arr 52 1 1 [.own 200008 3 0 f89.length]), (16, .map 1 (List.map AV.p (encK encArr3_int64 f88)) (List.map AV.p (encW PV.bool f88))), (30, .arr 41 3 1 [.p (encTable t1)]), (31, .arr 24 2 1 [.p (encDenial d2)]), (116, .arr 41 3 1 [.p (encTable t1)]), (117, .arr 24 2 1 [.p (encDenial d2)]), (200008, .arr 57 1 3 (List.map AV.p (List.map (encL (PV.int .i64)) f89)))], i101, w102, False, h103⟩ (.exit 0) ⟨[], [(7, .arr 134 1 1 [.mapo 16 1]), (8, .arr 52 1 1 [.own 200008 4 0 o131.2.length]), (16, .map 1 (List.map AV.p (encK encArr3_int64 o131.1)) (List.map AV.p (encW PV.bool o131.1))), (30, .arr 41 3 1 [.p (encTable t1)]), (31, .arr 24 2 1 [.p (encDenial d2)]), (116, .arr 41 3 1 [.p (encTable t1)]), (117, .arr 24 2 1 [.p (encDenial d2)]), (200008, .arr 57 1 4 (List.map AV.p (List.map (encL (PV.int .i64)) o131.2)))]⟩ | .inr o132 => tE ⟨Tryz.prog, 47, 198, X, [(7, .arr 134 1 1 [.mapo 16 1]), (8, .arr 52 1 1 [.own 200008 3 0 f89.length]), (16, .map 1 (List.map AV.p (encK encArr3_int64 f88)) (List.map AV.p (encW PV.bool f88))), (30, .arr 41 3 1 [.p (encTable t1)]), (31, .arr 24 2 1 [.p (encDenial d2)]), (116, .arr 41 3 1 [.p (encTable t1)]), (117, .arr 24 2 1 [.p (encDenial d2)]), (200008, .arr 57 1 3 (List.map AV.p (List.map (encL (PV.int .i64)) f89)))], i101, w102, False, h103⟩ .ret ⟨[(8, .p (.bool false))], [(7, .arr 134 1 1 [.mapo 16 1]), (8, .arr 52 1 1 [.own 200008 4 0 o132.2.length]), (16, .map 1 (List.map AV.p (encK encArr3_int64 o132.1)) (List.map AV.p (encW PV.bool o132.1))), (30, .arr 41 3 1 [.p (encTable t1)]), (31, .arr 24 2 1 [.p (encDenial d2)]), (116, .arr 41 3 1 [.p (encTable t1)]), (117, .arr 24 2 1 [.p (encDenial d2)]), (200008, .arr 57 1 4 (List.map AV.p (List.map (encL (PV.int .i64)) o132.2)))]⟩) h130 ?_ ?_
 clear h h91 h91T h93 h93a h93b h95 h97 h97F h98 h99 h100 h106 h106F h130
 intro s x h
 obtain ⟨f133, f134, t135⟩ := s
 simp only [denial_Violations_l158] at h
 dsimp only
 refine zs (zr ?_)
 refine zU (zl (zn (zs ?_)))
 rcases zI h with ⟨h136, h⟩ | ⟨h136, h⟩
 have h136T := eq_true h136
 refine zi (zk (zn (zs (zb (zs (zr ?_))))))
 obtain ⟨x137, h138, h138a, h138b, h⟩ := zX h
 refine zU (zl (zn (zs (zs (zr ?_)))))
 refine zU ?_
 obtain ⟨r139, h140, h⟩ := zB h
 refine zc (slices_ContainsFunc_Row_con l104 (fun (y141 : Row) => denial_visit_1 y141 x137) 125 [.imm [.int .i64 x137.ID, .slc (List.map encValue x137.Values)]] (fun y141 r h => denial_visit_1_con y141 x137 r h) _ h140) ?_
 refine zl (zn ?_)
 rcases zI h with ⟨h142, h⟩ | ⟨h142, h⟩
 refine zi (zx (ze (yh (zn (zr ?_)))))
 refine zU (zl ?_)
 cases h
 exact ⟨rfl, zE⟩
 have h142F := Bool.eq_false_iff.2 h142
 refine zj (zk (zn (zs ?_)))
 refine zdl 8 ?_
 refine yU ?_
 obtain ⟨h143, h⟩ := ite_some h
 refine yK cln126 237 encRow l104 _ rfl ⟨by unfold maxLen; omega, by omega⟩ ?_
 have h144 := @take_cut PV
 obtain ⟨h145, h⟩ := ite_some h
 refine yU ?_
 refine ydlS ?_
 refine zM ⟨[(2, .p (.slc (List.map encRow l104))), (3, .func (.func 83) [.loc 7 1 0 0, .loc 8 1 0 0]), (4, .loc 202 1 0 0), (5, .loc 203 1 0 0), (27, .p (.slc (List.map encRow t1.Rows))), (28, .p (.int .i64 (t1.Rows.length : Int))), (29, .p (.int .i64 t135)), (36, .p (encTable t1)), (37, .p (encDenial d2)), (42, .p (.slc (List.map encRow (l104 ++ [x137])))), (43, .func (.func 83) [.loc 7 1 0 0, .loc 8 1 0 0])], [(7, .arr 134 1 1 [.mapo 16 1]), (8, .arr 52 1 1 [.own 200008 4 0 f134.length]), (16, .map 1 (List.map AV.p (encK encArr3_int64 f133)) (List.map AV.p (encW PV.bool f133))), (30, .arr 41 3 1 [.p (encTable t1)]), (31, .arr 24 2 1 [.p (encDenial d2)]), (116, .arr 41 3 1 [.p (encTable t1)]), (117, .arr 24 2 1 [.p (encDenial d2)]), (202, .arr 41 3 1 [.p (encTable t1)]), (203, .arr 24 2 1 [.p (encDenial d2)]), (200008, .arr 57 1 4 (List.map AV.p (List.map (encL (PV.int .i64)) f134)))]⟩ ?_
 refine AL_inline (avs := [.p (encTable t1), .p (encDenial d2), .p (.slc (List.map encRow (l104 ++ [x137]))), .func (.func 83) [.loc 7 1 0 0, .loc 8 1 0 0]]) 284 rfl (guard_none rfl) rfl Tryz.func82 rfl Tryz.call82 Tryz.ntmps82 (by simp) (by simp only [go_sem, seval, h136T, h142F]; all_goals rfl) ?_
 intro i146 w147 h148
 obtain ⟨l149, h150, h⟩ := zB h
 replace h150 := Option.some.inj h150
 refine awp_le (st' := ⟨[(0, .p (encTable t1)), (1, .p (encDenial d2)), (2, .p (.slc (List.map encRow l149))), (3, .func (.func 83) [.loc 7 1 0 0, .loc 8 1 0 0])], [(7, .arr 134 1 1 [.mapo 16 1]), (8, .arr 52 1 1 [.own 200008 4 0 f134.length]), (16, .map 1 (List.map AV.p (encK encArr3_int64 f133)) (List.map AV.p (encW PV.bool f133))), (30, .arr 41 3 1 [.p (encTable t1)]), (31, .arr 24 2 1 [.p (encDenial d2)]), (116, .arr 41 3 1 [.p (encTable t1)]), (117, .arr 24 2 1 [.p (encDenial d2)]), (202, .arr 41 3 1 [.p (encTable t1)]), (203, .arr 24 2 1 [.p (encDenial d2)]), (200008, .arr 57 1 4 (List.map AV.p (List.map (encL (PV.int .i64)) f134)))]⟩) (by simp only [go_sem, seval, h136T, h142F, ← h150]; all_goals ((repeat' refine And.intro ?_ ?_) <;> first | rfl | (simp; done) | (simp; rfl) | (simp [*]; done) | (simp [*]; rfl))) ?_
 clear h150
 refine zs (zr ?_)
 refine zU (zl (zn (zs (zs (zr ?_)))))
 refine zU (zl (zn ?_))
 rcases zI h with ⟨h151, h⟩ | ⟨h151, h⟩
 refine zi (zs (zr ?_))
 refine zU ?_
 obtain ⟨r152, h153, h⟩ := zB h
 refine zc (denial_satisfied_con l149 d2.Atoms _ h153) ?_
 refine zU ?_
 rcases zI h with ⟨h154, h⟩ | ⟨h154, h⟩
 refine zw 21 false ?_
 refine zg ?_
 refine zg ?_
 refine zM ⟨[(21, .p (.bool false)), (22, .func (.func 83) [.loc 7 1 0 0, .loc 8 1 0 0]), (23, .p (.slc (List.map encRow l149)))], [(7, .arr 134 1 1 [.mapo 16 1]), (8, .arr 52 1 1 [.own 200008 4 0 f134.length]), (16, .map 1 (List.map AV.p (encK encArr3_int64 f133)) (List.map AV.p (encW PV.bool f133))), (30, .arr 41 3 1 [.p (encTable t1)]), (31, .arr 24 2 1 [.p (encDenial d2)]), (116, .arr 41 3 1 [.p (encTable t1)]), (117, .arr 24 2 1 [.p (encDenial d2)]), (202, .arr 41 3 1 [.p (encTable t1)]), (203, .arr 24 2 1 [.p (encDenial d2)]), (200008, .arr 57 1 4 (List.map AV.p (List.map (encL (PV.int .i64)) f134)))]⟩ ?_
 refine AL_inline (avs := [.p (.slc (List.map encRow l149)), .loc 7 1 0 0, .loc 8 1 0 0]) 331 rfl (guard_true' rfl rfl (by exact rfl) (by exact rfl)) rfl Tryz.func83 rfl Tryz.call83 Tryz.ntmps83 (by simp) (by simp only [go_sem, seval, h136T, h142F, h151, h154]; all_goals rfl) ?_
 intro i155 w156 h157
 show AWp _ _ _ ⟨[(0, .p (.slc (List.map encRow l149))), (1, .loc 7 1 0 0), (2, .loc 8 1 0 0)], [(7, .arr 134 1 1 [.mapo 16 1]), (8, .arr 52 1 1 [.own 200008 4 0 f134.length]), (16, .map 1 (List.map AV.p (encK encArr3_int64 f133)) (List.map AV.p (encW PV.bool f133))), (30, .arr 41 3 1 [.p (encTable t1)]), (31, .arr 24 2 1 [.p (encDenial d2)]), (116, .arr 41 3 1 [.p (encTable t1)]), (117, .arr 24 2 1 [.p (encDenial d2)]), (202, .arr 41 3 1 [.p (encTable t1)]), (203, .arr 24 2 1 [.p (encDenial d2)]), (200008, .arr 57 1 4 (List.map AV.p (List.map (encL (PV.int .i64)) f134)))]⟩
 refine zs (zr ?_)
 refine zU (zl (zn (zs (zr ?_))))
 refine zU (zl (zn (zs (zs (zr ?_)))))
 refine zU (zl (zn (zb ?_)))
 obtain ⟨l158, h159, h⟩ := zB h
 refine zO (fun (s : List Int × Int) => ⟨[(1, .loc 7 1 0 0), (2, .loc 8 1 0 0), (5, .own 350 1 0 s.1.length), (9, .p (.slc (List.map encRow l149))), (10, .p (.int .i64 (l149.length : Int))), (11, .p (.int .i64 s.2))], [(7, .arr 134 1 1 [.mapo 16 1]), (8, .arr 52 1 1 [.own 200008 4 0 f134.length]), (16, .map 1 (List.map AV.p (encK encArr3_int64 f133)) (List.map AV.p (encW PV.bool f133))), (30, .arr 41 3 1 [.p (encTable t1)]), (31, .arr 24 2 1 [.p (encDenial d2)]), (116, .arr 41 3 1 [.p (encTable t1)]), (117, .arr 24 2 1 [.p (encDenial d2)]), (202, .arr 41 3 1 [.p (encTable t1)]), (203, .arr 24 2 1 [.p (encDenial d2)]), (350, .arr 2 1 1 (List.map AV.p (List.map (PV.int .i64) s.1))), (200008, .arr 57 1 4 (List.map AV.p (List.map (encL (PV.int .i64)) f134)))]⟩) (fun (o160 : List Int) => tE ⟨Tryz.prog, 39, 331, X, [(7, .arr 134 1 1 [.mapo 16 1]), (8, .arr 52 1 1 [.own 200008 4 0 f134.length]), (16, .map 1 (List.map AV.p (encK encArr3_int64 f133)) (List.map AV.p (encW PV.bool f133))), (30, .arr 41 3 1 [.p (encTable t1)]), (31, .arr 24 2 1 [.p (encDenial d2)]), (116, .arr 41 3 1 [.p (encTable t1)]), (117, .arr 24 2 1 [.p (encDenial d2)]), (202, .arr 41 3 1 [.p (encTable t1)]), (203, .arr 24 2 1 [.p (encDenial d2)]), (200008, .arr 57 1 4 (List.map AV.p (List.map (encL (PV.int .i64)) f134)))], i155, w156, False, h157⟩ (.exit 0) ⟨[(1, .loc 7 1 0 0), (2, .loc 8 1 0 0), (5, .own 350 1 0 o160.length)], [(7, .arr 134 1 1 [.mapo 16 1]), (8, .arr 52 1 1 [.own 200008 4 0 f134.length]), (16, .map 1 (List.map AV.p (encK encArr3_int64 f133)) (List.map AV.p (encW PV.bool f133))), (30, .arr 41 3 1 [.p (encTable t1)]), (31, .arr 24 2 1 [.p (encDenial d2)]), (116, .arr 41 3 1 [.p (encTable t1)]), (117, .arr 24 2 1 [.p (encDenial d2)]), (202, .arr 41 3 1 [.p (encTable t1)]), (203, .arr 24 2 1 [.p (encDenial d2)]), (350, .arr 2 1 1 (List.map AV.p (List.map (PV.int .i64) o160))), (200008, .arr 57 1 4 (List.map AV.p (List.map (encL (PV.int .i64)) f134)))]⟩) h159 ?_ ?_
 clear h h136 h136T h138 h138a h138b h140 h142 h142F h143 h144 h145 h151 h153 h154 h159
 intro s x h
 obtain ⟨l161, t162⟩ := s
 simp only [denial_Violations_l156] at h
 dsimp only
 refine zs (zr ?_)
 refine zU (zl (zn (zs ?_)))
 rcases zI h with ⟨h163, h⟩ | ⟨h163, h⟩
 refine zi (zk (zn (zs (zb (zs (zr ?_))))))
 obtain ⟨x164, h165, h165a, h165b, h⟩ := zX h
 refine zU (zl (zn (zr ?_)))
 obtain ⟨h166, h⟩ := ite_some h
 refine zU (zl (yn (zn (zr ?_))))
 refine zU (zl ?_)
 cases h
 exact ⟨rfl, zE⟩
 refine zj (zx (ze ?_))
 cases h
 exact ⟨rfl, zE⟩
 try simp only at h
 refine zA (yh (zn (zs (zr ?_))))
 refine zU ?_
 refine zM ⟨[(1, .loc 7 1 0 0), (2, .loc 8 1 0 0), (5, .own 350 1 0 l158.length), (21, .own 350 1 0 l158.length)], [(7, .arr 134 1 1 [.mapo 16 1]), (8, .arr 52 1 1 [.own 200008 4 0 f134.length]), (16, .map 1 (List.map AV.p (encK encArr3_int64 f133)) (List.map AV.p (encW PV.bool f133))), (30, .arr 41 3 1 [.p (encTable t1)]), (31, .arr 24 2 1 [.p (encDenial d2)]), (116, .arr 41 3 1 [.p (encTable t1)]), (117, .arr 24 2 1 [.p (encDenial d2)]), (202, .arr 41 3 1 [.p (encTable t1)]), (203, .arr 24 2 1 [.p (encDenial d2)]), (350, .arr 2 1 1 (List.map AV.p (List.map (PV.int .i64) l158))), (200008, .arr 57 1 4 (List.map AV.p (List.map (encL (PV.int .i64)) f134)))]⟩ ?_
 obtain ⟨l167, h168, h⟩ := zB h
 refine zSI srt84 h168 ?_
 have h169 := srtIF_len h168
 refine zM ⟨[(1, .loc 7 1 0 0), (2, .loc 8 1 0 0), (5, .own 350 1 0 l167.length), (22, .p (.tup []))], [(7, .arr 134 1 1 [.mapo 16 1]), (8, .arr 52 1 1 [.own 200008 4 0 f134.length]), (16, .map 1 (List.map AV.p (encK encArr3_int64 f133)) (List.map AV.p (encW PV.bool f133))), (30, .arr 41 3 1 [.p (encTable t1)]), (31, .arr 24 2 1 [.p (encDenial d2)]), (116, .arr 41 3 1 [.p (encTable t1)]), (117, .arr 24 2 1 [.p (encDenial d2)]), (202, .arr 41 3 1 [.p (encTable t1)]), (203, .arr 24 2 1 [.p (encDenial d2)]), (350, .arr 2 1 1 (List.map AV.p (List.map (PV.int .i64) l167))), (200008, .arr 57 1 4 (List.map AV.p (List.map (encL (PV.int .i64)) f134)))]⟩ ?_
 clear h169
 refine zl (zn (zs (zr ?_)))
 refine zU (zl (zn (zs (zr ?_))))
 refine zM ⟨[(1, .loc 7 1 0 0), (2, .loc 8 1 0 0), (5, .p (.slc (List.map (PV.int .i64) l167))), (8, .loc 339 1 0 0)], [(7, .arr 134 1 1 [.mapo 16 1]), (8, .arr 52 1 1 [.own 200008 4 0 f134.length]), (16, .map 1 (List.map AV.p (encK encArr3_int64 f133)) (List.map AV.p (encW PV.bool f133))), (30, .arr 41 3 1 [.p (encTable t1)]), (31, .arr 24 2 1 [.p (encDenial d2)]), (116, .arr 41 3 1 [.p (encTable t1)]), (117, .arr 24 2 1 [.p (encDenial d2)]), (202, .arr 41 3 1 [.p (encTable t1)]), (203, .arr 24 2 1 [.p (encDenial d2)]), (339, .arr 137 3 1 [.p (.agg [.int .i64 0, .int .i64 0, .int .i64 0])]), (200008, .arr 57 1 4 (List.map AV.p (List.map (encL (PV.int .i64)) f134)))]⟩ ?_
 refine zCpa 339 0 0 0 l167 Tryz.underlying137 Tryz.underlying57 ?_
 refine zl (zn (zs (zs (zr ?_))))
 refine zU (zl (zn ?_))
 rcases zI h with ⟨h170, h⟩ | ⟨h170, h⟩
 refine zj (zk (zn (zs (zr ?_))))
 refine zU (zl (zn (zq ?_)))
 refine inlQ_ret (by simp only [Tryz.results83]; simp only [go_sem, seval, h136T, h142F, h151, h154, h170]; exact rfl) ?_
 refine zU (zl (zn (zq (zt ?_))))
 refine inlQ_ret (by simp only [Tryz.results82]; simp only [go_sem, seval, h136T, h142F, h151, h154, h170]; exact rfl) ?_
 refine zU (zl (zn ?_))
 rcases zI h with ⟨h171, h⟩ | ⟨h171, h⟩
 refine zj (zk (yn (zn (zr ?_))))
 refine zU (zl ?_)
 cases h
 exact ⟨rfl, zE⟩
 refine zi (zs (zr ?_))
 refine zU (zl (zn (zq (yr (zt ?_)))))
 cases h
 exact ⟨rfl, zE⟩
 have h170F := Bool.eq_false_iff.2 h170
 refine zi (zs (zr ?_))
 refine zU (zl (zn (zr ?_)))
 obtain ⟨h172, h⟩ := ite_some h
 refine zU (zl (zn (zs (zr ?_))))
 refine zU (zl (zn (zq ?_)))
 refine inlQ_ret (by simp only [Tryz.results83]; simp only [go_sem, seval, h136T, h142F, h151, h154, h170F]; exact rfl) ?_
 refine zU (zl (zn (zq (zt ?_))))
 refine inlQ_ret (by simp only [Tryz.results82]; simp only [go_sem, seval, h136T, h142F, h151, h154, h170F]; exact rfl) ?_
 refine zU (zl (zn ?_))
 rcases zI h with ⟨h173, h⟩ | ⟨h173, h⟩
 refine zj (zk (yn (zn (zr ?_))))
 refine zU (zl ?_)
 cases h
 exact ⟨rfl, zE⟩
 refine zi (zs (zr ?_))
 refine zU (zl (zn (zq (yr (zt ?_)))))
 cases h
 exact ⟨rfl, zE⟩
 have h154F := Bool.eq_false_iff.2 h154
 refine zw 21 true ?_
 refine zh ?_
 refine zU (zl (zn (zq (zt ?_))))
 refine inlQ_ret (by simp only [Tryz.results82]; simp only [go_sem, seval, h136T, h142F, h151, h154F]; exact rfl) ?_
 refine zU (zl (zn ?_))
 refine zj (zk (yn (zn (zr ?_))))
 refine zU (zl ?_)
 cases h
 exact ⟨rfl, zE⟩
 have h151F := Bool.eq_false_iff.2 h151
 refine zj (zk (zn (zs (zs (zr ?_)))))
 refine zU (zl (zn (zb ?_)))
 obtain ⟨o174, h175, h⟩ := zB h
 refine zO (fun (s : Int) => ⟨[(2, .p (.slc (List.map encRow l149))), (3, .func (.func 83) [.loc 7 1 0 0, .loc 8 1 0 0]), (4, .loc 288 1 0 0), (5, .loc 289 1 0 0), (27, .p (.slc (List.map encRow t1.Rows))), (28, .p (.int .i64 (t1.Rows.length : Int))), (29, .p (.int .i64 s))], [(7, .arr 134 1 1 [.mapo 16 1]), (8, .arr 52 1 1 [.own 200008 4 0 f134.length]), (16, .map 1 (List.map AV.p (encK encArr3_int64 f133)) (List.map AV.p (encW PV.bool f133))), (30, .arr 41 3 1 [.p (encTable t1)]), (31, .arr 24 2 1 [.p (encDenial d2)]), (116, .arr 41 3 1 [.p (encTable t1)]), (117, .arr 24 2 1 [.p (encDenial d2)]), (202, .arr 41 3 1 [.p (encTable t1)]), (203, .arr 24 2 1 [.p (encDenial d2)]), (288, .arr 41 3 1 [.p (encTable t1)]), (289, .arr 24 2 1 [.p (encDenial d2)]), (200008, .arr 57 1 4 (List.map AV.p (List.map (encL (PV.int .i64)) f134)))]⟩) (fun (o176 : Unit) => tE ⟨Tryz.prog, 47, 284, X, [(7, .arr 134 1 1 [.mapo 16 1]), (8, .arr 52 1 1 [.own 200008 4 0 f134.length]), (16, .map 1 (List.map AV.p (encK encArr3_int64 f133)) (List.map AV.p (encW PV.bool f133))), (30, .arr 41 3 1 [.p (encTable t1)]), (31, .arr 24 2 1 [.p (encDenial d2)]), (116, .arr 41 3 1 [.p (encTable t1)]), (117, .arr 24 2 1 [.p (encDenial d2)]), (202, .arr 41 3 1 [.p (encTable t1)]), (203, .arr 24 2 1 [.p (encDenial d2)]), (200008, .arr 57 1 4 (List.map AV.p (List.map (encL (PV.int .i64)) f134)))], i146, w147, False, h148⟩ (.exit 0) ⟨[], [(7, .arr 134 1 1 [.mapo 16 1]), (8, .arr 52 1 1 [.own 200008 4 0 f134.length]), (16, .map 1 (List.map AV.p (encK encArr3_int64 f133)) (List.map AV.p (encW PV.bool f133))), (30, .arr 41 3 1 [.p (encTable t1)]), (31, .arr 24 2 1 [.p (encDenial d2)]), (116, .arr 41 3 1 [.p (encTable t1)]), (117, .arr 24 2 1 [.p (encDenial d2)]), (202, .arr 41 3 1 [.p (encTable t1)]), (203, .arr 24 2 1 [.p (encDenial d2)]), (200008, .arr 57 1 4 (List.map AV.p (List.map (encL (PV.int .i64)) f134)))]⟩) h175 ?_ ?_
 clear h h136 h136T h138 h138a h138b h140 h142 h142F h143 h144 h145 h151 h151F h175
 intro t177 x h
 simp only [denial_Violations_l157] at h
 refine zs (zr ?_)
 refine zU (zl (zn (zs ?_)))
 rcases zI h with ⟨h178, h⟩ | ⟨h178, h⟩
 refine zi (zk (zn (zs (zb (zs (zr ?_))))))
 obtain ⟨x179, h180, h180a, h180b, h⟩ := zX h
 refine zU (zl (zn (zs (zs (zr ?_)))))
 refine zU ?_
 obtain ⟨r181, h182, h⟩ := zB h
 refine zc (slices_ContainsFunc_Row_con l149 (fun (y183 : Row) => denial_visit_1 y183 x179) 125 [.imm [.int .i64 x179.ID, .slc (List.map encValue x179.Values)]] (fun y183 r h => denial_visit_1_con y183 x179 r h) _ h182) ?_
 refine zl (zn ?_)
 rcases zI h with ⟨h184, h⟩ | ⟨h184, h⟩
 refine zi (zx (ze (yh (zn (zr ?_)))))
 refine zU (zl ?_)
 cases h
 exact ⟨rfl, zE⟩
 cases h
 refine zj (zx (ze ?_))
 cases h
 exact ⟨rfl, zE⟩
 cases o174
 try simp only at h
 refine zA (yh (zn (zs (zr ?_))))
 refine zU (zl (zn (zq ?_)))
 refine inlQ_ret (by simp only [Tryz.results82]; simp only [go_sem, seval, h136T, h142F, h151F]; exact rfl) ?_
 refine zU (zl (zn ?_))
 refine zj (zk (yn (zn (zr ?_))))
 refine zU (zl ?_)
 cases h
 exact ⟨rfl, zE⟩
 have h136T := eq_false h136
 refine zj (zx (ze ?_))
 cases h
 exact ⟨rfl, zE⟩
 rcases o129 with ⟨f185, b186⟩ | ⟨f187, b188⟩
 try simp only at h
 refine zA (yh (zn (zs (zr ?_))))
 refine zU (zl (zn (zq ?_)))
 refine inlQ_ret (by simp only [Tryz.results82]; simp only [go_sem, seval, h91T, h97F, h106F]; exact rfl) ?_
 refine zU (zl (zn ?_))
 refine zj (zk (yn (zn (zr ?_))))
 refine zU (zl ?_)
 cases h
 exact ⟨rfl, zE⟩
 try simp only at h
 refine zA (yr (zt ?_))
 refine inlQ_ret (by simp only [Tryz.results82]; simp only [go_sem, seval, h91T, h97F, h106F]; exact rfl) ?_
 refine zU (zl (zn ?_))
 refine zi (zs (zr ?_))
 refine zU (zl (zn (zq (yr (zt ?_)))))
 cases h
 exact ⟨rfl, zE⟩
 have h91T := eq_false h91
 refine zj (zx (ze ?_))
 cases h
 exact ⟨rfl, zE⟩
 rcases o84 with ⟨f189, b190⟩ | ⟨f191, b192⟩
 try simp only at h
 refine zA (yh (zn (zs (zr ?_))))
 refine zU (zl (zn (zq ?_)))
 refine inlQ_ret (by simp only [Tryz.results82]; simp only [go_sem, seval, h45T, h51F, h60F]; exact rfl) ?_
 refine zU (zl (zn ?_))
 refine zj (zk (yn (zn (zr ?_))))
 refine zU (zl ?_)
 cases h
 exact ⟨rfl, zE⟩
 try simp only at h
 refine zA (yr (zt ?_))
 refine inlQ_ret (by simp only [Tryz.results82]; simp only [go_sem, seval, h45T, h51F, h60F]; exact rfl) ?_
 refine zU (zl (zn ?_))
 refine zi (zs (zr ?_))
 refine zU (zl (zn (zq (yr (zt ?_)))))
 cases h
 exact ⟨rfl, zE⟩
 have h45T := eq_false h45
 refine zj (zx (ze ?_))
 cases h
 exact ⟨rfl, zE⟩
 rcases o38 with ⟨f193, b194⟩ | ⟨f195, b196⟩
 try simp only at h
 refine zA (yh (zn (zs (zr ?_))))
 refine zU (zl (zn (zq ?_)))
 refine inlQ_ret (by simp only [Tryz.results82]; simp only [go_sem, seval, h6F, h17F]; exact rfl) ?_
 refine zU (zl ?_)
 cases h
 exact ⟨rfl, zE⟩
 try simp only at h
 refine zA (yr (zt ?_))
 refine inlQ_ret (by simp only [Tryz.results82]; simp only [go_sem, seval, h6F, h17F]; exact rfl) ?_
 refine zU (zl ?_)
 cases h
 exact ⟨rfl, zE⟩
 obtain ⟨o197, a198⟩ := o7
 try simp only at h
 refine zA (zn (zs (zs (zr ?_))))
 refine zU (zl (zn ?_))
 rcases zI h with ⟨h199, h⟩ | ⟨h199, h⟩
 refine zj (zk (zn (zs (zr ?_))))
 refine zU ?_
 refine zM ⟨[(8, .loc 8 1 0 0), (23, .own 200008 1 0 o197.length)], [(8, .arr 52 1 1 [.own 200008 1 0 o197.length]), (200008, .arr 57 1 1 (List.map AV.p (List.map (encL (PV.int .i64)) o197)))]⟩ ?_
 obtain ⟨l200, h201, h⟩ := zB h
 refine zSF srt85 (encL (PV.int .i64)) (fun (y202 : List Int) (y203 : List Int) => slices_Compare_int64 y202 y203) h201 (fun y202 y203 r h => slices_Compare_int64_con y202 y203 r h) ?_
 have h204 := srtF_len h201
 refine zM ⟨[(8, .loc 8 1 0 0), (24, .p (.tup []))], [(8, .arr 52 1 1 [.own 200008 1 0 l200.length]), (200008, .arr 57 1 1 (List.map AV.p (List.map (encL (PV.int .i64)) l200)))]⟩ ?_
 clear h204
 refine zl (zn (zs (zr ?_)))
 refine zU (zl (zn (zq ?_)))
 cases h
 exact zT Tryz.results29
 refine zi (zs (zr ?_))
 refine zU (zl (zn (zq (zt ?_))))
 cases h
 exact zT Tryz.results29
end Go.Proofs.YtlaodgbkpmdhoaaGreatDoor
set_option linter.unusedVariables false
set_option linter.unusedSimpArgs false
namespace Go.Proofs.YtlaodgbkpmdhoaaGreatDoor
open Go Go.Ab
set_option maxHeartbeats 4000000 in
theorem drossref01_Of_con {D : Prop} (c1 : Int) (r2 : Value) (h : drossref01_Of c1 = some r2) : Con D Tryz.prog 104 [(.int .u8 c1)] (encValue r2) := by
 refine zP Tryz.call104 Tryz.func104 rfl Tryz.ntmps104 fun X w hT => ?_
 simp only [drossref01_Of] at h
 refine zs (zr ?_)
 refine zU (zl (zn (zs (zs (zr ?_)))))
 refine zU (zl (zn (zb (zs (zr ?_)))))
 refine zU (zl (zn ?_))
 rcases zI h with ⟨h3, h⟩ | ⟨h3, h⟩
 refine zi (zs (zr ?_))
 refine zU (zl (zn (zq (yr (zt ?_)))))
 cases h
 exact zT Tryz.results104
 refine zj (zs (zr ?_))
 refine zU (zl (zn ?_))
 rcases zI h with ⟨h4, h⟩ | ⟨h4, h⟩
 refine zi (zs (zr ?_))
 refine zU (zl (zn (zq (yr (zt ?_)))))
 cases h
 exact zT Tryz.results104
 refine zj (zs (zr ?_))
 refine zU (zl (zn ?_))
 rcases zI h with ⟨h5, h⟩ | ⟨h5, h⟩
 refine zi (zs (zr ?_))
 refine zU (zl (zn (zq (yr (zt ?_)))))
 cases h
 exact zT Tryz.results104
 refine zj (zs (zr ?_))
 refine zU (zl (zn ?_))
 rcases zI h with ⟨h6, h⟩ | ⟨h6, h⟩
 refine zi (zs (zr ?_))
 refine zU (zl (zn (zq (yr (zt ?_)))))
 cases h
 exact zT Tryz.results104
 refine zj (zs (zr ?_))
 refine zU (zl (zn ?_))
 rcases zI h with ⟨h7, h⟩ | ⟨h7, h⟩
 refine zi (zs (zr ?_))
 refine zU (zl (zn (zq (yr (zt ?_)))))
 cases h
 exact zT Tryz.results104
 refine zj (zs (zr ?_))
 refine zU (zl (zn ?_))
 rcases zI h with ⟨h8, h⟩ | ⟨h8, h⟩
 refine zi (zs (zr ?_))
 refine zU (zl (zn (zq (yr (zt ?_)))))
 cases h
 exact zT Tryz.results104
 refine zj (zs (zr ?_))
 refine zU (zl (zn ?_))
 rcases zI h with ⟨h9, h⟩ | ⟨h9, h⟩
 refine zi (zs (zr ?_))
 refine zU (zl (zn (zq (yr (zt ?_)))))
 cases h
 exact zT Tryz.results104
 refine zj (zs (zr ?_))
 refine zU (zl (zn ?_))
 rcases zI h with ⟨h10, h⟩ | ⟨h10, h⟩
 refine zi (zs (zr ?_))
 refine zU (zl (zn (zq (yr (zt ?_)))))
 cases h
 exact zT Tryz.results104
 refine zj (zs (zr ?_))
 refine zU (zl (zn ?_))
 rcases zI h with ⟨h11, h⟩ | ⟨h11, h⟩
 refine zi (zs (zr ?_))
 refine zU (zl (zn (zq (yr (zt ?_)))))
 cases h
 exact zT Tryz.results104
 refine zj (zs (zr ?_))
 refine zU (zl (zn ?_))
 rcases zI h with ⟨h12, h⟩ | ⟨h12, h⟩
 refine zi (zs (zr ?_))
 refine zU (zl (zn (zq (yr (zt ?_)))))
 cases h
 exact zT Tryz.results104
 refine zj (zs (zr ?_))
 refine zU (zl (zn ?_))
 rcases zI h with ⟨h13, h⟩ | ⟨h13, h⟩
 refine zi (zs (zr ?_))
 refine zU (zl (zn (zq (yr (zt ?_)))))
 cases h
 exact zT Tryz.results104
 refine zj (zk (yn (zn (zs (zr ?_)))))
 refine zU (zl (zn (zq ?_)))
 cases h
 exact zT Tryz.results104
end Go.Proofs.YtlaodgbkpmdhoaaGreatDoor
set_option linter.unusedVariables false
set_option linter.unusedSimpArgs false
namespace Go.Proofs.YtlaodgbkpmdhoaaGreatDoor
open Go Go.Ab
set_option maxHeartbeats 4000000 in
theorem drossref03_Wide_con {D : Prop} (x1 : Drossref03_Recipe) (n2 : Int) (r3 : Table) (h : drossref03_Wide x1 n2 = some r3) : Con D Tryz.prog 49 [(encDrossref03_Recipe x1), (.int .i64 n2)] (encTable r3) := by
 refine zP Tryz.call49 Tryz.func49 rfl Tryz.ntmps49 fun X w hT => ?_
 simp only [drossref03_Wide] at h
 refine zs (zr ?_)
 refine zU (zl (zn (zs (zr ?_))))
 obtain ⟨h4, h⟩ := ite_some h
 obtain ⟨h5, h⟩ := ite_some h
 refine zW 4 ?_
 obtain ⟨l6, h7, h⟩ := zB h
 replace h7 := Option.some.inj h7
 refine AL_le (st' := ⟨[(1, .p (.int .i64 n2)), (2, .loc 2 1 0 0), (4, .loc 4 1 0 0), (10, .own 10 1 0 0), (13, .own 11 1 0 n2.toNat)], [(2, .arr 36 3 1 [.p (encDrossref03_Recipe x1)]), (4, .arr 41 3 1 [.agg [.p (.str []), .nils, .nils]]), (10, .arr 9 1 1 []), (11, .arr 9 1 1 (List.map AV.p (List.map PV.str l6)))]⟩) (by simp only [go_sem, seval, ← h7]; all_goals ((repeat' refine And.intro ?_ ?_) <;> first | rfl | (simp; done) | (simp; rfl) | (simp [*]; done) | (simp [*]; rfl))) ?_
 have h7n : l6.length = 8 := by rw [← h7]; rfl
 clear h7
 obtain ⟨h8, h⟩ := ite_some h
 refine zU (zl (zn (zs (zs (zr ?_)))))
 refine zU (zl (zn (zb ?_)))
 obtain ⟨t9, h10, h⟩ := zB h
 refine zO (fun (s : List Row × Int) => ⟨[(1, .p (.int .i64 n2)), (2, .loc 2 1 0 0), (4, .loc 4 1 0 0), (5, .loc 5 1 0 0), (6, .p (.int .i64 s.2))], [(2, .arr 36 3 1 [.p (encDrossref03_Recipe x1)]), (4, .arr 41 3 1 [.agg [.p (.str []), .nils, .nils]]), (5, .arr 41 3 1 [.agg [.p (.str [114]), .own 10 1 0 ((l6.take n2.toNat)).length, .own 64 1 0 s.1.length]]), (10, .arr 9 1 1 (List.map AV.p (List.map PV.str (l6.take n2.toNat)))), (64, .arr 55 2 1 (List.map AV.p (List.map encRow s.1)))]⟩) (fun (o11 : List Row) => tE (cX Tryz.f49 X w D hT) (.exit 0) ⟨[(4, .loc 4 1 0 0), (5, .loc 5 1 0 0)], [(4, .arr 41 3 1 [.agg [.p (.str []), .nils, .nils]]), (5, .arr 41 3 1 [.agg [.p (.str [114]), .own 10 1 0 ((l6.take n2.toNat)).length, .own 64 1 0 o11.length]]), (10, .arr 9 1 1 (List.map AV.p (List.map PV.str (l6.take n2.toNat)))), (64, .arr 55 2 1 (List.map AV.p (List.map encRow o11)))]⟩) h10 ?_ ?_
 clear h h4 h5 h7n h8 h10
 intro s x h
 obtain ⟨t12, i13⟩ := s
 simp only [drossref03_Wide_l4] at h
 dsimp only
 refine zs (zs (zr ?_))
 refine zU (zl (zn ?_))
 rcases zI h with ⟨h14, h⟩ | ⟨h14, h⟩
 refine zi (zk (zn (zs (zb (zs (zr ?_))))))
 refine zU (zl (zn (zs (zs (zr ?_)))))
 refine zU (zl (zn (zb ?_)))
 obtain ⟨r15, h16, h⟩ := zB h
 refine zO (fun (s : List Value × Int) => ⟨[(1, .p (.int .i64 n2)), (2, .loc 2 1 0 0), (4, .loc 4 1 0 0), (5, .loc 5 1 0 0), (6, .p (.int .i64 i13)), (7, .loc 7 1 0 0), (8, .p (.int .i64 s.2))], [(2, .arr 36 3 1 [.p (encDrossref03_Recipe x1)]), (4, .arr 41 3 1 [.agg [.p (.str []), .nils, .nils]]), (5, .arr 41 3 1 [.agg [.p (.str [114]), .own 10 1 0 ((l6.take n2.toNat)).length, .own 64 1 0 t12.length]]), (7, .arr 55 2 1 [.agg [.p (.int .i64 (IntKind.i64.wrap (1 + (IntKind.i64.wrap (i13 * (IntKind.i64.wrap (1 + (IntKind.i64.wrap (Int.tmod x1.Gap 3))))))))), .own 58 1 0 s.1.length]]), (10, .arr 9 1 1 (List.map AV.p (List.map PV.str (l6.take n2.toNat)))), (58, .arr 27 3 1 (List.map AV.p (List.map encValue s.1))), (64, .arr 55 2 1 (List.map AV.p (List.map encRow t12)))]⟩) (fun (o17 : List Value) => tE (cX Tryz.f49 X w D hT) (.exit 2) ⟨[(1, .p (.int .i64 n2)), (2, .loc 2 1 0 0), (4, .loc 4 1 0 0), (5, .loc 5 1 0 0), (6, .p (.int .i64 i13)), (7, .loc 7 1 0 0)], [(2, .arr 36 3 1 [.p (encDrossref03_Recipe x1)]), (4, .arr 41 3 1 [.agg [.p (.str []), .nils, .nils]]), (5, .arr 41 3 1 [.agg [.p (.str [114]), .own 10 1 0 ((l6.take n2.toNat)).length, .own 64 1 0 t12.length]]), (7, .arr 55 2 1 [.agg [.p (.int .i64 (IntKind.i64.wrap (1 + (IntKind.i64.wrap (i13 * (IntKind.i64.wrap (1 + (IntKind.i64.wrap (Int.tmod x1.Gap 3))))))))), .own 58 1 0 o17.length]]), (10, .arr 9 1 1 (List.map AV.p (List.map PV.str (l6.take n2.toNat)))), (58, .arr 27 3 1 (List.map AV.p (List.map encValue o17))), (64, .arr 55 2 1 (List.map AV.p (List.map encRow t12)))]⟩) h16 ?_ ?_
 clear h h14 h16
 intro s x h
 obtain ⟨r18, k19⟩ := s
 simp only [drossref03_Wide_l3] at h
 dsimp only
 refine zs (zs (zr ?_))
 refine zU (zl (zn ?_))
 rcases zI h with ⟨h20, h⟩ | ⟨h20, h⟩
 refine zi (zk (zn (zs (zb (zs (zr ?_))))))
 refine zU (zl (zn (zs (zs (zr ?_)))))
 obtain ⟨x21, h22, h22a, h22b, h⟩ := zX h
 refine zU (zl (zn ?_))
 rcases zI h with ⟨h23, h⟩ | ⟨h23, h⟩
 refine zi (zr ?_)
 obtain ⟨x24, h25, h25a, h25b, h⟩ := zX h
 refine zU (zl (zn (zd ?_)))
 refine yU ?_
 obtain ⟨r26, h27, h⟩ := zB h
 refine yc (drossref01_Of_con x24 _ h27) ?_
 obtain ⟨h28, h⟩ := ite_some h
 refine yU ?_
 refine yd (yn (zn (zr ?_)))
 refine zU (zl ?_)
 cases h
 exact ⟨rfl, zE⟩
 refine zj (zk (zn (zd ?_)))
 refine yU ?_
 obtain ⟨r29, h30, h⟩ := zB h
 refine yc (drossref01_Of_con 0 _ h30) ?_
 obtain ⟨h31, h⟩ := ite_some h
 refine yU ?_
 refine yd (yn (zn (zr ?_)))
 refine zU (zl ?_)
 cases h
 exact ⟨rfl, zE⟩
 refine zj (zx (ze ?_))
 cases h
 exact ⟨rfl, zE⟩
 try simp only at h
 refine zA (yh (zn (zr ?_)))
 refine zW 4 ?_
 refine zM ⟨[(1, .p (.int .i64 n2)), (2, .loc 2 1 0 0), (4, .loc 4 1 0 0), (5, .loc 5 1 0 0), (6, .p (.int .i64 i13)), (61, .own 64 1 0 t12.length), (63, .own 63 1 0 1)], [(2, .arr 36 3 1 [.p (encDrossref03_Recipe x1)]), (4, .arr 41 3 1 [.agg [.p (.str []), .nils, .nils]]), (5, .arr 41 3 1 [.agg [.p (.str [114]), .own 10 1 0 ((l6.take n2.toNat)).length, .own 64 1 0 t12.length]]), (10, .arr 9 1 1 (List.map AV.p (List.map PV.str (l6.take n2.toNat)))), (63, .arr 55 2 1 [.p (.agg [.int .i64 (IntKind.i64.wrap (1 + (IntKind.i64.wrap (i13 * (IntKind.i64.wrap (1 + (IntKind.i64.wrap (Int.tmod x1.Gap 3)))))))), .slc (List.map encValue r15)])]), (64, .arr 55 2 1 (List.map AV.p (List.map encRow t12)))]⟩ ?_
 obtain ⟨h32, h⟩ := ite_some h
 refine zU (zl (yn (zn (zr ?_))))
 refine zU (zl ?_)
 cases h
 exact ⟨rfl, zE⟩
 refine zj (zx (ze ?_))
 cases h
 exact ⟨rfl, zE⟩
 try simp only at h
 refine zA (yh (zn (zs (zr ?_))))
 refine zU (zl (zn (zq ?_)))
 cases h
 exact zT Tryz.results49
end Go.Proofs.YtlaodgbkpmdhoaaGreatDoor
set_option linter.unusedVariables false
set_option linter.unusedSimpArgs false
namespace Go.Proofs.YtlaodgbkpmdhoaaGreatDoor
open Go Go.Ab
set_option maxHeartbeats 4000000 in
theorem drosslaw18_at_con {D : Prop} (v1 : Int) (a2 : Int) (r3 : Term) (h : drosslaw18_at v1 a2 = some r3) : Con D Tryz.prog 50 [(.int .i64 v1), (.int .i64 a2)] (encTerm r3) := by
 refine zP Tryz.call50 Tryz.func50 rfl Tryz.ntmps50 fun X w hT => ?_
 simp only [drosslaw18_at] at h
 refine zs (zr ?_)
 refine zU (zl (zn (zs (zr ?_))))
 refine zU (zl (zn (zq ?_)))
 cases h
 exact zT Tryz.results50
end Go.Proofs.YtlaodgbkpmdhoaaGreatDoor
set_option linter.unusedVariables false
set_option linter.unusedSimpArgs false
namespace Go.Proofs.YtlaodgbkpmdhoaaGreatDoor
open Go Go.Ab
set_option maxHeartbeats 4000000 in
theorem drosslaw18_num_con {D : Prop} (n1 : Int) (r2 : Term) (h : drosslaw18_num n1 = some r2) : Con D Tryz.prog 51 [(.int .i64 n1)] (encTerm r2) := by
 refine zP Tryz.call51 Tryz.func51 rfl Tryz.ntmps51 fun X w hT => ?_
 simp only [drosslaw18_num] at h
 refine zs (zr ?_)
 refine zU (zl (zn (zs (zr ?_))))
 refine zU (zl (zn (zq ?_)))
 cases h
 exact zT Tryz.results51
end Go.Proofs.YtlaodgbkpmdhoaaGreatDoor
set_option linter.unusedVariables false
set_option linter.unusedSimpArgs false
namespace Go.Proofs.YtlaodgbkpmdhoaaGreatDoor
open Go Go.Ab
set_option maxRecDepth 20000 in
set_option maxHeartbeats 4000000 in
theorem drosslaw18_awake_con  (r1 : Bool) (h : drosslaw18_awake = some r1) : Con False Tryz.prog 11 [] (.bool r1) := by
 refine zP Tryz.call11 Tryz.func11 rfl Tryz.ntmps11 fun X w hT => ?_
 simp only [drosslaw18_awake] at h
 refine zs (zr ?_)
 refine zU (zl (zn (zs (zr ?_))))
 refine zU ?_
 refine zM ⟨[(17, .p (.agg [.int .u8 0, .int .u8 0, .slc (List.map (encL (PV.int .u8)) [[2, 1], [2, 2], [11, 2]])]))], []⟩ ?_
 obtain ⟨r2, h3, h⟩ := zB h
 refine zc (drossref03_Wide_con (Drossref03_Recipe.mk 0 0 [[2, 1], [2, 2], [11, 2]]) 2 _ h3) ?_
 refine zU (zl (zn (zs (zr ?_))))
 refine zU ?_
 obtain ⟨r4, h5, h⟩ := zB h
 refine zc (denial_FromFD_con 2 (FD.mk 1 2) _ h5) ?_
 refine zU (zl (zn (zs (zr ?_))))
 obtain ⟨r6, h7, h⟩ := zB h
 refine zc (drosslaw18_at_con 1 0 _ h7) ?_
 obtain ⟨r8, h9, h⟩ := zB h
 refine zc (drosslaw18_at_con 2 0 _ h9) ?_
 refine zU ?_
 obtain ⟨r10, h11, h⟩ := zB h
 refine zc (drosslaw18_at_con 1 1 _ h11) ?_
 obtain ⟨r12, h13, h⟩ := zB h
 refine zc (drosslaw18_at_con 2 1 _ h13) ?_
 refine zU (zl (zn (zs (zr ?_))))
 refine zU ?_
 refine zM ⟨[(1, .loc 1 1 0 0), (2, .p (.slc (List.map encDenial r4.1))), (3, .p (.int .i64 r4.2)), (4, .loc 4 1 0 0), (33, .p (encTable r2)), (34, .p (.agg [.int .i64 2, .slc (List.map encAtom [(Atom.mk r6 1 r8), (Atom.mk r10 2 r12)])]))], [(1, .arr 41 3 1 [.p (encTable r2)]), (4, .arr 24 2 1 [.p (.agg [.int .i64 2, .slc (List.map encAtom [(Atom.mk r6 1 r8), (Atom.mk r10 2 r12)])])])]⟩ ?_
 obtain ⟨r14, h15, h⟩ := zB h
 refine zc (denial_Violations_con r2 (Denial.mk 2 [(Atom.mk r6 1 r8), (Atom.mk r10 2 r12)]) _ h15) ?_
 refine zU (zl (zn (zs (zd ?_))))
 refine yU ?_
 obtain ⟨r16, h17, h⟩ := zB h
 refine yc (drosslaw18_at_con 1 0 _ h17) ?_
 obtain ⟨r18, h19, h⟩ := zB h
 refine yc (drosslaw18_num_con 6 _ h19) ?_
 refine yV 1 ?_
 refine yS 43 ?_
 refine yU ?_
 obtain ⟨r20, h21, h⟩ := zB h
 refine yc (denial_Violations_con r2 (Denial.mk 1 [(Atom.mk r16 3 r18)]) _ h21) ?_
 refine yU ?_
 refine yd (zn (zs (zr ?_)))
 refine zU ?_
 refine zM ⟨[(2, .p (.slc (List.map encDenial r4.1))), (3, .p (.int .i64 r4.2)), (4, .loc 4 1 0 0), (5, .p (.slc (List.map (encL (PV.int .i64)) r14.1))), (6, .p (.int .i64 r14.2)), (7, .p (.slc (List.map (encL (PV.int .i64)) r20.1))), (8, .p (.int .i64 r20.2)), (51, .p (.agg [.slc (List.map (PV.int .i64) [0]), .slc (List.map (PV.int .i64) [1])]))], [(4, .arr 24 2 1 [.p (.agg [.int .i64 2, .slc (List.map encAtom [(Atom.mk r6 1 r8), (Atom.mk r10 2 r12)])])])]⟩ ?_
 obtain ⟨r22, h23, h⟩ := zB h
 refine zc (denial_FromOD_con 2 (OD.mk [0] [1]) _ h23) ?_
 refine zU (zl (zn (zs (zs (zr ?_)))))
 refine zU ?_
 rcases zI h with ⟨h24, h⟩ | ⟨h24, h⟩
 refine zw 57 true ?_
 refine zh ?_
 refine zU ?_
 refine zh ?_
 refine zU ?_
 refine zh ?_
 refine zU ?_
 refine zh ?_
 refine zU ?_
 refine zh ?_
 refine zU ?_
 refine zh ?_
 refine zU ?_
 refine zh ?_
 refine zU (zl (zn ?_))
 refine zi (zs (zr ?_))
 refine zU (zl (zn (zq (zt ?_))))
 cases h
 exact zT Tryz.results11
 refine zw 57 false ?_
 refine zg ?_
 refine zg ?_
 refine zU ?_
 rcases zI h with ⟨h25, h⟩ | ⟨h25, h⟩
 refine zw 61 true ?_
 refine zh ?_
 refine zU ?_
 refine zh ?_
 refine zU ?_
 refine zh ?_
 refine zU ?_
 refine zh ?_
 refine zU ?_
 refine zh ?_
 refine zU ?_
 refine zh ?_
 refine zU (zl (zn ?_))
 refine zi (zs (zr ?_))
 refine zU (zl (zn (zq (zt ?_))))
 cases h
 exact zT Tryz.results11
 refine zw 61 false ?_
 refine zg ?_
 refine zg ?_
 refine zU ?_
 rcases zI h with ⟨h26, h⟩ | ⟨h26, h⟩
 refine zw 65 true ?_
 refine zh ?_
 refine zU ?_
 refine zh ?_
 refine zU ?_
 refine zh ?_
 refine zU ?_
 refine zh ?_
 refine zU ?_
 refine zh ?_
 refine zU (zl (zn ?_))
 refine zi (zs (zr ?_))
 refine zU (zl (zn (zq (zt ?_))))
 cases h
 exact zT Tryz.results11
 refine zw 65 false ?_
 refine zg ?_
 refine zg ?_
 refine zU ?_
 rcases zI h with ⟨h27, h⟩ | ⟨h27, h⟩
 refine zw 69 true ?_
 refine zh ?_
 refine zU ?_
 refine zh ?_
 refine zU ?_
 refine zh ?_
 refine zU ?_
 refine zh ?_
 refine zU (zl (zn ?_))
 refine zi (zs (zr ?_))
 refine zU (zl (zn (zq (zt ?_))))
 cases h
 exact zT Tryz.results11
 refine zw 69 false ?_
 refine zg ?_
 refine zg ?_
 refine zg ?_
 obtain ⟨r28, h29, h⟩ := zB h
 refine zc (drossref18_Same_con r4.1 [(Denial.mk 2 [(Atom.mk r6 1 r8), (Atom.mk r10 2 r12)])] _ h29) ?_
 refine zg ?_
 refine zU ?_
 rcases zI h with ⟨h30, h⟩ | ⟨h30, h⟩
 refine zw 76 false ?_
 refine zg ?_
 refine zg ?_
 refine zg ?_
 obtain ⟨r31, h32, h⟩ := zB h
 refine zc (drossref18_Lists_con r14.1 [[1, 2]] _ h32) ?_
 refine zg ?_
 refine zU ?_
 rcases zI h with ⟨h33, h⟩ | ⟨h33, h⟩
 refine zw 83 false ?_
 refine zg ?_
 refine zg ?_
 refine zg ?_
 refine zg ?_
 obtain ⟨r34, h35, h⟩ := zB h
 refine zc (drossref18_Lists_con r20.1 [[1], [2]] _ h35) ?_
 refine zg ?_
 refine zU ?_
 rcases zI h with ⟨h36, h⟩ | ⟨h36, h⟩
 refine zw 91 false ?_
 refine zg ?_
 refine zg ?_
 refine zg ?_
 refine zU (zl (zn ?_))
 rcases zI h with ⟨h37, h⟩ | ⟨h37, h⟩
 refine zi (zs (zr ?_))
 refine zU (zl (zn (zq (zt ?_))))
 cases h
 exact zT Tryz.results11
 refine zj (zk (zn (zs (zr ?_))))
 obtain ⟨r38, h39, h⟩ := zB h
 refine zc (drosslaw18_at_con 1 0 _ h39) ?_
 obtain ⟨r40, h41, h⟩ := zB h
 refine zc (drosslaw18_at_con 1 1 _ h41) ?_
 refine zU ?_
 obtain ⟨r42, h43, h⟩ := zB h
 refine zc (drosslaw18_at_con 1 1 _ h43) ?_
 obtain ⟨r44, h45, h⟩ := zB h
 refine zc (drosslaw18_num_con 5 _ h45) ?_
 refine zU ?_
 obtain ⟨r46, h47, h⟩ := zB h
 refine zc (drosslaw18_num_con 6 _ h47) ?_
 obtain ⟨r48, h49, h⟩ := zB h
 refine zc (drosslaw18_at_con 1 0 _ h49) ?_
 refine zU (zl (zn (zs (zr ?_))))
 obtain ⟨r50, h51, h⟩ := zB h
 refine zc (drosslaw18_at_con 1 0 _ h51) ?_
 obtain ⟨r52, h53, h⟩ := zB h
 refine zc (drosslaw18_num_con 2 _ h53) ?_
 refine zU ?_
 obtain ⟨r54, h55, h⟩ := zB h
 refine zc (drosslaw18_num_con 1 _ h55) ?_
 obtain ⟨r56, h57, h⟩ := zB h
 refine zc (drosslaw18_at_con 1 0 _ h57) ?_
 refine zU (zl (zn (zs (zr ?_))))
 refine zU ?_
 obtain ⟨r58, h59, h⟩ := zB h
 refine zc (denial_Contradictory_con [(Atom.mk r38 3 r40), (Atom.mk r42 4 r44), (Atom.mk r46 3 r48)] _ h59) ?_
 refine zU ?_
 rcases zI h with ⟨h60, h⟩ | ⟨h60, h⟩
 refine zw 115 true ?_
 refine zg ?_
 obtain ⟨r61, h62, h⟩ := zB h
 replace h := h.symm
 refine zc (denial_Contradictory_con [(Atom.mk r50 3 r52), (Atom.mk r54 3 r56)] _ h62) ?_
 refine zg ?_
 refine zU (zl (zn (zq ?_)))
 cases h
 exact zT Tryz.results11
 refine zw 115 false ?_
 refine zh ?_
 refine zU (zl (zn (zq ?_)))
 cases h
 exact zT Tryz.results11
 refine zw 91 true ?_
 refine zh ?_
 refine zU (zl (zn ?_))
 refine zi (zs (zr ?_))
 refine zU (zl (zn (zq (zt ?_))))
 cases h
 exact zT Tryz.results11
 refine zw 83 true ?_
 refine zh ?_
 refine zU ?_
 refine zh ?_
 refine zU (zl (zn ?_))
 refine zi (zs (zr ?_))
 refine zU (zl (zn (zq (zt ?_))))
 cases h
 exact zT Tryz.results11
 refine zw 76 true ?_
 refine zh ?_
 refine zU ?_
 refine zh ?_
 refine zU ?_
 refine zh ?_
 refine zU (zl (zn ?_))
 refine zi (zs (zr ?_))
 refine zU (zl (zn (zq (zt ?_))))
 cases h
 exact zT Tryz.results11
end Go.Proofs.YtlaodgbkpmdhoaaGreatDoor
set_option linter.unusedVariables false
set_option linter.unusedSimpArgs false
namespace Go.Proofs.YtlaodgbkpmdhoaaGreatDoor
open Go Go.Ab
set_option maxHeartbeats 4000000 in
theorem slices_Clone_Atom_con {D : Prop} (l : List Atom) (r : List Atom) (h : slices_Clone_Atom l = some r) : Con D Tryz.prog 28 [(.slc (List.map encAtom l))] (.slc (List.map encAtom r)) := by
  obtain ⟨hc, h⟩ := ite_some h
  cases h
  refine ⟨Tryz.call28, ?_⟩
  refine pure_of_awp Tryz.func28 rfl Tryz.ntmps28 (by simp) fun X w hT => ?_
  show AWp _ _ _ ⟨[(0, .p (.slc (List.map encAtom l)))], []⟩
  refine awp_seq ?_
  refine awp_region ?_
  refine AL_upto (by exact rfl) (by simp only [go_sem, seval]; exact rfl) ?_
  refine AL_nil ?_
  refine thenA_n ?_
  refine awp_seq ?_
  refine awp_seq ?_
  refine awp_region ?_
  refine AL_take 1 (by simp only [go_sem, seval]; exact rfl) ?_
  refine AL_nileq (by simp only [go_sem, seval]; exact rfl) (by simp only [go_sem, seval]) Tryz.underlying22 rfl ?_
  intro b hb
  refine AL_nil ?_
  refine thenA_n ?_
  cases b
  · refine awp_cf (by simp only [go_sem, seval]) ?_
    refine awp_skip ?_
    refine thenA_n ?_
    refine awp_seq ?_
    refine awp_region ?_
    refine AL_upto (by exact rfl) (by simp only [go_sem, seval, hc]; exact rfl) ?_
    refine AL_nil ?_
    refine thenA_n ?_
    refine awp_ret ?_
    refine retQ_ret (by simp only [Tryz.results28]; simp only [go_sem, seval]; exact rfl) ?_
    simp only [go_sem, seval]
    all_goals ((repeat' refine And.intro ?_ ?_) <;> first | rfl | (simp; done) | (simp; rfl) | (simp [*]; done) | (simp [*]; rfl))
  · refine awp_ct (by simp only [go_sem, seval]) ?_
    have hl : l = [] := by
      cases l with
      | nil => rfl
      | cons x l => exact absurd (hb (by simp)) (by simp)
    subst hl
    refine awp_seq ?_
    refine awp_region ?_
    refine AL_upto (by exact rfl) (by simp only [go_sem, seval]; exact rfl) ?_
    refine AL_nil ?_
    refine thenA_n ?_
    refine awp_ret ?_
    refine thenA_ret ?_
    refine retQ_ret (by simp only [Tryz.results28]; simp only [go_sem, seval]; exact rfl) ?_
    simp only [go_sem, seval]
    all_goals ((repeat' refine And.intro ?_ ?_) <;> first | rfl | (simp; done) | (simp; rfl) | (simp [*]; done) | (simp [*]; rfl))
end Go.Proofs.YtlaodgbkpmdhoaaGreatDoor
set_option linter.unusedVariables false
set_option linter.unusedSimpArgs false
namespace Go.Proofs.YtlaodgbkpmdhoaaGreatDoor
open Go Go.Ab
set_option maxHeartbeats 4000000 in
theorem drosslaw18_copied_con {D : Prop} (d1 : Denial) (r2 : Denial) (h : drosslaw18_copied d1 = some r2) : Con D Tryz.prog 13 [(encDenial d1)] (encDenial r2) := by
 refine zP Tryz.call13 Tryz.func13 rfl Tryz.ntmps13 fun X w hT => ?_
 simp only [drosslaw18_copied] at h
 refine zs (zr ?_)
 refine zU (zl (zn (zs (zd ?_))))
 refine yU ?_
 obtain ⟨r3, h4, h⟩ := zB h
 refine yc (slices_Clone_Atom_con d1.Atoms _ h4) ?_
 refine yU ?_
 refine yd (zn (zq ?_))
 cases h
 exact zT Tryz.results13
end Go.Proofs.YtlaodgbkpmdhoaaGreatDoor
set_option linter.unusedVariables false
set_option linter.unusedSimpArgs false
namespace Go.Proofs.YtlaodgbkpmdhoaaGreatDoor
open Go Go.Ab
set_option maxHeartbeats 4000000 in
theorem drossref03_Table_con {D : Prop} (x1 : Drossref03_Recipe) (m2 : Int) (r3 : Table × Bool) (h : drossref03_Table x1 m2 = some r3) : Con D Tryz.prog 15 [(encDrossref03_Recipe x1), (.int .i64 m2)] (.tup [(encTable r3.1), (.bool r3.2)]) := by
 refine zP Tryz.call15 Tryz.func15 rfl Tryz.ntmps15 fun X w hT => ?_
 simp only [drossref03_Table] at h
 refine zs (zr ?_)
 refine zU (zl (zn (zs (zs (zr ?_)))))
 refine zU (zl (zn ?_))
 rcases zI h with ⟨h4, h⟩ | ⟨h4, h⟩
 refine zi (zs (zr ?_))
 refine zU (zl (zn (zq (zt ?_))))
 cases h
 exact zT Tryz.results15
 refine zj (zk (zn (zs (zr ?_))))
 refine zU ?_
 obtain ⟨r5, h6, h⟩ := zB h
 refine zc (drossref03_Wide_con x1 (IntKind.i64.wrap (Int.tmod x1.Attrs 6)) _ h6) ?_
 refine zU (zl (zn (zq ?_)))
 cases h
 exact zT Tryz.results15
end Go.Proofs.YtlaodgbkpmdhoaaGreatDoor
set_option linter.unusedVariables false
set_option linter.unusedSimpArgs false
namespace Go.Proofs.YtlaodgbkpmdhoaaGreatDoor
open Go Go.Ab
set_option maxHeartbeats 4000000 in
theorem drossref18_side_con {D : Prop} (n1 : Int) (v2 : Int) (s3 : Drossref18_Side) (r4 : Term) (h : drossref18_side n1 v2 s3 = some r4) : Con D Tryz.prog 75 [(.int .i64 n1), (.int .i64 v2), (encDrossref18_Side s3)] (encTerm r4) := by
 refine zP Tryz.call75 Tryz.func75 rfl Tryz.ntmps75 fun X w hT => ?_
 simp only [drossref18_side] at h
 refine zs (zr ?_)
 refine zU (zl (zn (zs (zr ?_))))
 obtain ⟨h5, h⟩ := ite_none h
 refine zU (zl (zn (zs ?_)))
 obtain ⟨t6, h7, h⟩ := zB h
 refine zJ (fun (o8 : Bool) => tE (cX Tryz.f75 X w D hT) .normal ⟨[(0, .p (.int .i64 n1)), (5, .loc 5 1 0 0), (6, .loc 6 1 0 0), (7, .p (.int .i64 (Int.tmod (IntKind.i64.wrap s3.Var) (IntKind.i64.wrap (v2 + 1))))), (19, .p (.bool o8))], [(5, .arr 122 2 1 [.p (encDrossref18_Side s3)]), (6, .arr 29 5 1 [.p (.agg [.int .i64 0, .int .i64 0, .int .i64 0, .int .i64 0, .str []])])]⟩) t6 ?_ ?_
 replace h := h7
 clear h7
 refine zr ?_
 refine zU ?_
 rcases zI h with ⟨h9, h⟩ | ⟨h9, h⟩
 refine zw 16 true ?_
 refine zh ?_
 refine zU (zl ?_)
 cases h
 exact ⟨rfl, zE⟩
 replace h := h.symm
 refine zw 16 false ?_
 refine zg ?_
 refine zg ?_
 refine zU (zl ?_)
 cases h
 exact ⟨rfl, zE⟩
 try simp only at h
 refine zA (zn ?_)
 rcases zI h with ⟨h10, h⟩ | ⟨h10, h⟩
 refine zi (zs (zr ?_))
 refine zU ?_
 obtain ⟨r11, h12, h⟩ := zB h
 refine zc (drossref01_Of_con s3.Code _ h12) ?_
 refine zU (zl (zn (zq (zt ?_))))
 cases h
 exact zT Tryz.results75
 refine zj (zk (zn (zs (zr ?_))))
 obtain ⟨h13, h⟩ := ite_none h
 refine zU (zl (zn (zq ?_)))
 cases h
 exact zT Tryz.results75
end Go.Proofs.YtlaodgbkpmdhoaaGreatDoor
set_option linter.unusedVariables false
set_option linter.unusedSimpArgs false
namespace Go.Proofs.YtlaodgbkpmdhoaaGreatDoor
open Go Go.Ab
set_option maxRecDepth 20000 in
set_option maxHeartbeats 4000000 in
theorem drossref18_Of_con {D : Prop} (n1 : Int) (r2 : Drossref18_Recipe) (r3 : Denial × Bool) (h : drossref18_Of n1 r2 = some r3) : Con D Tryz.prog 26 [(.int .i64 n1), (encDrossref18_Recipe r2)] (.tup [(encDenial r3.1), (.bool r3.2)]) := by
 refine zP Tryz.call26 Tryz.func26 rfl Tryz.ntmps26 fun X w hT => ?_
 simp only [drossref18_Of] at h
 refine zs (zr ?_)
 refine zU (zl (zn (zs (zr ?_))))
 refine zU (zl (zn (zs (zs (zr ?_)))))
 refine zU (zl (zn (zb ?_)))
 obtain ⟨d4, h5, h⟩ := zB h
 refine zO (fun (s : List Atom × Int) => ⟨[(0, .p (.int .i64 n1)), (3, .loc 3 1 0 0), (4, .loc 4 1 0 0), (6, .loc 6 1 0 0), (7, .p (.int .i64 s.2))], [(3, .arr 72 2 1 [.p (encDrossref18_Recipe r2)]), (4, .arr 24 2 1 [.agg [.p (.int .i64 0), .nils]]), (6, .arr 24 2 1 [.agg [.p (.int .i64 (IntKind.i64.wrap (1 + (IntKind.i64.wrap (Int.tmod r2.Vars 3))))), .own 48 1 0 s.1.length]]), (48, .arr 31 11 1 (List.map AV.p (List.map encAtom s.1)))]⟩) (fun (o6 : List Atom) => tE (cX Tryz.f26 X w D hT) (.exit 0) ⟨[(3, .loc 3 1 0 0), (4, .loc 4 1 0 0), (6, .loc 6 1 0 0)], [(3, .arr 72 2 1 [.p (encDrossref18_Recipe r2)]), (4, .arr 24 2 1 [.agg [.p (.int .i64 0), .nils]]), (6, .arr 24 2 1 [.agg [.p (.int .i64 (IntKind.i64.wrap (1 + (IntKind.i64.wrap (Int.tmod r2.Vars 3))))), .own 48 1 0 o6.length]]), (48, .arr 31 11 1 (List.map AV.p (List.map encAtom o6)))]⟩) h5 ?_ ?_
 clear h h5
 intro s x h
 obtain ⟨d7, i8⟩ := s
 simp only [drossref18_Of_l1] at h
 dsimp only
 refine zs (zs (zr ?_))
 refine zU (zl (zn ?_))
 rcases zI h with ⟨h9, h⟩ | ⟨h9, h⟩
 refine zi (zk (zn (zs (zb (zs (zr ?_))))))
 obtain ⟨x10, h11, h11a, h11b, h⟩ := zX h
 refine zU (zl (zn (zd ?_)))
 refine yU ?_
 obtain ⟨r12, h13, h⟩ := zB h
 refine yc (drossref18_side_con n1 (IntKind.i64.wrap (1 + (IntKind.i64.wrap (Int.tmod r2.Vars 3)))) x10.Left _ h13) ?_
 refine yU ?_
 obtain ⟨r14, h15, h⟩ := zB h
 refine yc (drossref18_side_con n1 (IntKind.i64.wrap (1 + (IntKind.i64.wrap (Int.tmod r2.Vars 3)))) x10.Right _ h15) ?_
 obtain ⟨h16, h⟩ := ite_some h
 refine yU ?_
 refine yd (yn (zn (zr ?_)))
 refine zU (zl ?_)
 cases h
 exact ⟨rfl, zE⟩
 refine zj (zx (ze ?_))
 cases h
 exact ⟨rfl, zE⟩
 try simp only at h
 refine zA (yh (zn (zs (zd ?_))))
 refine yU ?_
 refine yd (zn (zq ?_))
 cases h
 exact zT Tryz.results26
end Go.Proofs.YtlaodgbkpmdhoaaGreatDoor
set_option linter.unusedVariables false
set_option linter.unusedSimpArgs false
namespace Go.Proofs.YtlaodgbkpmdhoaaGreatDoor
open Go Go.Ab
set_option maxHeartbeats 4000000 in
theorem drossref01_Valid_con {D : Prop} (v1 : Value) (r2 : Bool) (h : drossref01_Valid v1 = some r2) : Con D Tryz.prog 107 [(encValue v1)] (.bool r2) := by
 refine zP Tryz.call107 Tryz.func107 rfl Tryz.ntmps107 fun X w hT => ?_
 simp only [drossref01_Valid] at h
 refine zs (zr ?_)
 refine zU (zl (zn (zs (zs (zr ?_)))))
 refine zU (zl (zn (zb (zs (zr ?_)))))
 refine zU (zl (zn ?_))
 rcases zI h with ⟨h3, h⟩ | ⟨h3, h⟩
 refine zi (zs (zr ?_))
 refine zU ?_
 rcases zI h with ⟨h4, h⟩ | ⟨h4, h⟩
 replace h := h.symm
 refine zw 10 true ?_
 refine zg ?_
 refine zg ?_
 refine zg ?_
 refine zU (zl (zn (zq (yr (zt ?_)))))
 cases h
 exact zT Tryz.results107
 refine zw 10 false ?_
 refine zh ?_
 refine zU (zl (zn (zq (yr (zt ?_)))))
 cases h
 exact zT Tryz.results107
 refine zj (zs (zr ?_))
 refine zU (zl (zn ?_))
 rcases zI h with ⟨h5, h⟩ | ⟨h5, h⟩
 refine zi (zs (zr ?_))
 refine zU (zl (zn (zq (yr (zt ?_)))))
 cases h
 exact zT Tryz.results107
 refine zj (zs (zr ?_))
 refine zU (zl (zn ?_))
 rcases zI h with ⟨h6, h⟩ | ⟨h6, h⟩
 refine zi (zs (zr ?_))
 refine zU ?_
 rcases zI h with ⟨h7, h⟩ | ⟨h7, h⟩
 replace h := h.symm
 refine zw 25 true ?_
 refine zg ?_
 refine zg ?_
 refine zg ?_
 refine zg ?_
 refine zU (zl (zn (zq (yr (zt ?_)))))
 cases h
 exact zT Tryz.results107
 refine zw 25 false ?_
 refine zh ?_
 refine zU (zl (zn (zq (yr (zt ?_)))))
 cases h
 exact zT Tryz.results107
 refine zj (zk (yn (zn (zs (zr ?_)))))
 refine zU ?_
 rcases zI h with ⟨h8, h⟩ | ⟨h8, h⟩
 refine zw 34 true ?_
 refine zg ?_
 refine zg ?_
 refine zg ?_
 refine zU ?_
 rcases zI h with ⟨h9, h⟩ | ⟨h9, h⟩
 replace h := h.symm
 refine zw 39 true ?_
 refine zg ?_
 refine zg ?_
 refine zg ?_
 refine zU (zl (zn (zq ?_)))
 cases h
 exact zT Tryz.results107
 refine zw 39 false ?_
 refine zh ?_
 refine zU (zl (zn (zq ?_)))
 cases h
 exact zT Tryz.results107
 refine zw 34 false ?_
 refine zh ?_
 refine zU ?_
 refine zh ?_
 refine zU (zl (zn (zq ?_)))
 cases h
 exact zT Tryz.results107
end Go.Proofs.YtlaodgbkpmdhoaaGreatDoor
set_option linter.unusedVariables false
set_option linter.unusedSimpArgs false
namespace Go.Proofs.YtlaodgbkpmdhoaaGreatDoor
open Go Go.Ab
set_option maxRecDepth 20000 in
set_option maxHeartbeats 4000000 in
theorem drossref18_term_con {D : Prop} (n1 : Int) (v2 : Int) (t3 : Term) (r4 : Bool) (h : drossref18_term n1 v2 t3 = some r4) : Con D Tryz.prog 55 [(.int .i64 n1), (.int .i64 v2), (encTerm t3)] (.bool r4) := by
 refine zP Tryz.call55 Tryz.func55 rfl Tryz.ntmps55 fun X w hT => ?_
 simp only [drossref18_term] at h
 refine zs (zr ?_)
 refine zU (zl (zn (zs (zs (zr ?_)))))
 refine zU (zl (zn ?_))
 rcases zI h with ⟨h5, h⟩ | ⟨h5, h⟩
 refine zi (zs (zr ?_))
 refine zU ?_
 rcases zI h with ⟨h6, h⟩ | ⟨h6, h⟩
 refine zw 13 true ?_
 refine zg ?_
 refine zg ?_
 obtain ⟨r7, h8, h⟩ := zB h
 refine zc (drossref01_Valid_con t3.Value _ h8) ?_
 refine zU (zl (zn (zq (zt ?_))))
 cases h
 exact zT Tryz.results55
 refine zw 13 false ?_
 refine zh ?_
 refine zU (zl (zn (zq (zt ?_))))
 cases h
 exact zT Tryz.results55
 refine zj (zk (zn (zs (zr ?_))))
 refine zU ?_
 rcases zI h with ⟨h9, h⟩ | ⟨h9, h⟩
 refine zw 21 true ?_
 refine zg ?_
 refine zg ?_
 refine zg ?_
 refine zg ?_
 refine zU ?_
 rcases zI h with ⟨h10, h⟩ | ⟨h10, h⟩
 refine zw 27 true ?_
 refine zg ?_
 refine zg ?_
 refine zg ?_
 refine zU ?_
 rcases zI h with ⟨h11, h⟩ | ⟨h11, h⟩
 refine zw 32 true ?_
 refine zg ?_
 refine zg ?_
 refine zg ?_
 refine zg ?_
 refine zU ?_
 rcases zI h with ⟨h12, h⟩ | ⟨h12, h⟩
 replace h := h.symm
 refine zw 38 true ?_
 refine zg ?_
 refine zg ?_
 refine zg ?_
 refine zg ?_
 refine zU (zl (zn (zq ?_)))
 cases h
 exact zT Tryz.results55
 refine zw 38 false ?_
 refine zh ?_
 refine zU (zl (zn (zq ?_)))
 cases h
 exact zT Tryz.results55
 refine zw 32 false ?_
 refine zh ?_
 refine zU ?_
 refine zh ?_
 refine zU (zl (zn (zq ?_)))
 cases h
 exact zT Tryz.results55
 refine zw 27 false ?_
 refine zh ?_
 refine zU ?_
 refine zh ?_
 refine zU ?_
 refine zh ?_
 refine zU (zl (zn (zq ?_)))
 cases h
 exact zT Tryz.results55
 refine zw 21 false ?_
 refine zh ?_
 refine zU ?_
 refine zh ?_
 refine zU ?_
 refine zh ?_
 refine zU ?_
 refine zh ?_
 refine zU (zl (zn (zq ?_)))
 cases h
 exact zT Tryz.results55
end Go.Proofs.YtlaodgbkpmdhoaaGreatDoor
set_option linter.unusedVariables false
set_option linter.unusedSimpArgs false
namespace Go.Proofs.YtlaodgbkpmdhoaaGreatDoor
open Go Go.Ab
set_option maxRecDepth 20000 in
set_option maxHeartbeats 4000000 in
theorem drossref18_Valid_con {D : Prop} (n1 : Int) (d2 : Denial) (r3 : Bool) (h : drossref18_Valid n1 d2 = some r3) : Con D Tryz.prog 14 [(.int .i64 n1), (encDenial d2)] (.bool r3) := by
 refine zP Tryz.call14 Tryz.func14 rfl Tryz.ntmps14 fun X w hT => ?_
 simp only [drossref18_Valid] at h
 refine zs (zr ?_)
 refine zU (zl (zn (zs (zs (zr ?_)))))
 refine zU ?_
 rcases zI h with ⟨h4, h⟩ | ⟨h4, h⟩
 refine zw 10 true ?_
 refine zh ?_
 refine zU ?_
 refine zh ?_
 refine zU (zl (zn ?_))
 refine zi (zs (zr ?_))
 refine zU (zl (zn (zq (zt ?_))))
 cases h
 exact zT Tryz.results14
 refine zw 10 false ?_
 refine zg ?_
 refine zg ?_
 refine zg ?_
 refine zU ?_
 rcases zI h with ⟨h5, h⟩ | ⟨h5, h⟩
 refine zw 15 true ?_
 refine zh ?_
 refine zU (zl (zn ?_))
 refine zi (zs (zr ?_))
 refine zU (zl (zn (zq (zt ?_))))
 cases h
 exact zT Tryz.results14
 refine zw 15 false ?_
 refine zg ?_
 refine zg ?_
 refine zg ?_
 refine zg ?_
 refine zU (zl (zn ?_))
 rcases zI h with ⟨h6, h⟩ | ⟨h6, h⟩
 refine zi (zs (zr ?_))
 refine zU (zl (zn (zq (zt ?_))))
 cases h
 exact zT Tryz.results14
 refine zj (zk (zn (zs (zs (zr ?_)))))
 refine zU (zl (zn (zb ?_)))
 obtain ⟨o7, h8, h⟩ := zB h
 refine zO (fun (s : Int) => ⟨[(0, .p (.int .i64 n1)), (3, .loc 3 1 0 0), (5, .p (.int .i64 s))], [(3, .arr 24 2 1 [.p (encDenial d2)])]⟩) (fun (o : (Unit) ⊕ (Bool)) => match o with | .inl o9 => tE (cX Tryz.f14 X w D hT) (.exit 0) ⟨[], []⟩ | .inr o10 => tR Tryz.prog Tryz.f14 (.bool o10)) h8 ?_ ?_
 clear h h4 h5 h6 h8
 intro i11 x h
 simp only [drossref18_Valid_l1] at h
 refine zs (zs (zr ?_))
 refine zU (zl (zn ?_))
 rcases zI h with ⟨h12, h⟩ | ⟨h12, h⟩
 refine zi (zk (zn (zs (zb (zs (zr ?_))))))
 obtain ⟨x13, h14, h14a, h14b, h⟩ := zX h
 refine zU (zl (zn (zs (zr ?_))))
 refine zU ?_
 rcases zI h with ⟨h15, h⟩ | ⟨h15, h⟩
 refine zw 36 true ?_
 refine zh ?_
 refine zU ?_
 refine zh ?_
 refine zU ?_
 refine zh ?_
 refine zU (zl (zn ?_))
 refine zi (zs (zr ?_))
 refine zU (zl (zn (zq (yr (zt ?_)))))
 cases h
 exact ⟨rfl, zT Tryz.results14⟩
 refine zw 36 false ?_
 refine zg ?_
 refine zg ?_
 refine zg ?_
 refine zU ?_
 rcases zI h with ⟨h16, h⟩ | ⟨h16, h⟩
 refine zw 41 true ?_
 refine zh ?_
 refine zU ?_
 refine zh ?_
 refine zU (zl (zn ?_))
 refine zi (zs (zr ?_))
 refine zU (zl (zn (zq (yr (zt ?_)))))
 cases h
 exact ⟨rfl, zT Tryz.results14⟩
 refine zw 41 false ?_
 refine zg ?_
 refine zg ?_
 refine zg ?_
 refine zg ?_
 refine zg ?_
 obtain ⟨r17, h18, h⟩ := zB h
 refine zc (drossref18_term_con n1 d2.Vars x13.Left _ h18) ?_
 refine zg ?_
 refine zU ?_
 rcases zI h with ⟨h19, h⟩ | ⟨h19, h⟩
 refine zw 50 false ?_
 refine zg ?_
 refine zg ?_
 refine zg ?_
 refine zg ?_
 refine zg ?_
 obtain ⟨r20, h21, h⟩ := zB h
 refine zc (drossref18_term_con n1 d2.Vars x13.Right _ h21) ?_
 refine zg ?_
 refine zU (zl (zn ?_))
 rcases zI h with ⟨h22, h⟩ | ⟨h22, h⟩
 refine zj (zk (yn (zn (zr ?_))))
 refine zU (zl ?_)
 cases h
 exact ⟨rfl, zE⟩
 refine zi (zs (zr ?_))
 refine zU (zl (zn (zq (yr (zt ?_)))))
 cases h
 exact ⟨rfl, zT Tryz.results14⟩
 refine zw 50 true ?_
 refine zh ?_
 refine zU (zl (zn ?_))
 refine zi (zs (zr ?_))
 refine zU (zl (zn (zq (yr (zt ?_)))))
 cases h
 exact ⟨rfl, zT Tryz.results14⟩
 refine zj (zx (ze ?_))
 cases h
 exact ⟨rfl, zE⟩
 rcases o7 with ⟨⟩ | r23
 try simp only at h
 refine zA (yh (zn (zs (zr ?_))))
 refine zU (zl (zn (zq ?_)))
 cases h
 exact zT Tryz.results14
 try simp only at h
 refine zZ fun s hq => ?_
 refine yr (zt ?_)
 cases h
 exact hq
end Go.Proofs.YtlaodgbkpmdhoaaGreatDoor
set_option linter.unusedVariables false
set_option linter.unusedSimpArgs false
namespace Go.Proofs.YtlaodgbkpmdhoaaGreatDoor
open Go Go.Ab
set_option maxRecDepth 20000 in
set_option maxHeartbeats 4000000 in
theorem drossref03_letter_con {D : Prop} (c1 : Int) (r2 : Bool) (h : drossref03_letter c1 = some r2) : Con D Tryz.prog 167 [(.int .u8 c1)] (.bool r2) := by
 refine zP Tryz.call167 Tryz.func167 rfl Tryz.ntmps167 fun X w hT => ?_
 simp only [drossref03_letter] at h
 refine zs (zr ?_)
 refine zU (zl (zn (zs (zr ?_))))
 refine zU ?_
 rcases zI h with ⟨h3, h⟩ | ⟨h3, h⟩
 refine zw 5 true ?_
 refine zg ?_
 refine zg ?_
 refine zU ?_
 rcases zI h with ⟨h4, h⟩ | ⟨h4, h⟩
 refine zw 9 true ?_
 refine zh ?_
 refine zU ?_
 refine zh ?_
 refine zU (zl (zn (zq ?_)))
 cases h
 exact zT Tryz.results167
 refine zw 9 false ?_
 refine zg ?_
 refine zg ?_
 refine zg ?_
 rcases zI h with ⟨h5, h⟩ | ⟨h5, h⟩
 refine zw 12 true ?_
 refine zg ?_
 refine zg ?_
 refine zg ?_
 refine zU ?_
 rcases zI h with ⟨h6, h⟩ | ⟨h6, h⟩
 refine zw 17 true ?_
 refine zh ?_
 refine zU (zl (zn (zq ?_)))
 cases h
 exact zT Tryz.results167
 replace h := h.symm
 refine zw 17 false ?_
 refine zg ?_
 refine zg ?_
 refine zU (zl (zn (zq ?_)))
 cases h
 exact zT Tryz.results167
 replace h := h.symm
 refine zw 12 false ?_
 refine zh ?_
 refine zg ?_
 refine zU ?_
 refine zg ?_
 refine zg ?_
 refine zU (zl (zn (zq ?_)))
 cases h
 exact zT Tryz.results167
 refine zw 5 false ?_
 refine zh ?_
 refine zU ?_
 refine zg ?_
 refine zg ?_
 refine zg ?_
 rcases zI h with ⟨h7, h⟩ | ⟨h7, h⟩
 refine zw 12 true ?_
 refine zg ?_
 refine zg ?_
 refine zg ?_
 refine zU ?_
 rcases zI h with ⟨h8, h⟩ | ⟨h8, h⟩
 refine zw 17 true ?_
 refine zh ?_
 refine zU (zl (zn (zq ?_)))
 cases h
 exact zT Tryz.results167
 replace h := h.symm
 refine zw 17 false ?_
 refine zg ?_
 refine zg ?_
 refine zU (zl (zn (zq ?_)))
 cases h
 exact zT Tryz.results167
 replace h := h.symm
 refine zw 12 false ?_
 refine zh ?_
 refine zg ?_
 refine zU ?_
 refine zg ?_
 refine zg ?_
 refine zU (zl (zn (zq ?_)))
 cases h
 exact zT Tryz.results167
end Go.Proofs.YtlaodgbkpmdhoaaGreatDoor
set_option linter.unusedVariables false
set_option linter.unusedSimpArgs false
namespace Go.Proofs.YtlaodgbkpmdhoaaGreatDoor
open Go Go.Ab
set_option maxRecDepth 20000 in
set_option maxHeartbeats 4000000 in
theorem drossref03_Name_con {D : Prop} (s1 : List UInt8) (r2 : Bool) (h : drossref03_Name s1 = some r2) : Con D Tryz.prog 131 [(.str s1)] (.bool r2) := by
 refine zP Tryz.call131 Tryz.func131 rfl Tryz.ntmps131 fun X w hT => ?_
 simp only [drossref03_Name] at h
 refine zs (zr ?_)
 refine zU (zl (zn (zs (zs (zr ?_)))))
 refine zU ?_
 rcases zI h with ⟨h3, h⟩ | ⟨h3, h⟩
 refine zw 7 true ?_
 refine zh ?_
 refine zU ?_
 refine zh ?_
 refine zU ?_
 refine zh ?_
 refine zU (zl (zn ?_))
 refine zi (zs (zr ?_))
 refine zU (zl (zn (zq (zt ?_))))
 cases h
 exact zT Tryz.results131
 refine zw 7 false ?_
 refine zg ?_
 refine zg ?_
 refine zg ?_
 refine zU ?_
 rcases zI h with ⟨h4, h⟩ | ⟨h4, h⟩
 refine zw 12 true ?_
 refine zh ?_
 refine zU ?_
 refine zh ?_
 refine zU (zl (zn ?_))
 refine zi (zs (zr ?_))
 refine zU (zl (zn (zq (zt ?_))))
 cases h
 exact zT Tryz.results131
 refine zw 12 false ?_
 refine zg ?_
 obtain ⟨c5, h6, h6l, h6L, h⟩ := zY 0 h
 refine zg ?_
 obtain ⟨r7, h8, h⟩ := zB h
 refine zc (drossref03_letter_con ((c5.toNat : Nat) : Int) _ h8) ?_
 refine zg ?_
 refine zU ?_
 rcases zI h with ⟨h9, h⟩ | ⟨h9, h⟩
 refine zw 18 false ?_
 refine zg ?_
 refine zg ?_
 refine zU (zl (zn ?_))
 rcases zI h with ⟨h10, h⟩ | ⟨h10, h⟩
 refine zi (zs (zr ?_))
 refine zU (zl (zn (zq (zt ?_))))
 cases h
 exact zT Tryz.results131
 refine zj (zk (zn (zs (zs (zr ?_)))))
 refine zU (zl (zn (zb ?_)))
 obtain ⟨o11, h12, h⟩ := zB h
 refine zO (fun (s : Int) => ⟨[(0, .p (.str s1)), (3, .p (.int .i64 s))], []⟩) (fun (o : (Unit) ⊕ (Bool)) => match o with | .inl o13 => tE (cX Tryz.f131 X w D hT) (.exit 0) ⟨[], []⟩ | .inr o14 => tR Tryz.prog Tryz.f131 (.bool o14)) h12 ?_ ?_
 clear h h3 h4 h6 h6l h6L h8 h9 h10 h12
 intro i15 x h
 simp only [drossref03_Name_l1] at h
 refine zs (zs (zr ?_))
 refine zU (zl (zn ?_))
 rcases zI h with ⟨h16, h⟩ | ⟨h16, h⟩
 refine zi (zk (zn (zs (zb (zs (zr ?_))))))
 obtain ⟨c17, h18, h18a, h18b, h⟩ := zX h
 refine zU ?_
 obtain ⟨r19, h20, h⟩ := zB h
 refine zc (drossref03_letter_con ((c17.toNat : Nat) : Int) _ h20) ?_
 refine zU ?_
 rcases zI h with ⟨h21, h⟩ | ⟨h21, h⟩
 refine zw 33 false ?_
 refine zh ?_
 refine zU (zl (zn ?_))
 refine zj (zk (yn (zn (zr ?_))))
 refine zU (zl ?_)
 cases h
 exact ⟨rfl, zE⟩
 refine zw 33 true ?_
 refine zg ?_
 refine zg ?_
 refine zg ?_
 refine zg ?_
 refine zg ?_
 rcases zI h with ⟨h22, h⟩ | ⟨h22, h⟩
 replace h := h.symm
 refine zw 38 true ?_
 refine zh ?_
 refine zg ?_
 refine zU (zl (zn ?_))
 refine zi (zs (zr ?_))
 refine zU (zl (zn (zq (yr (zt ?_)))))
 cases h
 exact ⟨rfl, zT Tryz.results131⟩
 refine zw 38 false ?_
 refine zg ?_
 refine zg ?_
 refine zg ?_
 refine zg ?_
 refine zg ?_
 refine zU (zl (zn ?_))
 rcases zI h with ⟨h23, h⟩ | ⟨h23, h⟩
 refine zi (zs (zr ?_))
 refine zU (zl (zn (zq (yr (zt ?_)))))
 cases h
 exact ⟨rfl, zT Tryz.results131⟩
 refine zj (zk (yn (zn (zr ?_))))
 refine zU (zl ?_)
 cases h
 exact ⟨rfl, zE⟩
 refine zj (zx (ze ?_))
 cases h
 exact ⟨rfl, zE⟩
 rcases o11 with ⟨⟩ | r24
 try simp only at h
 refine zA (yh (zn (zs (zr ?_))))
 refine zU (zl (zn (zq ?_)))
 cases h
 exact zT Tryz.results131
 try simp only at h
 refine zZ fun s hq => ?_
 refine yr (zt ?_)
 cases h
 exact hq
 refine zw 18 true ?_
 refine zh ?_
 refine zU (zl (zn ?_))
 refine zi (zs (zr ?_))
 refine zU (zl (zn (zq (zt ?_))))
 cases h
 exact zT Tryz.results131
end Go.Proofs.YtlaodgbkpmdhoaaGreatDoor
set_option linter.unusedVariables false
set_option linter.unusedSimpArgs false
namespace Go.Proofs.YtlaodgbkpmdhoaaGreatDoor
open Go Go.Ab
set_option maxHeartbeats 4000000 in
theorem drossref03_Attr_con {D : Prop} (l1 : List (List UInt8)) (n2 : List UInt8) (r3 : Int) (h : drossref03_Attr l1 n2 = some r3) : Con D Tryz.prog 168 [(.slc (List.map PV.str l1)), (.str n2)] (.int .i64 r3) := by
 refine zP Tryz.call168 Tryz.func168 rfl Tryz.ntmps168 fun X w hT => ?_
 simp only [drossref03_Attr] at h
 refine zs (zr ?_)
 refine zU (zl (zn (zs (zs (zr ?_)))))
 refine zU (zl (zn (zb ?_)))
 obtain ⟨o4, h5, h⟩ := zB h
 refine zO (fun (s : Int) => ⟨[(0, .p (.slc (List.map PV.str l1))), (1, .p (.str n2)), (5, .p (.int .i64 s))], []⟩) (fun (o : (Unit) ⊕ (Int)) => match o with | .inl o6 => tE (cX Tryz.f168 X w D hT) (.exit 0) ⟨[], []⟩ | .inr o7 => tR Tryz.prog Tryz.f168 (.int .i64 o7)) h5 ?_ ?_
 clear h h5
 intro i8 x h
 simp only [drossref03_Attr_l1] at h
 refine zs (zs (zr ?_))
 refine zU (zl (zn ?_))
 rcases zI h with ⟨h9, h⟩ | ⟨h9, h⟩
 refine zi (zk (zn (zs (zb (zs (zr ?_))))))
 obtain ⟨x10, h11, h11a, h11b, h⟩ := zX h
 refine zU (zl (zn ?_))
 rcases zI h with ⟨h12, h⟩ | ⟨h12, h⟩
 refine zi (zs (zr ?_))
 refine zU (zl (zn (zq (yr (zt ?_)))))
 cases h
 exact ⟨rfl, zT Tryz.results168⟩
 refine zj (zk (yn (zn (zr ?_))))
 refine zU (zl ?_)
 cases h
 exact ⟨rfl, zE⟩
 refine zj (zx (ze ?_))
 cases h
 exact ⟨rfl, zE⟩
 rcases o4 with ⟨⟩ | r13
 try simp only at h
 refine zA (yh (zn (zs (zr ?_))))
 refine zU (zl (zn (zq ?_)))
 cases h
 exact zT Tryz.results168
 try simp only at h
 refine zZ fun s hq => ?_
 refine yr (zt ?_)
 cases h
 exact hq
end Go.Proofs.YtlaodgbkpmdhoaaGreatDoor
set_option linter.unusedVariables false
set_option linter.unusedSimpArgs false
namespace Go.Proofs.YtlaodgbkpmdhoaaGreatDoor
open Go Go.Ab
set_option maxRecDepth 20000 in
set_option maxHeartbeats 4000000 in
theorem drossref03_Names_con {D : Prop} (l1 : List (List UInt8)) (r2 : Bool) (h : drossref03_Names l1 = some r2) : Con D Tryz.prog 132 [(.slc (List.map PV.str l1))] (.bool r2) := by
 refine zP Tryz.call132 Tryz.func132 rfl Tryz.ntmps132 fun X w hT => ?_
 simp only [drossref03_Names] at h
 refine zs (zr ?_)
 refine zU (zl (zn (zs (zs (zr ?_)))))
 refine zU (zl (zn (zb ?_)))
 obtain ⟨o3, h4, h⟩ := zB h
 refine zO (fun (s : Int) => ⟨[(0, .p (.slc (List.map PV.str l1))), (3, .p (.int .i64 s))], []⟩) (fun (o : (Unit) ⊕ (Bool)) => match o with | .inl o5 => tE (cX Tryz.f132 X w D hT) (.exit 0) ⟨[], []⟩ | .inr o6 => tR Tryz.prog Tryz.f132 (.bool o6)) h4 ?_ ?_
 clear h h4
 intro i7 x h
 simp only [drossref03_Names_l1] at h
 refine zs (zs (zr ?_))
 refine zU (zl (zn ?_))
 rcases zI h with ⟨h8, h⟩ | ⟨h8, h⟩
 refine zi (zk (zn (zs (zb (zs (zd ?_))))))
 obtain ⟨x9, h10, h10a, h10b, h⟩ := zX h
 refine yU ?_
 obtain ⟨r11, h12, h⟩ := zB h
 refine yc (drossref03_Name_con x9 _ h12) ?_
 refine yU ?_
 rcases zI h with ⟨h13, h⟩ | ⟨h13, h⟩
 refine yw 16 false ?_
 refine yg ?_
 refine yg ?_
 obtain ⟨h14, h⟩ := ite_some h
 obtain ⟨h15, h⟩ := ite_some h
 refine yg ?_
 refine yg ?_
 refine yg ?_
 refine yg ?_
 refine yg ?_
 obtain ⟨r16, h17, h⟩ := zB h
 refine yc (drossref03_Attr_con (l1.take (i7.toNat)) x9 _ h17) ?_
 refine yg ?_
 refine yU ?_
 refine yd (zn ?_)
 rcases zI h with ⟨h18, h⟩ | ⟨h18, h⟩
 refine zi (zs (zr ?_))
 refine zU (zl (zn (zq (yr (zt ?_)))))
 cases h
 exact ⟨rfl, zT Tryz.results132⟩
 refine zj (zk (yn (zn (zr ?_))))
 refine zU (zl ?_)
 cases h
 exact ⟨rfl, zE⟩
 refine yw 16 true ?_
 refine yk ?_
 refine yU ?_
 refine yd (zn ?_)
 refine zi (zs (zr ?_))
 refine zU (zl (zn (zq (yr (zt ?_)))))
 cases h
 exact ⟨rfl, zT Tryz.results132⟩
 refine zj (zx (ze ?_))
 cases h
 exact ⟨rfl, zE⟩
 rcases o3 with ⟨⟩ | r19
 try simp only at h
 refine zA (yh (zn (zs (zr ?_))))
 refine zU (zl (zn (zq ?_)))
 cases h
 exact zT Tryz.results132
 try simp only at h
 refine zZ fun s hq => ?_
 refine yr (zt ?_)
 cases h
 exact hq
end Go.Proofs.YtlaodgbkpmdhoaaGreatDoor
set_option linter.unusedVariables false
set_option linter.unusedSimpArgs false
namespace Go.Proofs.YtlaodgbkpmdhoaaGreatDoor
open Go Go.Ab
set_option maxHeartbeats 4000000 in
theorem drossref01_Valids_con {D : Prop} (l1 : List Value) (r2 : Bool) (h : drossref01_Valids l1 = some r2) : Con D Tryz.prog 133 [(.slc (List.map encValue l1))] (.bool r2) := by
 refine zP Tryz.call133 Tryz.func133 rfl Tryz.ntmps133 fun X w hT => ?_
 simp only [drossref01_Valids] at h
 refine zs (zr ?_)
 refine zU (zl (zn (zs (zs (zr ?_)))))
 refine zU (zl (zn (zb ?_)))
 obtain ⟨o3, h4, h⟩ := zB h
 refine zO (fun (s : Int) => ⟨[(0, .p (.slc (List.map encValue l1))), (3, .p (.int .i64 s))], []⟩) (fun (o : (Unit) ⊕ (Bool)) => match o with | .inl o5 => tE (cX Tryz.f133 X w D hT) (.exit 0) ⟨[], []⟩ | .inr o6 => tR Tryz.prog Tryz.f133 (.bool o6)) h4 ?_ ?_
 clear h h4
 intro i7 x h
 simp only [drossref01_Valids_l1] at h
 refine zs (zs (zr ?_))
 refine zU (zl (zn ?_))
 rcases zI h with ⟨h8, h⟩ | ⟨h8, h⟩
 refine zi (zk (zn (zs (zb (zs (zr ?_))))))
 obtain ⟨x9, h10, h10a, h10b, h⟩ := zX h
 refine zU ?_
 obtain ⟨r11, h12, h⟩ := zB h
 refine zc (drossref01_Valid_con x9 _ h12) ?_
 refine zU (zl (zn ?_))
 rcases zI h with ⟨h13, h⟩ | ⟨h13, h⟩
 refine zj (zk (yn (zn (zr ?_))))
 refine zU (zl ?_)
 cases h
 exact ⟨rfl, zE⟩
 refine zi (zs (zr ?_))
 refine zU (zl (zn (zq (yr (zt ?_)))))
 cases h
 exact ⟨rfl, zT Tryz.results133⟩
 refine zj (zx (ze ?_))
 cases h
 exact ⟨rfl, zE⟩
 rcases o3 with ⟨⟩ | r14
 try simp only at h
 refine zA (yh (zn (zs (zr ?_))))
 refine zU (zl (zn (zq ?_)))
 cases h
 exact zT Tryz.results133
 try simp only at h
 refine zZ fun s hq => ?_
 refine yr (zt ?_)
 cases h
 exact hq
end Go.Proofs.YtlaodgbkpmdhoaaGreatDoor
set_option linter.unusedVariables false
set_option linter.unusedSimpArgs false
namespace Go.Proofs.YtlaodgbkpmdhoaaGreatDoor
open Go Go.Ab
set_option maxHeartbeats 4000000 in
theorem drossref03_Valid_con {D : Prop} (t1 : Table) (r2 : Int) (h : drossref03_Valid t1 = some r2) : Con D Tryz.prog 94 [(encTable t1)] (.int .i64 r2) := by
 refine zP Tryz.call94 Tryz.func94 rfl Tryz.ntmps94 fun X w hT => ?_
 simp only [drossref03_Valid] at h
 refine zs (zr ?_)
 refine zU (zl (zn (zs (zs (zr ?_)))))
 refine zU ?_
 obtain ⟨r3, h4, h⟩ := zB h
 refine zc (drossref03_Name_con t1.Name _ h4) ?_
 refine zU (zl (zn ?_))
 rcases zI h with ⟨h5, h⟩ | ⟨h5, h⟩
 refine zj (zk (zn (zs (zs (zr ?_)))))
 refine zU ?_
 rcases zI h with ⟨h6, h⟩ | ⟨h6, h⟩
 refine zw 14 true ?_
 refine zh ?_
 refine zU (zl (zn ?_))
 refine zi (zs (zr ?_))
 refine zU (zl (zn (zq (zt ?_))))
 cases h
 exact zT Tryz.results94
 refine zw 14 false ?_
 refine zg ?_
 refine zg ?_
 refine zg ?_
 refine zg ?_
 refine zU (zl (zn ?_))
 rcases zI h with ⟨h7, h⟩ | ⟨h7, h⟩
 refine zi (zs (zr ?_))
 refine zU (zl (zn (zq (zt ?_))))
 cases h
 exact zT Tryz.results94
 refine zj (zk (zn (zs (zs (zr ?_)))))
 refine zU ?_
 obtain ⟨r8, h9, h⟩ := zB h
 refine zc (drossref03_Names_con t1.Attrs _ h9) ?_
 refine zU (zl (zn ?_))
 rcases zI h with ⟨h10, h⟩ | ⟨h10, h⟩
 refine zj (zk (zn (zs (zr ?_))))
 refine zU (zl (zn (zs (zs (zr ?_)))))
 refine zU (zl (zn (zb ?_)))
 obtain ⟨o11, h12, h⟩ := zB h
 refine zO (fun (s : Int × Int) => ⟨[(1, .loc 1 1 0 0), (3, .p (.int .i64 s.1)), (4, .p (.int .i64 s.2))], [(1, .arr 41 3 1 [.p (encTable t1)])]⟩) (fun (o : (Unit) ⊕ (Int)) => match o with | .inl o13 => tE (cX Tryz.f94 X w D hT) (.exit 0) ⟨[], []⟩ | .inr o14 => tR Tryz.prog Tryz.f94 (.int .i64 o14)) h12 ?_ ?_
 clear h h4 h5 h6 h7 h9 h10 h12
 intro s x h
 obtain ⟨b15, i16⟩ := s
 simp only [drossref03_Valid_l1] at h
 dsimp only
 refine zs (zs (zr ?_))
 refine zU (zl (zn ?_))
 rcases zI h with ⟨h17, h⟩ | ⟨h17, h⟩
 refine zi (zk (zn (zs (zb (zs (zr ?_))))))
 obtain ⟨x18, h19, h19a, h19b, h⟩ := zX h
 refine zU (zl (zn (zs (zs (zr ?_)))))
 refine zU (zl (zn ?_))
 rcases zI h with ⟨h20, h⟩ | ⟨h20, h⟩
 refine zi (zs (zr ?_))
 refine zU (zl (zn (zq (zt (yr (zt ?_))))))
 cases h
 exact ⟨rfl, zT Tryz.results94⟩
 refine zj (zk (zn (zs (zr ?_))))
 refine zU (zl (zn (zs (zs (zr ?_)))))
 refine zU (zl (zn ?_))
 rcases zI h with ⟨h21, h⟩ | ⟨h21, h⟩
 refine zi (zs (zr ?_))
 refine zU (zl (zn (zq (zt (yr (zt ?_))))))
 cases h
 exact ⟨rfl, zT Tryz.results94⟩
 refine zj (zk (zn (zs (zr ?_))))
 refine zU ?_
 obtain ⟨r22, h23, h⟩ := zB h
 refine zc (drossref01_Valids_con x18.Values _ h23) ?_
 refine zU (zl (zn ?_))
 rcases zI h with ⟨h24, h⟩ | ⟨h24, h⟩
 refine zj (zk (yn (zn (zr ?_))))
 refine zU (zl ?_)
 cases h
 exact ⟨rfl, zE⟩
 refine zi (zs (zr ?_))
 refine zU (zl (zn (zq (yr (zt ?_)))))
 cases h
 exact ⟨rfl, zT Tryz.results94⟩
 refine zj (zx (ze ?_))
 cases h
 exact ⟨rfl, zE⟩
 rcases o11 with ⟨⟩ | r25
 try simp only at h
 refine zA (yh (zn (zs (zr ?_))))
 refine zU (zl (zn (zq ?_)))
 cases h
 exact zT Tryz.results94
 try simp only at h
 refine zZ fun s hq => ?_
 refine yr (zt ?_)
 cases h
 exact hq
 refine zi (zs (zr ?_))
 refine zU (zl (zn (zq (zt ?_))))
 cases h
 exact zT Tryz.results94
 refine zi (zs (zr ?_))
 refine zU (zl (zn (zq (zt ?_))))
 cases h
 exact zT Tryz.results94
end Go.Proofs.YtlaodgbkpmdhoaaGreatDoor
set_option linter.unusedVariables false
set_option linter.unusedSimpArgs false
namespace Go.Proofs.YtlaodgbkpmdhoaaGreatDoor
open Go Go.Ab
set_option maxHeartbeats 4000000 in
theorem drossref18_Error_con {D : Prop} (t1 : Table) (d2 : Denial) (r3 : Int) (h : drossref18_Error t1 d2 = some r3) : Con D Tryz.prog 88 [(encTable t1), (encDenial d2)] (.int .i64 r3) := by
 refine zP Tryz.call88 Tryz.func88 rfl Tryz.ntmps88 fun X w hT => ?_
 simp only [drossref18_Error] at h
 refine zs (zr ?_)
 refine zU (zl (zn (zs (zs (zr ?_)))))
 refine zU ?_
 obtain ⟨r4, h5, h⟩ := zB h
 refine zc (drossref03_Valid_con t1 _ h5) ?_
 refine zU (zl (zn (zs (zr ?_))))
 refine zU (zl (zn ?_))
 rcases zI h with ⟨h6, h⟩ | ⟨h6, h⟩
 refine zi (zs (zr ?_))
 refine zU (zl (zn (zq (zt ?_))))
 cases h
 exact zT Tryz.results88
 refine zj (zk (zn (zs (zs (zr ?_)))))
 refine zU ?_
 obtain ⟨r7, h8, h⟩ := zB h
 refine zc (drossref18_Valid_con (t1.Attrs.length : Int) d2 _ h8) ?_
 refine zU (zl (zn ?_))
 rcases zI h with ⟨h9, h⟩ | ⟨h9, h⟩
 refine zj (zk (zn (zs (zs (zr ?_)))))
 refine zU ?_
 rcases zI h with ⟨h10, h⟩ | ⟨h10, h⟩
 refine zw 20 true ?_
 refine zg ?_
 refine zg ?_
 refine zg ?_
 refine zg ?_
 refine zU (zl (zn ?_))
 rcases zI h with ⟨h11, h⟩ | ⟨h11, h⟩
 refine zi (zs (zr ?_))
 refine zU (zl (zn (zq (zt ?_))))
 cases h
 exact zT Tryz.results88
 refine zj (zk (zn (zs (zr ?_))))
 refine zU (zl (zn (zq ?_)))
 cases h
 exact zT Tryz.results88
 refine zw 20 false ?_
 refine zh ?_
 refine zU (zl (zn ?_))
 refine zj (zk (zn (zs (zr ?_))))
 refine zU (zl (zn (zq ?_)))
 cases h
 exact zT Tryz.results88
 refine zi (zs (zr ?_))
 refine zU (zl (zn (zq (zt ?_))))
 cases h
 exact zT Tryz.results88
end Go.Proofs.YtlaodgbkpmdhoaaGreatDoor
set_option linter.unusedVariables false
set_option linter.unusedSimpArgs false
namespace Go.Proofs.YtlaodgbkpmdhoaaGreatDoor
open Go Go.Ab
set_option maxRecDepth 20000 in
set_option maxHeartbeats 4000000 in
theorem drossref18_assignments_con {D : Prop} (t1 : Table) (l2 : Int) (r3 : List (List Row)) (h : drossref18_assignments t1 l2 = some r3) : Con D Tryz.prog 89 [(encTable t1), (.int .i64 l2)] (.slc (List.map (encL encRow) r3)) := by
 refine zP Tryz.call89 Tryz.func89 rfl Tryz.ntmps89 fun X w hT => ?_
 simp only [drossref18_assignments] at h
 refine zs (zr ?_)
 refine zU (zl (zn (zs (zr ?_))))
 refine zU (zl (zn (zs (zs (zr ?_)))))
 refine zU (zl (zn (zb ?_)))
 refine zL ⟨[(1, .p (.int .i64 l2)), (2, .loc 2 1 0 0), (5, .own 12 1 0 1), (6, .p (.int .i64 0))], [(2, .arr 41 3 1 [.p (encTable t1)]), (12, .arr 39 1 1 [.nils])]⟩ ?_
 obtain ⟨l4, h5, h⟩ := zB h
 replace h5 := Option.some.inj h5
 refine awp_le (st' := ⟨[(1, .p (.int .i64 l2)), (2, .loc 2 1 0 0), (5, .own 12 1 0 l4.length), (6, .p (.int .i64 0))], [(2, .arr 41 3 1 [.p (encTable t1)]), (12, .arr 39 1 1 (List.map AV.p (List.map (encL encRow) l4)))]⟩) (by simp only [go_sem, seval, ← h5]; all_goals ((repeat' refine And.intro ?_ ?_) <;> first | rfl | (simp; done) | (simp; rfl) | (simp [*]; done) | (simp [*]; rfl))) ?_
 have h5n : l4.length = 1 := by rw [← h5]; rfl
 clear h5
 obtain ⟨o6, h7, h⟩ := zB h
 refine zO (fun (s : List (List Row) × Int) => ⟨[(1, .p (.int .i64 l2)), (2, .loc 2 1 0 0), (5, .p (.slc (List.map (encL encRow) s.1))), (6, .p (.int .i64 s.2))], [(2, .arr 41 3 1 [.p (encTable t1)])]⟩) (fun (o8 : List (List Row)) => tE (cX Tryz.f89 X w D hT) (.exit 0) ⟨[(5, .p (.slc (List.map (encL encRow) o8)))], []⟩) h7 ?_ ?_
 clear h h5n h7
 intro s x h
 obtain ⟨o9, k10⟩ := s
 simp only [drossref18_assignments_l40] at h
 dsimp only
 refine zs (zs (zr ?_))
 refine zU (zl (zn ?_))
 rcases zI h with ⟨h11, h⟩ | ⟨h11, h⟩
 refine zi (zk (zn (zs (zb (zs (zr ?_))))))
 refine zU (zl (zn (zs (zs (zr ?_)))))
 refine zU (zl (zn (zb ?_)))
 obtain ⟨m12, h13, h⟩ := zB h
 refine zO (fun (s : List (List Row) × Int) => ⟨[(1, .p (.int .i64 l2)), (2, .loc 2 1 0 0), (5, .p (.slc (List.map (encL encRow) o9))), (6, .p (.int .i64 k10)), (7, .own 75 1 0 s.1.length), (8, .p (.int .i64 s.2))], [(2, .arr 41 3 1 [.p (encTable t1)]), (75, .arr 39 1 1 (List.map AV.p (List.map (encL encRow) s.1)))]⟩) (fun (o14 : List (List Row)) => tE (cX Tryz.f89 X w D hT) (.exit 2) ⟨[(1, .p (.int .i64 l2)), (2, .loc 2 1 0 0), (6, .p (.int .i64 k10)), (7, .own 75 1 0 o14.length)], [(2, .arr 41 3 1 [.p (encTable t1)]), (75, .arr 39 1 1 (List.map AV.p (List.map (encL encRow) o14)))]⟩) h13 ?_ ?_
 clear h h11 h13
 intro s x h
 obtain ⟨m15, i16⟩ := s
 simp only [drossref18_assignments_l39] at h
 dsimp only
 refine zs (zs (zr ?_))
 refine zU (zl (zn ?_))
 rcases zI h with ⟨h17, h⟩ | ⟨h17, h⟩
 refine zi (zk (zn (zs (zb (zs (zr ?_))))))
 refine zU (zl (zn (zb ?_)))
 obtain ⟨m18, h19, h⟩ := zB h
 refine zO (fun (s : List (List Row) × Int) => ⟨[(1, .p (.int .i64 l2)), (2, .loc 2 1 0 0), (5, .p (.slc (List.map (encL encRow) o9))), (6, .p (.int .i64 k10)), (7, .own 75 1 0 s.1.length), (8, .p (.int .i64 i16)), (9, .p (.int .i64 s.2))], [(2, .arr 41 3 1 [.p (encTable t1)]), (75, .arr 39 1 1 (List.map AV.p (List.map (encL encRow) s.1)))]⟩) (fun (o20 : List (List Row)) => tE (cX Tryz.f89 X w D hT) (.exit 4) ⟨[(1, .p (.int .i64 l2)), (2, .loc 2 1 0 0), (5, .p (.slc (List.map (encL encRow) o9))), (6, .p (.int .i64 k10)), (7, .own 75 1 0 o20.length), (8, .p (.int .i64 i16))], [(2, .arr 41 3 1 [.p (encTable t1)]), (75, .arr 39 1 1 (List.map AV.p (List.map (encL encRow) o20)))]⟩) h19 ?_ ?_
 clear h h17 h19
 intro s x h
 obtain ⟨m21, j22⟩ := s
 simp only [drossref18_assignments_l38] at h
 dsimp only
 refine zs (zs (zr ?_))
 refine zU (zl (zn ?_))
 rcases zI h with ⟨h23, h⟩ | ⟨h23, h⟩
 refine zi (zk (zn (zs (zb (zs (zr ?_))))))
 refine zU (zl (zn (zs (zs (zr ?_)))))
 refine zU (zl (zn (zb ?_)))
 obtain ⟨u24, h25, h⟩ := zB h
 refine zO (fun (s : Bool × Int) => ⟨[(1, .p (.int .i64 l2)), (2, .loc 2 1 0 0), (5, .p (.slc (List.map (encL encRow) o9))), (6, .p (.int .i64 k10)), (7, .own 75 1 0 m21.length), (8, .p (.int .i64 i16)), (9, .p (.int .i64 j22)), (10, .p (.bool s.1)), (11, .p (.int .i64 s.2))], [(2, .arr 41 3 1 [.p (encTable t1)]), (75, .arr 39 1 1 (List.map AV.p (List.map (encL encRow) m21)))]⟩) (fun (o26 : Bool) => tE (cX Tryz.f89 X w D hT) (.exit 6) ⟨[(1, .p (.int .i64 l2)), (2, .loc 2 1 0 0), (5, .p (.slc (List.map (encL encRow) o9))), (6, .p (.int .i64 k10)), (7, .own 75 1 0 m21.length), (8, .p (.int .i64 i16)), (9, .p (.int .i64 j22)), (10, .p (.bool o26))], [(2, .arr 41 3 1 [.p (encTable t1)]), (75, .arr 39 1 1 (List.map AV.p (List.map (encL encRow) m21)))]⟩) h25 ?_ ?_
 clear h h23 h25
 intro s x h
 obtain ⟨u27, m28⟩ := s
 simp only [drossref18_assignments_l37] at h
 dsimp only
 refine zs (zs (zr ?_))
 obtain ⟨x29, h30, h30a, h30b, h⟩ := zX h
 refine zU (zl (zn ?_))
 rcases zI h with ⟨h31, h⟩ | ⟨h31, h⟩
 refine zi (zk (zn (zs (zb (zd ?_)))))
 refine yU ?_
 rcases zI h with ⟨h32, h⟩ | ⟨h32, h⟩
 refine yw 41 true ?_
 refine yk ?_
 refine yU ?_
 refine yd (yn (zn (zr ?_)))
 refine zU (zl ?_)
 cases h
 exact ⟨rfl, zE⟩
 refine yw 41 false ?_
 refine yg ?_
 refine yg ?_
 refine yg ?_
 refine yg ?_
 refine yg ?_
 obtain ⟨x33, h34, h34a, h34b, h⟩ := zX h
 refine yg ?_
 refine yg ?_
 refine yg ?_
 refine yg ?_
 refine yg ?_
 refine yg ?_
 obtain ⟨x35, h36, h36a, h36b, h⟩ := zX h
 replace h := h.symm
 refine yg ?_
 refine yg ?_
 refine yg ?_
 refine yg ?_
 refine yU ?_
 refine yd (yn (zn (zr ?_)))
 refine zU (zl ?_)
 cases h
 exact ⟨rfl, zE⟩
 refine zj (zx (ze ?_))
 cases h
 exact ⟨rfl, zE⟩
 try simp only at h
 refine zA (yh (zn (zs (zr ?_))))
 refine zU (zl (zn ?_))
 rcases zI h with ⟨h37, h⟩ | ⟨h37, h⟩
 refine zj (zk (yn (zn (zr ?_))))
 refine zU (zl ?_)
 cases h
 exact ⟨rfl, zE⟩
 refine zi (zd ?_)
 obtain ⟨x38, h39, h39a, h39b, h⟩ := zX h
 obtain ⟨h40, h⟩ := ite_some h
 obtain ⟨x41, h42, h42a, h42b, h⟩ := zX h
 obtain ⟨h43, h⟩ := ite_some h
 obtain ⟨h44, h⟩ := ite_some h
 refine yU ?_
 refine yd (yn (zn (zr ?_)))
 refine zU (zl ?_)
 cases h
 exact ⟨rfl, zE⟩
 refine zj (zx (ze ?_))
 cases h
 exact ⟨rfl, zE⟩
 try simp only at h
 refine zA (yh (yn (zn (zr ?_))))
 refine zU (zl ?_)
 cases h
 exact ⟨rfl, zE⟩
 refine zj (zx (ze ?_))
 cases h
 exact ⟨rfl, zE⟩
 try simp only at h
 refine zA (yh (zn (zr ?_)))
 refine zU (zl (yn (zn (zr ?_))))
 refine zU (zl ?_)
 cases h
 exact ⟨rfl, zE⟩
 refine zj (zx (ze ?_))
 cases h
 exact ⟨rfl, zE⟩
 try simp only at h
 refine zA (yh (zn (zs (zr ?_))))
 refine zU (zl (zn (zq ?_)))
 cases h
 exact zT Tryz.results89
end Go.Proofs.YtlaodgbkpmdhoaaGreatDoor
set_option linter.unusedVariables false
set_option linter.unusedSimpArgs false
namespace Go.Proofs.YtlaodgbkpmdhoaaGreatDoor
open Go Go.Ab
set_option maxHeartbeats 4000000 in
theorem drossref01_sign_con {D : Prop} (a1 : Int) (b2 : Int) (r3 : Int) (h : drossref01_sign a1 b2 = some r3) : Con D Tryz.prog 101 [(.int .i64 a1), (.int .i64 b2)] (.int .i64 r3) := by
 refine zP Tryz.call101 Tryz.func101 rfl Tryz.ntmps101 fun X w hT => ?_
 simp only [drossref01_sign] at h
 refine zs (zr ?_)
 refine zU (zl (zn (zs (zs (zr ?_)))))
 refine zU (zl (zn ?_))
 rcases zI h with ⟨h4, h⟩ | ⟨h4, h⟩
 refine zi (zs (zr ?_))
 refine zU (zl (zn (zq (zt ?_))))
 cases h
 exact zT Tryz.results101
 refine zj (zk (zn (zs (zs (zr ?_)))))
 refine zU (zl (zn ?_))
 rcases zI h with ⟨h5, h⟩ | ⟨h5, h⟩
 refine zi (zs (zr ?_))
 refine zU (zl (zn (zq (zt ?_))))
 cases h
 exact zT Tryz.results101
 refine zj (zk (zn (zs (zr ?_))))
 refine zU (zl (zn (zq ?_)))
 cases h
 exact zT Tryz.results101
end Go.Proofs.YtlaodgbkpmdhoaaGreatDoor
set_option linter.unusedVariables false
set_option linter.unusedSimpArgs false
namespace Go.Proofs.YtlaodgbkpmdhoaaGreatDoor
open Go Go.Ab
set_option maxRecDepth 20000 in
set_option maxHeartbeats 4000000 in
theorem drossref01_strings_con {D : Prop} (a1 : List UInt8) (b2 : List UInt8) (r3 : Int) (h : drossref01_strings a1 b2 = some r3) : Con D Tryz.prog 102 [(.str a1), (.str b2)] (.int .i64 r3) := by
 refine zP Tryz.call102 Tryz.func102 rfl Tryz.ntmps102 fun X w hT => ?_
 simp only [drossref01_strings] at h
 refine zs (zr ?_)
 refine zU (zl (zn (zs (zs (zr ?_)))))
 refine zU (zl (zn (zb ?_)))
 obtain ⟨o4, h5, h⟩ := zB h
 refine zO (fun (s : Int) => ⟨[(0, .p (.str a1)), (1, .p (.str b2)), (5, .p (.int .i64 s))], []⟩) (fun (o : (Unit) ⊕ (Int)) => match o with | .inl o6 => tE (cX Tryz.f102 X w D hT) (.exit 0) ⟨[(0, .p (.str a1)), (1, .p (.str b2))], []⟩ | .inr o7 => tR Tryz.prog Tryz.f102 (.int .i64 o7)) h5 ?_ ?_
 clear h h5
 intro i8 x h
 simp only [drossref01_strings_l1] at h
 refine zs (zs (zr ?_))
 refine zU ?_
 rcases zI h with ⟨h9, h⟩ | ⟨h9, h⟩
 refine zw 10 true ?_
 refine zg ?_
 refine zg ?_
 refine zg ?_
 refine zg ?_
 refine zU (zl (zn ?_))
 rcases zI h with ⟨h10, h⟩ | ⟨h10, h⟩
 refine zi (zk (zn (zs (zb (zs (zd ?_))))))
 obtain ⟨c11, h12, h12a, h12b, h⟩ := zX h
 obtain ⟨c13, h14, h14a, h14b, h⟩ := zX h
 refine yU ?_
 refine yd (zn ?_)
 rcases zI h with ⟨h15, h⟩ | ⟨h15, h⟩
 refine zi (zs (zd ?_))
 refine yU ?_
 obtain ⟨r16, h17, h⟩ := zB h
 refine yc (drossref01_sign_con (IntKind.i64.wrap ((c11.toNat : Nat) : Int)) (IntKind.i64.wrap ((c13.toNat : Nat) : Int)) _ h17) ?_
 refine yU ?_
 refine yd (zn (zq (yr (zt ?_))))
 cases h
 exact ⟨rfl, zT Tryz.results102⟩
 refine zj (zk (yn (zn (zr ?_))))
 refine zU (zl ?_)
 cases h
 exact ⟨rfl, zE⟩
 refine zj (zx (ze ?_))
 cases h
 exact ⟨rfl, zE⟩
 refine zw 10 false ?_
 refine zh ?_
 refine zU (zl (zn ?_))
 refine zj (zx (ze ?_))
 cases h
 exact ⟨rfl, zE⟩
 rcases o4 with ⟨⟩ | r18
 try simp only at h
 refine zA (yh (zn (zs (zr ?_))))
 refine zU ?_
 obtain ⟨r19, h20, h⟩ := zB h
 refine zc (drossref01_sign_con (a1.length : Int) (b2.length : Int) _ h20) ?_
 refine zU (zl (zn (zq ?_)))
 cases h
 exact zT Tryz.results102
 try simp only at h
 refine zZ fun s hq => ?_
 refine yr (zt ?_)
 cases h
 exact hq
end Go.Proofs.YtlaodgbkpmdhoaaGreatDoor
set_option linter.unusedVariables false
set_option linter.unusedSimpArgs false
namespace Go.Proofs.YtlaodgbkpmdhoaaGreatDoor
open Go Go.Ab
set_option maxHeartbeats 4000000 in
theorem drossref01_Compare_con {D : Prop} (a1 : Value) (b2 : Value) (r3 : Int) (h : drossref01_Compare a1 b2 = some r3) : Con D Tryz.prog 45 [(encValue a1), (encValue b2)] (.int .i64 r3) := by
 refine zP Tryz.call45 Tryz.func45 rfl Tryz.ntmps45 fun X w hT => ?_
 simp only [drossref01_Compare] at h
 refine zs (zr ?_)
 refine zU (zl (zn (zs (zs (zr ?_)))))
 refine zU ?_
 obtain ⟨r4, h5, h⟩ := zB h
 refine zc (drossref01_sign_con a1.Kind b2.Kind _ h5) ?_
 refine zU (zl (zn (zs (zr ?_))))
 refine zU (zl (zn ?_))
 rcases zI h with ⟨h6, h⟩ | ⟨h6, h⟩
 refine zi (zs (zr ?_))
 refine zU (zl (zn (zq (zt ?_))))
 cases h
 exact zT Tryz.results45
 refine zj (zk (zn (zs (zs (zr ?_)))))
 refine zU ?_
 obtain ⟨r7, h8, h⟩ := zB h
 refine zc (drossref01_sign_con a1.Num b2.Num _ h8) ?_
 refine zU (zl (zn (zs (zr ?_))))
 refine zU (zl (zn ?_))
 rcases zI h with ⟨h9, h⟩ | ⟨h9, h⟩
 refine zi (zs (zr ?_))
 refine zU (zl (zn (zq (zt ?_))))
 cases h
 exact zT Tryz.results45
 refine zj (zk (zn (zs (zr ?_))))
 refine zU ?_
 obtain ⟨r10, h11, h⟩ := zB h
 refine zc (drossref01_strings_con a1.Str b2.Str _ h11) ?_
 refine zU (zl (zn (zq ?_)))
 cases h
 exact zT Tryz.results45
end Go.Proofs.YtlaodgbkpmdhoaaGreatDoor
set_option linter.unusedVariables false
set_option linter.unusedSimpArgs false
namespace Go.Proofs.YtlaodgbkpmdhoaaGreatDoor
open Go Go.Ab
set_option maxRecDepth 20000 in
set_option maxHeartbeats 4000000 in
theorem drossref18_of_con {D : Prop} (t1 : Term) (r2 : List Row) (r3 : Value) (h : drossref18_of t1 r2 = some r3) : Con D Tryz.prog 166 [(encTerm t1), (.slc (List.map encRow r2))] (encValue r3) := by
 refine zP Tryz.call166 Tryz.func166 rfl Tryz.ntmps166 fun X w hT => ?_
 simp only [drossref18_of] at h
 refine zs (zr ?_)
 refine zU (zl (zn (zs (zs (zr ?_)))))
 refine zU (zl (zn ?_))
 rcases zI h with ⟨h4, h⟩ | ⟨h4, h⟩
 refine zi (zs (zr ?_))
 refine zU (zl (zn (zq (zt ?_))))
 cases h
 exact zT Tryz.results166
 refine zj (zk (zn (zs (zd ?_))))
 obtain ⟨x5, h6, h6a, h6b, h⟩ := zX h
 obtain ⟨x7, h8, h8a, h8b, h⟩ := zX h
 refine yU ?_
 refine yd (zn (zq ?_))
 cases h
 exact zT Tryz.results166
end Go.Proofs.YtlaodgbkpmdhoaaGreatDoor
set_option linter.unusedVariables false
set_option linter.unusedSimpArgs false
namespace Go.Proofs.YtlaodgbkpmdhoaaGreatDoor
open Go Go.Ab
set_option maxRecDepth 20000 in
set_option maxHeartbeats 4000000 in
theorem drossref18_Satisfied_con {D : Prop} (a1 : Atom) (r2 : List Row) (r3 : Bool) (h : drossref18_Satisfied a1 r2 = some r3) : Con D Tryz.prog 130 [(encAtom a1), (.slc (List.map encRow r2))] (.bool r3) := by
 refine zP Tryz.call130 Tryz.func130 rfl Tryz.ntmps130 fun X w hT => ?_
 simp only [drossref18_Satisfied] at h
 refine zs (zr ?_)
 refine zU (zl (zn (zs (zd ?_))))
 refine yU ?_
 obtain ⟨r4, h5, h⟩ := zB h
 refine yc (drossref18_of_con a1.Left r2 _ h5) ?_
 refine yU ?_
 obtain ⟨r6, h7, h⟩ := zB h
 refine yc (drossref18_of_con a1.Right r2 _ h7) ?_
 obtain ⟨r8, h9, h⟩ := zB h
 refine yc (drossref01_Compare_con r4 r6 _ h9) ?_
 refine yU ?_
 refine yd (zn (zs (zs (zr ?_))))
 refine zU (zl (zn (zb (zs (zr ?_)))))
 refine zU (zl (zn ?_))
 rcases zI h with ⟨h10, h⟩ | ⟨h10, h⟩
 refine zi (zs (zr ?_))
 refine zU (zl (zn (zq (yr (zt ?_)))))
 cases h
 exact zT Tryz.results130
 refine zj (zs (zr ?_))
 refine zU (zl (zn ?_))
 rcases zI h with ⟨h11, h⟩ | ⟨h11, h⟩
 refine zi (zs (zr ?_))
 refine zU (zl (zn (zq (yr (zt ?_)))))
 cases h
 exact zT Tryz.results130
 refine zj (zs (zr ?_))
 refine zU (zl (zn ?_))
 rcases zI h with ⟨h12, h⟩ | ⟨h12, h⟩
 refine zi (zs (zr ?_))
 refine zU (zl (zn (zq (yr (zt ?_)))))
 cases h
 exact zT Tryz.results130
 refine zj (zk (yn (zn (zs (zr ?_)))))
 refine zU (zl (zn (zq ?_)))
 cases h
 exact zT Tryz.results130
end Go.Proofs.YtlaodgbkpmdhoaaGreatDoor
set_option linter.unusedVariables false
set_option linter.unusedSimpArgs false
namespace Go.Proofs.YtlaodgbkpmdhoaaGreatDoor
open Go Go.Ab
set_option maxHeartbeats 4000000 in
theorem drossref18_all_con {D : Prop} (d1 : Denial) (r2 : List Row) (r3 : Bool) (h : drossref18_all d1 r2 = some r3) : Con D Tryz.prog 90 [(encDenial d1), (.slc (List.map encRow r2))] (.bool r3) := by
 refine zP Tryz.call90 Tryz.func90 rfl Tryz.ntmps90 fun X w hT => ?_
 simp only [drossref18_all] at h
 refine zs (zr ?_)
 refine zU (zl (zn (zs (zs (zr ?_)))))
 refine zU (zl (zn (zb ?_)))
 obtain ⟨o4, h5, h⟩ := zB h
 refine zO (fun (s : Int) => ⟨[(1, .p (.slc (List.map encRow r2))), (2, .loc 2 1 0 0), (5, .p (.int .i64 s))], [(2, .arr 24 2 1 [.p (encDenial d1)])]⟩) (fun (o : (Unit) ⊕ (Bool)) => match o with | .inl o6 => tE (cX Tryz.f90 X w D hT) (.exit 0) ⟨[], []⟩ | .inr o7 => tR Tryz.prog Tryz.f90 (.bool o7)) h5 ?_ ?_
 clear h h5
 intro i8 x h
 simp only [drossref18_all_l1] at h
 refine zs (zs (zr ?_))
 refine zU (zl (zn ?_))
 rcases zI h with ⟨h9, h⟩ | ⟨h9, h⟩
 refine zi (zk (zn (zs (zb (zs (zr ?_))))))
 obtain ⟨x10, h11, h11a, h11b, h⟩ := zX h
 refine zU ?_
 obtain ⟨r12, h13, h⟩ := zB h
 refine zc (drossref18_Satisfied_con x10 r2 _ h13) ?_
 refine zU (zl (zn ?_))
 rcases zI h with ⟨h14, h⟩ | ⟨h14, h⟩
 refine zj (zk (yn (zn (zr ?_))))
 refine zU (zl ?_)
 cases h
 exact ⟨rfl, zE⟩
 refine zi (zs (zr ?_))
 refine zU (zl (zn (zq (yr (zt ?_)))))
 cases h
 exact ⟨rfl, zT Tryz.results90⟩
 refine zj (zx (ze ?_))
 cases h
 exact ⟨rfl, zE⟩
 rcases o4 with ⟨⟩ | r15
 try simp only at h
 refine zA (yh (zn (zs (zr ?_))))
 refine zU (zl (zn (zq ?_)))
 cases h
 exact zT Tryz.results90
 try simp only at h
 refine zZ fun s hq => ?_
 refine yr (zt ?_)
 cases h
 exact hq
end Go.Proofs.YtlaodgbkpmdhoaaGreatDoor
set_option linter.unusedVariables false
set_option linter.unusedSimpArgs false
namespace Go.Proofs.YtlaodgbkpmdhoaaGreatDoor
open Go Go.Ab
set_option maxRecDepth 20000 in
set_option maxHeartbeats 4000000 in
theorem drossref18_Ascending_con {D : Prop} (r1 : List Row) (r2 : List Int) (h : drossref18_Ascending r1 = some r2) : Con D Tryz.prog 91 [(.slc (List.map encRow r1))] (.slc (List.map (PV.int .i64) r2)) := by
 refine zP Tryz.call91 Tryz.func91 rfl Tryz.ntmps91 fun X w hT => ?_
 simp only [drossref18_Ascending] at h
 refine zs (zr ?_)
 refine zU (zl (zn (zs (zr ?_))))
 refine zU (zl (zn (zs (zs (zr ?_)))))
 refine zU (zl (zn (zb ?_)))
 obtain ⟨o3, h4, h⟩ := zB h
 refine zO (fun (s : List Int × Int) => ⟨[(0, .p (.slc (List.map encRow r1))), (3, .own 19 1 0 s.1.length), (4, .p (.int .i64 s.2))], [(19, .arr 2 1 1 (List.map AV.p (List.map (PV.int .i64) s.1)))]⟩) (fun (o5 : List Int) => tE (cX Tryz.f91 X w D hT) (.exit 0) ⟨[(3, .own 19 1 0 o5.length)], [(19, .arr 2 1 1 (List.map AV.p (List.map (PV.int .i64) o5)))]⟩) h4 ?_ ?_
 clear h h4
 intro s x h
 obtain ⟨o6, i7⟩ := s
 simp only [drossref18_Ascending_l4] at h
 dsimp only
 refine zs (zs (zr ?_))
 refine zU (zl (zn ?_))
 rcases zI h with ⟨h8, h⟩ | ⟨h8, h⟩
 refine zi (zk (zn (zs (zb (zs (zr ?_))))))
 obtain ⟨x9, h10, h10a, h10b, h⟩ := zX h
 obtain ⟨h11, h⟩ := ite_some h
 refine zU (zl (zn (zs (zr ?_))))
 refine zU (zl (zn (zb ?_)))
 obtain ⟨o12, h13, h⟩ := zB h
 refine zO (fun (s : List Int × Int) => ⟨[(0, .p (.slc (List.map encRow r1))), (3, .own 19 1 0 s.1.length), (4, .p (.int .i64 i7)), (5, .p (.int .i64 s.2))], [(19, .arr 2 1 1 (List.map AV.p (List.map (PV.int .i64) s.1)))]⟩) (fun (o14 : List Int) => tE (cX Tryz.f91 X w D hT) (.exit 2) ⟨[(0, .p (.slc (List.map encRow r1))), (3, .own 19 1 0 o14.length), (4, .p (.int .i64 i7))], [(19, .arr 2 1 1 (List.map AV.p (List.map (PV.int .i64) o14)))]⟩) h13 ?_ ?_
 clear h h8 h10 h10a h10b h11 h13
 intro s x h
 obtain ⟨o15, k16⟩ := s
 simp only [drossref18_Ascending_l3] at h
 dsimp only
 refine zs (zs (zd ?_))
 refine yU ?_
 rcases zI h with ⟨h17, h⟩ | ⟨h17, h⟩
 refine yw 25 true ?_
 refine yg ?_
 refine yg ?_
 obtain ⟨x18, h19, h19a, h19b, h⟩ := zX h
 refine yg ?_
 refine yg ?_
 refine yg ?_
 refine yg ?_
 refine yg ?_
 obtain ⟨x20, h21, h21a, h21b, h⟩ := zX h
 refine yg ?_
 refine yg ?_
 refine yg ?_
 refine yU ?_
 refine yd (zn ?_)
 rcases zI h with ⟨h22, h⟩ | ⟨h22, h⟩
 refine zi (zk (zn (zs (zb (zd ?_)))))
 obtain ⟨x23, h24, h24a, h24b, h⟩ := zX h
 have h24B := eq_true (by simpa only [List.length_set] using h24b)
 refine yU ?_
 refine yd (yn (zn (zr ?_)))
 refine zU (zl ?_)
 cases h
 exact ⟨rfl, zE⟩
 refine zj (zx (ze ?_))
 cases h
 exact ⟨rfl, zE⟩
 refine yw 25 false ?_
 refine yk ?_
 refine yU ?_
 refine yd (zn ?_)
 refine zj (zx (ze ?_))
 cases h
 exact ⟨rfl, zE⟩
 try simp only at h
 refine zA (yh (yn (zn (zr ?_))))
 refine zU (zl ?_)
 cases h
 exact ⟨rfl, zE⟩
 refine zj (zx (ze ?_))
 cases h
 exact ⟨rfl, zE⟩
 try simp only at h
 refine zA (yh (zn (zs (zr ?_))))
 refine zU (zl (zn (zq ?_)))
 cases h
 exact zT Tryz.results91
end Go.Proofs.YtlaodgbkpmdhoaaGreatDoor
set_option linter.unusedVariables false
set_option linter.unusedSimpArgs false
namespace Go.Proofs.YtlaodgbkpmdhoaaGreatDoor
open Go Go.Ab
set_option maxHeartbeats 4000000 in
theorem drossref18_Violations_con {D : Prop} (t1 : Table) (d2 : Denial) (r3 : List (List Int) × Int) (h : drossref18_Violations t1 d2 = some r3) : Con D Tryz.prog 31 [(encTable t1), (encDenial d2)] (.tup [(.slc (List.map (encL (PV.int .i64)) r3.1)), (.int .i64 r3.2)]) := by
 refine zP Tryz.call31 Tryz.func31 rfl Tryz.ntmps31 fun X w hT => ?_
 simp only [drossref18_Violations] at h
 refine zs (zr ?_)
 refine zU (zl (zn (zs (zs (zr ?_)))))
 refine zU ?_
 obtain ⟨r4, h5, h⟩ := zB h
 refine zc (drossref18_Error_con t1 d2 _ h5) ?_
 refine zU (zl (zn (zs (zr ?_))))
 refine zU (zl (zn ?_))
 rcases zI h with ⟨h6, h⟩ | ⟨h6, h⟩
 refine zi (zs (zr ?_))
 refine zU (zl (zn (zq (zt ?_))))
 cases h
 exact zT Tryz.results31
 refine zj (zk (zn (zs (zr ?_))))
 refine zU (zl (zn (zs (zr ?_))))
 refine zU ?_
 obtain ⟨r7, h8, h⟩ := zB h
 refine zc (drossref18_assignments_con t1 d2.Vars _ h8) ?_
 refine zU (zl (zn (zs (zs (zr ?_)))))
 refine zU (zl (zn (zb ?_)))
 obtain ⟨o9, h10, h⟩ := zB h
 refine zO (fun (s : List (List Int) × Int) => ⟨[(3, .loc 3 1 0 0), (7, .own 230007 1 0 s.1.length), (8, .p (.slc (List.map (encL encRow) r7))), (9, .p (.int .i64 s.2))], [(3, .arr 24 2 1 [.p (encDenial d2)]), (230007, .arr 57 1 1 (List.map AV.p (List.map (encL (PV.int .i64)) s.1)))]⟩) (fun (o11 : List (List Int)) => tE (cX Tryz.f31 X w D hT) (.exit 0) ⟨[(7, .own 230007 1 0 o11.length)], [(230007, .arr 57 1 1 (List.map AV.p (List.map (encL (PV.int .i64)) o11)))]⟩) h10 ?_ ?_
 clear h h5 h6 h8 h10
 intro s x h
 obtain ⟨o12, i13⟩ := s
 simp only [drossref18_Violations_l7] at h
 dsimp only
 refine zs (zs (zr ?_))
 refine zU (zl (zn ?_))
 rcases zI h with ⟨h14, h⟩ | ⟨h14, h⟩
 have h14T := eq_true h14
 refine zi (zk (zn (zs (zb (zs (zd ?_))))))
 obtain ⟨x15, h16, h16a, h16b, h⟩ := zX h
 refine yU ?_
 obtain ⟨r17, h18, h⟩ := zB h
 refine yc (drossref18_all_con d2 x15 _ h18) ?_
 refine yd (zn ?_)
 rcases zI h with ⟨h19, h⟩ | ⟨h19, h⟩
 refine zi (zr ?_)
 refine zU ?_
 obtain ⟨r20, h21, h⟩ := zB h
 refine zc (drossref18_Ascending_con x15 _ h21) ?_
 refine zM ⟨[(3, .loc 3 1 0 0), (8, .p (.slc (List.map (encL encRow) r7))), (9, .p (.int .i64 i13)), (32, .own 230007 1 0 o12.length), (37, .p (.slc (List.map (PV.int .i64) r20)))], [(3, .arr 24 2 1 [.p (encDenial d2)]), (230007, .arr 57 1 1 (List.map AV.p (List.map (encL (PV.int .i64)) o12)))]⟩ ?_
 refine AL_inline (avs := [.own 230007 1 0 o12.length, .p (.slc (List.map (PV.int .i64) r20))]) 40 rfl (guard_none rfl) rfl Tryz.func46 rfl Tryz.call46 Tryz.ntmps46 (by simp) (by simp only [go_sem, seval, h14T, h19]; all_goals rfl) ?_
 intro i22 w23 h24
 show AWp _ _ _ ⟨[(0, .own 230007 1 0 o12.length), (1, .p (.slc (List.map (PV.int .i64) r20)))], [(3, .arr 24 2 1 [.p (encDenial d2)]), (230007, .arr 57 1 1 (List.map AV.p (List.map (encL (PV.int .i64)) o12)))]⟩
 refine zs (zr ?_)
 refine zU (zl (zn (zs (zs (zr ?_)))))
 refine zU (zl (zn (zb ?_)))
 obtain ⟨o25, h26, h⟩ := zB h
 refine zO (fun (s : Int) => ⟨[(0, .own 230007 1 0 o12.length), (1, .p (.slc (List.map (PV.int .i64) r20))), (5, .p (.int .i64 s))], [(3, .arr 24 2 1 [.p (encDenial d2)]), (230007, .arr 57 1 1 (List.map AV.p (List.map (encL (PV.int .i64)) o12)))]⟩) (fun (o : (Unit) ⊕ (Unit)) => match o with | .inl o27 => tE ⟨Tryz.prog, 70, 40, X, [(3, .arr 24 2 1 [.p (encDenial d2)]), (230007, .arr 57 1 1 (List.map AV.p (List.map (encL (PV.int .i64)) o12)))], i22, w23, D, h24⟩ (.exit 0) ⟨[(0, .own 230007 1 0 o12.length), (1, .p (.slc (List.map (PV.int .i64) r20)))], [(3, .arr 24 2 1 [.p (encDenial d2)]), (230007, .arr 57 1 1 (List.map AV.p (List.map (encL (PV.int .i64)) o12)))]⟩ | .inr o28 => tE ⟨Tryz.prog, 70, 40, X, [(3, .arr 24 2 1 [.p (encDenial d2)]), (230007, .arr 57 1 1 (List.map AV.p (List.map (encL (PV.int .i64)) o12)))], i22, w23, D, h24⟩ .ret ⟨[(4, .own 230007 1 0 o12.length)], [(3, .arr 24 2 1 [.p (encDenial d2)]), (230007, .arr 57 1 1 (List.map AV.p (List.map (encL (PV.int .i64)) o12)))]⟩) h26 ?_ ?_
 clear h h14 h14T h16 h16a h16b h18 h19 h21 h26
 intro i29 x h
 simp only [drossref18_Violations_l5] at h
 refine zs (zs (zr ?_))
 refine zU (zl (zn ?_))
 rcases zI h with ⟨h30, h⟩ | ⟨h30, h⟩
 refine zi (zk (zn (zs (zb (zs (zr ?_))))))
 obtain ⟨x31, h32, h32a, h32b, h⟩ := zX h
 refine zU ?_
 obtain ⟨r33, h34, h⟩ := zB h
 refine zc (drossref18_Before_con x31 r20 _ h34) ?_
 refine zU ?_
 rcases zI h with ⟨h35, h⟩ | ⟨h35, h⟩
 refine zw 20 false ?_
 refine zh ?_
 refine zU (zl (zn ?_))
 refine zj (zk (yn (zn (zr ?_))))
 refine zU (zl ?_)
 cases h
 exact ⟨rfl, zE⟩
 refine zw 20 true ?_
 refine zg ?_
 refine zg ?_
 refine zg ?_
 refine zg ?_
 refine zg ?_
 obtain ⟨r36, h37, h⟩ := zB h
 refine zc (drossref18_Before_con r20 x31 _ h37) ?_
 refine zg ?_
 refine zU (zl (zn ?_))
 rcases zI h with ⟨h38, h⟩ | ⟨h38, h⟩
 refine zj (zk (yn (zn (zr ?_))))
 refine zU (zl ?_)
 cases h
 exact ⟨rfl, zE⟩
 refine zi (zs (zr ?_))
 refine zU (zl (zn (zq (yr (zt ?_)))))
 cases h
 exact ⟨rfl, zE⟩
 refine zj (zx (ze ?_))
 cases h
 exact ⟨rfl, zE⟩
 rcases o25 with ⟨⟩ | ⟨⟩
 try simp only at h
 refine zA (yh (zn (zs (zr ?_))))
 obtain ⟨h39, h⟩ := ite_some h
 refine zU (zl (zn (zs (zs (zr ?_)))))
 refine zU (zl (zn (zb ?_)))
 obtain ⟨l40, h41, h⟩ := zB h
 refine zO (fun (s : List (List Int) × Int) => ⟨[(0, .own 230007 2 0 s.1.length), (6, .p (.int .i64 s.2))], [(3, .arr 24 2 1 [.p (encDenial d2)]), (230007, .arr 57 1 2 (List.map AV.p (List.map (encL (PV.int .i64)) s.1)))]⟩) (fun (o42 : List (List Int)) => tE ⟨Tryz.prog, 70, 40, X, [(3, .arr 24 2 1 [.p (encDenial d2)]), (230007, .arr 57 1 1 (List.map AV.p (List.map (encL (PV.int .i64)) o12)))], i22, w23, D, h24⟩ (.exit 2) ⟨[(0, .own 230007 2 0 o42.length)], [(3, .arr 24 2 1 [.p (encDenial d2)]), (230007, .arr 57 1 2 (List.map AV.p (List.map (encL (PV.int .i64)) o42)))]⟩) h41 ?_ ?_
 clear h h14 h14T h16 h16a h16b h18 h19 h21 h26 h39 h41
 intro s x h
 obtain ⟨l43, k44⟩ := s
 simp only [drossref18_Violations_l6] at h
 dsimp only
 refine zs (zs (zd ?_))
 refine yU ?_
 rcases zI h with ⟨h45, h⟩ | ⟨h45, h⟩
 refine yw 39 true ?_
 refine yg ?_
 refine yg ?_
 obtain ⟨x46, h47, h47a, h47b, h⟩ := zX h
 refine yg ?_
 refine yg ?_
 refine yg ?_
 refine yg ?_
 refine yg ?_
 obtain ⟨x48, h49, h49a, h49b, h⟩ := zX h
 refine yg ?_
 refine yg ?_
 obtain ⟨r50, h51, h⟩ := zB h
 refine yc (drossref18_Before_con x46 x48 _ h51) ?_
 refine yU ?_
 refine yd (zn ?_)
 rcases zI h with ⟨h52, h⟩ | ⟨h52, h⟩
 refine zi (zk (zn (zs (zb (zd ?_)))))
 obtain ⟨x53, h54, h54a, h54b, h⟩ := zX h
 have h54B := eq_true (by simpa only [List.length_set] using h54b)
 refine yU ?_
 refine yd (yn (zn (zr ?_)))
 refine zU (zl ?_)
 cases h
 exact ⟨rfl, zE⟩
 refine zj (zx (ze ?_))
 cases h
 exact ⟨rfl, zE⟩
 refine yw 39 false ?_
 refine yk ?_
 refine yU ?_
 refine yd (zn ?_)
 refine zj (zx (ze ?_))
 cases h
 exact ⟨rfl, zE⟩
 try simp only at h
 refine zA (yh (zn (zs (zr ?_))))
 refine zU (zl (zn (zq ?_)))
 refine inlQ_ret (by simp only [Tryz.results46]; simp only [go_sem, seval, h14T, h19]; exact rfl) ?_
 refine zU (zl (yn (zn (zr ?_))))
 refine zU (zl ?_)
 cases h
 exact ⟨rfl, zE⟩
 try simp only at h
 refine zA (yr (zt ?_))
 refine inlQ_ret (by simp only [Tryz.results46]; simp only [go_sem, seval, h14T, h19]; exact rfl) ?_
 refine zU (zl (yn (zn (zr ?_))))
 refine zU (zl ?_)
 cases h
 exact ⟨rfl, zE⟩
 refine zj (zk (yn (zn (zr ?_))))
 refine zU (zl ?_)
 cases h
 exact ⟨rfl, zE⟩
 have h14T := eq_false h14
 refine zj (zx (ze ?_))
 cases h
 exact ⟨rfl, zE⟩
 try simp only at h
 refine zA (yh (zn (zs (zr ?_))))
 refine zU (zl (zn (zq ?_)))
 cases h
 exact zT Tryz.results31
end Go.Proofs.YtlaodgbkpmdhoaaGreatDoor
set_option linter.unusedVariables false
set_option linter.unusedSimpArgs false
namespace Go.Proofs.YtlaodgbkpmdhoaaGreatDoor
open Go Go.Ab
set_option maxHeartbeats 4000000 in
theorem denial_Holds_1_con {D : Prop} (a1 : List Row) (r2 : Bool) (h : denial_Holds_1 a1 = some r2) : Con D Tryz.prog 92 [(.slc (List.map encRow a1))] (.bool r2) := by
 refine zP Tryz.call92 Tryz.func92 rfl Tryz.ntmps92 fun X w hT => ?_
 simp only [denial_Holds_1] at h
 refine zs (zr ?_)
 refine zU (zl (zn (zs (zr ?_))))
 refine zU (zl (zn (zq ?_)))
 cases h
 exact zT Tryz.results92
end Go.Proofs.YtlaodgbkpmdhoaaGreatDoor
set_option linter.unusedVariables false
set_option linter.unusedSimpArgs false
namespace Go.Proofs.YtlaodgbkpmdhoaaGreatDoor
open Go Go.Ab
set_option maxHeartbeats 4000000 in
theorem denial_Holds_con (t1 : Table) (d2 : Denial) (r3 : Bool × Int) (h : denial_Holds t1 d2 = some r3) : Con False Tryz.prog 32 [(encTable t1), (encDenial d2)] (.tup [(.bool r3.1), (.int .i64 r3.2)]) := by
 refine zP Tryz.call32 Tryz.func32 rfl Tryz.ntmps32 fun X w hT => ?_
 simp only [denial_Holds] at h
 refine zs (zr ?_)
 refine zU (zl (zn (zs (zs (zr ?_)))))
 refine zU ?_
 obtain ⟨r4, h5, h⟩ := zB h
 refine zc (denial_checked_con t1 d2 _ h5) ?_
 refine zU (zl (zn (zs (zr ?_))))
 refine zU (zl (zn ?_))
 rcases zI h with ⟨h6, h⟩ | ⟨h6, h⟩
 refine zi (zs (zr ?_))
 refine zU (zl (zn (zq (zt ?_))))
 cases h
 exact zT Tryz.results32
 have h6F := Bool.eq_false_iff.2 h6
 refine zj (zk (zn (zs (zr ?_))))
 refine zU ?_
 refine zM ⟨[(13, .p (encTable t1)), (14, .p (encDenial d2))], []⟩ ?_
 refine AL_inline (avs := [.p (encTable t1), .p (encDenial d2), .nils, .p (.func (.func 92) [])]) 16 rfl (guard_none rfl) rfl Tryz.func82 rfl Tryz.call82 Tryz.ntmps82 (by simp) (by simp only [go_sem, seval, h6F]; all_goals rfl) ?_
 intro i7 w8 h9
 obtain ⟨l10, h11, h⟩ := zB h
 replace h11 := Option.some.inj h11
 refine awp_le (st' := ⟨[(0, .p (encTable t1)), (1, .p (encDenial d2)), (2, .p (.slc (List.map encRow l10))), (3, .p (.func (.func 92) []))], []⟩) (by simp only [go_sem, seval, h6F, ← h11]; all_goals ((repeat' refine And.intro ?_ ?_) <;> first | rfl | (simp; done) | (simp; rfl) | (simp [*]; done) | (simp [*]; rfl))) ?_
 clear h11
 refine zs (zr ?_)
 refine zU (zl (zn (zs (zs (zr ?_)))))
 refine zU (zl (zn ?_))
 rcases zI h with ⟨h12, h⟩ | ⟨h12, h⟩
 refine zi (zs (zr ?_))
 refine zU ?_
 obtain ⟨r13, h14, h⟩ := zB h
 refine zc (denial_satisfied_con l10 d2.Atoms _ h14) ?_
 refine zU ?_
 rcases zI h with ⟨h15, h⟩ | ⟨h15, h⟩
 refine zw 21 false ?_
 refine zg ?_
 refine zg ?_
 obtain ⟨r16, h17, h⟩ := zB h
 refine zc (denial_Holds_1_con l10 _ h17) ?_
 refine zU (zl (zn (zq (zt ?_))))
 refine inlQ_ret (by simp only [Tryz.results82]; simp only [go_sem, seval, h6F, h12, h15]; exact rfl) ?_
 refine zU (zl (zn (zq ?_)))
 cases h
 exact zT Tryz.results32
 have h15F := Bool.eq_false_iff.2 h15
 refine zw 21 true ?_
 refine zh ?_
 refine zU (zl (zn (zq (zt ?_))))
 refine inlQ_ret (by simp only [Tryz.results82]; simp only [go_sem, seval, h6F, h12, h15F]; exact rfl) ?_
 refine zU (zl (zn (zq ?_)))
 cases h
 exact zT Tryz.results32
 have h12F := Bool.eq_false_iff.2 h12
 refine zj (zk (zn (zs (zs (zr ?_)))))
 refine zU (zl (zn (zb ?_)))
 obtain ⟨o18, h19, h⟩ := zB h
 refine zO (fun (s : Int) => ⟨[(2, .p (.slc (List.map encRow l10))), (3, .p (.func (.func 92) [])), (4, .loc 20 1 0 0), (5, .loc 21 1 0 0), (27, .p (.slc (List.map encRow t1.Rows))), (28, .p (.int .i64 (t1.Rows.length : Int))), (29, .p (.int .i64 s))], [(20, .arr 41 3 1 [.p (encTable t1)]), (21, .arr 24 2 1 [.p (encDenial d2)])]⟩) (fun (o : (Unit) ⊕ (Unit)) => match o with | .inl o20 => tE ⟨Tryz.prog, 47, 16, X, [], i7, w8, False, h9⟩ (.exit 0) ⟨[], []⟩ | .inr o21 => tE ⟨Tryz.prog, 47, 16, X, [], i7, w8, False, h9⟩ .ret ⟨[(8, .p (.bool false))], []⟩) h19 ?_ ?_
 clear h h5 h6 h6F h12 h12F h19
 intro t22 x h
 simp only [denial_Holds_l40] at h
 refine zs (zr ?_)
 refine zU (zl (zn (zs ?_)))
 rcases zI h with ⟨h23, h⟩ | ⟨h23, h⟩
 have h23T := eq_true h23
 refine zi (zk (zn (zs (zb (zs (zr ?_))))))
 obtain ⟨x24, h25, h25a, h25b, h⟩ := zX h
 refine zU (zl (zn (zs (zs (zr ?_)))))
 refine zU ?_
 obtain ⟨r26, h27, h⟩ := zB h
 refine zc (slices_ContainsFunc_Row_con l10 (fun (y28 : Row) => denial_visit_1 y28 x24) 125 [.imm [.int .i64 x24.ID, .slc (List.map encValue x24.Values)]] (fun y28 r h => denial_visit_1_con y28 x24 r h) _ h27) ?_
 refine zl (zn ?_)
 rcases zI h with ⟨h29, h⟩ | ⟨h29, h⟩
 refine zi (zx (ze (yh (zn (zr ?_)))))
 refine zU (zl ?_)
 cases h
 exact ⟨rfl, zE⟩
 have h29F := Bool.eq_false_iff.2 h29
 refine zj (zk (zn (zs ?_)))
 refine zdl 8 ?_
 refine yU ?_
 obtain ⟨h30, h⟩ := ite_some h
 refine yK cln126 55 encRow l10 _ rfl ⟨by unfold maxLen; omega, by omega⟩ ?_
 have h31 := @take_cut PV
 obtain ⟨h32, h⟩ := ite_some h
 refine yU ?_
 refine ydlS ?_
 refine zM ⟨[(2, .p (.slc (List.map encRow l10))), (3, .p (.func (.func 92) [])), (4, .loc 20 1 0 0), (5, .loc 21 1 0 0), (27, .p (.slc (List.map encRow t1.Rows))), (28, .p (.int .i64 (t1.Rows.length : Int))), (29, .p (.int .i64 t22)), (36, .p (encTable t1)), (37, .p (encDenial d2)), (42, .p (.slc (List.map encRow (l10 ++ [x24])))), (43, .p (.func (.func 92) []))], [(20, .arr 41 3 1 [.p (encTable t1)]), (21, .arr 24 2 1 [.p (encDenial d2)])]⟩ ?_
 refine AL_inline (avs := [.p (encTable t1), .p (encDenial d2), .p (.slc (List.map encRow (l10 ++ [x24]))), .p (.func (.func 92) [])]) 63 rfl (guard_none rfl) rfl Tryz.func82 rfl Tryz.call82 Tryz.ntmps82 (by simp) (by simp only [go_sem, seval, h23T, h29F]; all_goals rfl) ?_
 intro i33 w34 h35
 obtain ⟨l36, h37, h⟩ := zB h
 replace h37 := Option.some.inj h37
 refine awp_le (st' := ⟨[(0, .p (encTable t1)), (1, .p (encDenial d2)), (2, .p (.slc (List.map encRow l36))), (3, .p (.func (.func 92) []))], [(20, .arr 41 3 1 [.p (encTable t1)]), (21, .arr 24 2 1 [.p (encDenial d2)])]⟩) (by simp only [go_sem, seval, h23T, h29F, ← h37]; all_goals ((repeat' refine And.intro ?_ ?_) <;> first | rfl | (simp; done) | (simp; rfl) | (simp [*]; done) | (simp [*]; rfl))) ?_
 clear h37
 refine zs (zr ?_)
 refine zU (zl (zn (zs (zs (zr ?_)))))
 refine zU (zl (zn ?_))
 rcases zI h with ⟨h38, h⟩ | ⟨h38, h⟩
 refine zi (zs (zr ?_))
 refine zU ?_
 obtain ⟨r39, h40, h⟩ := zB h
 refine zc (denial_satisfied_con l36 d2.Atoms _ h40) ?_
 refine zU ?_
 rcases zI h with ⟨h41, h⟩ | ⟨h41, h⟩
 refine zw 21 false ?_
 refine zg ?_
 refine zg ?_
 obtain ⟨r42, h43, h⟩ := zB h
 refine zc (denial_Holds_1_con l36 _ h43) ?_
 refine zU (zl (zn (zq (zt ?_))))
 refine inlQ_ret (by simp only [Tryz.results82]; simp only [go_sem, seval, h23T, h29F, h38, h41]; exact rfl) ?_
 refine zU (zl (zn ?_))
 rcases zI h with ⟨h44, h⟩ | ⟨h44, h⟩
 refine zj (zk (yn (zn (zr ?_))))
 refine zU (zl ?_)
 cases h
 exact ⟨rfl, zE⟩
 refine zi (zs (zr ?_))
 refine zU (zl (zn (zq (yr (zt ?_)))))
 cases h
 exact ⟨rfl, zE⟩
 have h41F := Bool.eq_false_iff.2 h41
 refine zw 21 true ?_
 refine zh ?_
 refine zU (zl (zn (zq (zt ?_))))
 refine inlQ_ret (by simp only [Tryz.results82]; simp only [go_sem, seval, h23T, h29F, h38, h41F]; exact rfl) ?_
 refine zU (zl (zn ?_))
 refine zj (zk (yn (zn (zr ?_))))
 refine zU (zl ?_)
 cases h
 exact ⟨rfl, zE⟩
 have h38F := Bool.eq_false_iff.2 h38
 refine zj (zk (zn (zs (zs (zr ?_)))))
 refine zU (zl (zn (zb ?_)))
 obtain ⟨o45, h46, h⟩ := zB h
 refine zO (fun (s : Int) => ⟨[(2, .p (.slc (List.map encRow l36))), (3, .p (.func (.func 92) [])), (4, .loc 67 1 0 0), (5, .loc 68 1 0 0), (27, .p (.slc (List.map encRow t1.Rows))), (28, .p (.int .i64 (t1.Rows.length : Int))), (29, .p (.int .i64 s))], [(20, .arr 41 3 1 [.p (encTable t1)]), (21, .arr 24 2 1 [.p (encDenial d2)]), (67, .arr 41 3 1 [.p (encTable t1)]), (68, .arr 24 2 1 [.p (encDenial d2)])]⟩) (fun (o : (Unit) ⊕ (Unit)) => match o with | .inl o47 => tE ⟨Tryz.prog, 47, 63, X, [(20, .arr 41 3 1 [.p (encTable t1)]), (21, .arr 24 2 1 [.p (encDenial d2)])], i33, w34, False, h35⟩ (.exit 0) ⟨[], [(20, .arr 41 3 1 [.p (encTable t1)]), (21, .arr 24 2 1 [.p (encDenial d2)])]⟩ | .inr o48 => tE ⟨Tryz.prog, 47, 63, X, [(20, .arr 41 3 1 [.p (encTable t1)]), (21, .arr 24 2 1 [.p (encDenial d2)])], i33, w34, False, h35⟩ .ret ⟨[(8, .p (.bool false))], [(20, .arr 41 3 1 [.p (encTable t1)]), (21, .arr 24 2 1 [.p (encDenial d2)])]⟩) h46 ?_ ?_
 clear h h23 h23T h25 h25a h25b h27 h29 h29F h30 h31 h32 h38 h38F h46
 intro t49 x h
 simp only [denial_Holds_l39] at h
 refine zs (zr ?_)
 refine zU (zl (zn (zs ?_)))
 rcases zI h with ⟨h50, h⟩ | ⟨h50, h⟩
 have h50T := eq_true h50
 refine zi (zk (zn (zs (zb (zs (zr ?_))))))
 obtain ⟨x51, h52, h52a, h52b, h⟩ := zX h
 refine zU (zl (zn (zs (zs (zr ?_)))))
 refine zU ?_
 obtain ⟨r53, h54, h⟩ := zB h
 refine zc (slices_ContainsFunc_Row_con l36 (fun (y55 : Row) => denial_visit_1 y55 x51) 125 [.imm [.int .i64 x51.ID, .slc (List.map encValue x51.Values)]] (fun y55 r h => denial_visit_1_con y55 x51 r h) _ h54) ?_
 refine zl (zn ?_)
 rcases zI h with ⟨h56, h⟩ | ⟨h56, h⟩
 refine zi (zx (ze (yh (zn (zr ?_)))))
 refine zU (zl ?_)
 cases h
 exact ⟨rfl, zE⟩
 have h56F := Bool.eq_false_iff.2 h56
 refine zj (zk (zn (zs ?_)))
 refine zdl 8 ?_
 refine yU ?_
 obtain ⟨h57, h⟩ := ite_some h
 refine yK cln126 102 encRow l36 _ rfl ⟨by unfold maxLen; omega, by omega⟩ ?_
 have h58 := @take_cut PV
 obtain ⟨h59, h⟩ := ite_some h
 refine yU ?_
 refine ydlS ?_
 refine zM ⟨[(2, .p (.slc (List.map encRow l36))), (3, .p (.func (.func 92) [])), (4, .loc 67 1 0 0), (5, .loc 68 1 0 0), (27, .p (.slc (List.map encRow t1.Rows))), (28, .p (.int .i64 (t1.Rows.length : Int))), (29, .p (.int .i64 t49)), (36, .p (encTable t1)), (37, .p (encDenial d2)), (42, .p (.slc (List.map encRow (l36 ++ [x51])))), (43, .p (.func (.func 92) []))], [(20, .arr 41 3 1 [.p (encTable t1)]), (21, .arr 24 2 1 [.p (encDenial d2)]), (67, .arr 41 3 1 [.p (encTable t1)]), (68, .arr 24 2 1 [.p (encDenial d2)])]⟩ ?_
 refine AL_inline (avs := [.p (encTable t1), .p (encDenial d2), .p (.slc (List.map encRow (l36 ++ [x51]))), .p (.func (.func 92) [])]) 110 rfl (guard_none rfl) rfl Tryz.func82 rfl Tryz.call82 Tryz.ntmps82 (by simp) (by simp only [go_sem, seval, h50T, h56F]; all_goals rfl) ?_
 intro i60 w61 h62
 obtain ⟨l63, h64, h⟩ := zB h
 replace h64 := Option.some.inj h64
 refine awp_le (st' := ⟨[(0, .p (encTable t1)), (1, .p (encDenial d2)), (2, .p (.slc (List.map encRow l63))), (3, .p (.func (.func 92) []))], [(20, .arr 41 3 1 [.p (encTable t1)]), (21, .arr 24 2 1 [.p (encDenial d2)]), (67, .arr 41 3 1 [.p (encTable t1)]), (68, .arr 24 2 1 [.p (encDenial d2)])]⟩) (by simp only [go_sem, seval, h50T, h56F, ← h64]; all_goals ((repeat' refine And.intro ?_ ?_) <;> first | rfl | (simp; done) | (simp; rfl) | (simp [*]; done) | (simp [*]; rfl))) ?_
 clear h64
 refine zs (zr ?_)
 refine zU (zl (zn (zs (zs (zr ?_)))))
 refine zU (zl (zn ?_))
 rcases zI h with ⟨h65, h⟩ | ⟨h65, h⟩
 refine zi (zs (zr ?_))
 refine zU ?_
 obtain ⟨r66, h67, h⟩ := zB h
 refine zc (denial_satisfied_con l63 d2.Atoms _ h67) ?_
 refine zU ?_
 rcases zI h with ⟨h68, h⟩ | ⟨h68, h⟩
 refine zw 21 false ?_
 refine zg ?_
 refine zg ?_
 obtain ⟨r69, h70, h⟩ := zB h
 refine zc (denial_Holds_1_con l63 _ h70) ?_
 refine zU (zl (zn (zq (zt ?_))))
 refine inlQ_ret (by simp only [Tryz.results82]; simp only [go_sem, seval, h50T, h56F, h65, h68]; exact rfl) ?_
 refine zU (zl (zn ?_))
 rcases zI h with ⟨h71, h⟩ | ⟨h71, h⟩
 refine zj (zk (yn (zn (zr ?_))))
 refine zU (zl ?_)
 cases h
 exact ⟨rfl, zE⟩
 refine zi (zs (zr ?_))
 refine zU (zl (zn (zq (yr (zt ?_)))))
 cases h
 exact ⟨rfl, zE⟩
 have h68F := Bool.eq_false_iff.2 h68
 refine zw 21 true ?_
 refine zh ?_
 refine zU (zl (zn (zq (zt ?_))))
 refine inlQ_ret (by simp only [Tryz.results82]; simp only [go_sem, seval, h50T, h56F, h65, h68F]; exact rfl) ?_
 refine zU (zl (zn ?_))
 refine zj (zk (yn (zn (zr ?_))))
 refine zU (zl ?_)
 cases h
 exact ⟨rfl, zE⟩
 have h65F := Bool.eq_false_iff.2 h65
 refine zj (zk (zn (zs (zs (zr ?_)))))
 refine zU (zl (zn (zb ?_)))
 obtain ⟨o72, h73, h⟩ := zB h
 refine zO (fun (s : Int) => ⟨[(2, .p (.slc (List.map encRow l63))), (3, .p (.func (.func 92) [])), (4, .loc 114 1 0 0), (5, .loc 115 1 0 0), (27, .p (.slc (List.map encRow t1.Rows))), (28, .p (.int .i64 (t1.Rows.length : Int))), (29, .p (.int .i64 s))], [(20, .arr 41 3 1 [.p (encTable t1)]), (21, .arr 24 2 1 [.p (encDenial d2)]), (67, .arr 41 3 1 [.p (encTable t1)]), (68, .arr 24 2 1 [.p (encDenial d2)]), (114, .arr 41 3 1 [.p (encTable t1)]), (115, .arr 24 2 1 [.p (encDenial d2)])]⟩) (fun (o : (Unit) ⊕ (Unit)) => match o with | .inl o74 => tE ⟨Tryz.prog, 47, 110, X, [(20, .arr 41 3 1 [.p (encTable t1)]), (21, .arr 24 2 1 [.p (encDenial d2)]), (67, .arr 41 3 1 [.p (encTable t1)]), (68, .arr 24 2 1 [.p (encDenial d2)])], i60, w61, False, h62⟩ (.exit 0) ⟨[], [(20, .arr 41 3 1 [.p (encTable t1)]), (21, .arr 24 2 1 [.p (encDenial d2)]), (67, .arr 41 3 1 [.p (encTable t1)]), (68, .arr 24 2 1 [.p (encDenial d2)])]⟩ | .inr o75 => tE ⟨Tryz.prog, 47, 110, X, [(20, .arr 41 3 1 [.p (encTable t1)]), (21, .arr 24 2 1 [.p (encDenial d2)]), (67, .arr 41 3 1 [.p (encTable t1)]), (68, .arr 24 2 1 [.p (encDenial d2)])], i60, w61, False, h62⟩ .ret ⟨[(8, .p (.bool false))], [(20, .arr 41 3 1 [.p (encTable t1)]), (21, .arr 24 2 1 [.p (encDenial d2)]), (67, .arr 41 3 1 [.p (encTable t1)]), (68, .arr 24 2 1 [.p (encDenial d2)])]⟩) h73 ?_ ?_
 clear h h50 h50T h52 h52a h52b h54 h56 h56F h57 h58 h59 h65 h65F h73
 intro t76 x h
 simp only [denial_Holds_l38] at h
 refine zs (zr ?_)
 refine zU (zl (zn (zs ?_)))
 rcases zI h with ⟨h77, h⟩ | ⟨h77, h⟩
 have h77T := eq_true h77
 refine zi (zk (zn (zs (zb (zs (zr ?_))))))
 obtain ⟨x78, h79, h79a, h79b, h⟩ := zX h
 refine zU (zl (zn (zs (zs (zr ?_)))))
 refine zU ?_
 obtain ⟨r80, h81, h⟩ := zB h
 refine zc (slices_ContainsFunc_Row_con l63 (fun (y82 : Row) => denial_visit_1 y82 x78) 125 [.imm [.int .i64 x78.ID, .slc (List.map encValue x78.Values)]] (fun y82 r h => denial_visit_1_con y82 x78 r h) _ h81) ?_
 refine zl (zn ?_)
 rcases zI h with ⟨h83, h⟩ | ⟨h83, h⟩
 refine zi (zx (ze (yh (zn (zr ?_)))))
 refine zU (zl ?_)
 cases h
 exact ⟨rfl, zE⟩
 have h83F := Bool.eq_false_iff.2 h83
 refine zj (zk (zn (zs ?_)))
 refine zdl 8 ?_
 refine yU ?_
 obtain ⟨h84, h⟩ := ite_some h
 refine yK cln126 149 encRow l63 _ rfl ⟨by unfold maxLen; omega, by omega⟩ ?_
 have h85 := @take_cut PV
 obtain ⟨h86, h⟩ := ite_some h
 refine yU ?_
 refine ydlS ?_
 refine zM ⟨[(2, .p (.slc (List.map encRow l63))), (3, .p (.func (.func 92) [])), (4, .loc 114 1 0 0), (5, .loc 115 1 0 0), (27, .p (.slc (List.map encRow t1.Rows))), (28, .p (.int .i64 (t1.Rows.length : Int))), (29, .p (.int .i64 t76)), (36, .p (encTable t1)), (37, .p (encDenial d2)), (42, .p (.slc (List.map encRow (l63 ++ [x78])))), (43, .p (.func (.func 92) []))], [(20, .arr 41 3 1 [.p (encTable t1)]), (21, .arr 24 2 1 [.p (encDenial d2)]), (67, .arr 41 3 1 [.p (encTable t1)]), (68, .arr 24 2 1 [.p (encDenial d2)]), (114, .arr 41 3 1 [.p (encTable t1)]), (115, .arr 24 2 1 [.p (encDenial d2)])]⟩ ?_
 refine AL_inline (avs := [.p (encTable t1), .p (encDenial d2), .p (.slc (List.map encRow (l63 ++ [x78]))), .p (.func (.func 92) [])]) 157 rfl (guard_none rfl) rfl Tryz.func82 rfl Tryz.call82 Tryz.ntmps82 (by simp) (by simp only [go_sem, seval, h77T, h83F]; all_goals rfl) ?_
 intro i87 w88 h89
 obtain ⟨l90, h91, h⟩ := zB h
 replace h91 := Option.some.inj h91
 refine awp_le (st' := ⟨[(0, .p (encTable t1)), (1, .p (encDenial d2)), (2, .p (.slc (List.map encRow l90))), (3, .p (.func (.func 92) []))], [(20, .arr 41 3 1 [.p (encTable t1)]), (21, .arr 24 2 1 [.p (encDenial d2)]), (67, .arr 41 3 1 [.p (encTable t1)]), (68, .arr 24 2 1 [.p (encDenial d2)]), (114, .arr 41 3 1 [.p (encTable t1)]), (115, .arr 24 2 1 [.p (encDenial d2)])]⟩) (by simp only [go_sem, seval, h77T, h83F, ← h91]; all_goals ((repeat' refine And.intro ?_ ?_) <;> first | rfl | (simp; done) | (simp; rfl) | (simp [*]; done) | (simp [*]; rfl))) ?_
 clear h91
 refine zs (zr ?_)
 refine zU (zl (zn (zs (zs (zr ?_)))))
 refine zU (zl (zn ?_))
 rcases zI h with ⟨h92, h⟩ | ⟨h92, h⟩
 refine zi (zs (zr ?_))
 refine zU ?_
 obtain ⟨r93, h94, h⟩ := zB h
 refine zc (denial_satisfied_con l90 d2.Atoms _ h94) ?_
 refine zU ?_
 rcases zI h with ⟨h95, h⟩ | ⟨h95, h⟩
 refine zw 21 false ?_
 refine zg ?_
 refine zg ?_
 obtain ⟨r96, h97, h⟩ := zB h
 refine zc (denial_Holds_1_con l90 _ h97) ?_
 refine zU (zl (zn (zq (zt ?_))))
 refine inlQ_ret (by simp only [Tryz.results82]; simp only [go_sem, seval, h77T, h83F, h92, h95]; exact rfl) ?_
 refine zU (zl (zn ?_))
 rcases zI h with ⟨h98, h⟩ | ⟨h98, h⟩
 refine zj (zk (yn (zn (zr ?_))))
 refine zU (zl ?_)
 cases h
 exact ⟨rfl, zE⟩
 refine zi (zs (zr ?_))
 refine zU (zl (zn (zq (yr (zt ?_)))))
 cases h
 exact ⟨rfl, zE⟩
 have h95F := Bool.eq_false_iff.2 h95
 refine zw 21 true ?_
 refine zh ?_
 refine zU (zl (zn (zq (zt ?_))))
 refine inlQ_ret (by simp only [Tryz.results82]; simp only [go_sem, seval, h77T, h83F, h92, h95F]; exact rfl) ?_
 refine zU (zl (zn ?_))
 refine zj (zk (yn (zn (zr ?_))))
 refine zU (zl ?_)
 cases h
 exact ⟨rfl, zE⟩
 have h92F := Bool.eq_false_iff.2 h92
 refine zj (zk (zn (zs (zs (zr ?_)))))
 refine zU (zl (zn (zb ?_)))
 obtain ⟨o99, h100, h⟩ := zB h
 refine zO (fun (s : Int) => ⟨[(2, .p (.slc (List.map encRow l90))), (3, .p (.func (.func 92) [])), (4, .loc 161 1 0 0), (5, .loc 162 1 0 0), (27, .p (.slc (List.map encRow t1.Rows))), (28, .p (.int .i64 (t1.Rows.length : Int))), (29, .p (.int .i64 s))], [(20, .arr 41 3 1 [.p (encTable t1)]), (21, .arr 24 2 1 [.p (encDenial d2)]), (67, .arr 41 3 1 [.p (encTable t1)]), (68, .arr 24 2 1 [.p (encDenial d2)]), (114, .arr 41 3 1 [.p (encTable t1)]), (115, .arr 24 2 1 [.p (encDenial d2)]), (161, .arr 41 3 1 [.p (encTable t1)]), (162, .arr 24 2 1 [.p (encDenial d2)])]⟩) (fun (o101 : Unit) => tE ⟨Tryz.prog, 47, 157, X, [(20, .arr 41 3 1 [.p (encTable t1)]), (21, .arr 24 2 1 [.p (encDenial d2)]), (67, .arr 41 3 1 [.p (encTable t1)]), (68, .arr 24 2 1 [.p (encDenial d2)]), (114, .arr 41 3 1 [.p (encTable t1)]), (115, .arr 24 2 1 [.p (encDenial d2)])], i87, w88, False, h89⟩ (.exit 0) ⟨[], [(20, .arr 41 3 1 [.p (encTable t1)]), (21, .arr 24 2 1 [.p (encDenial d2)]), (67, .arr 41 3 1 [.p (encTable t1)]), (68, .arr 24 2 1 [.p (encDenial d2)]), (114, .arr 41 3 1 [.p (encTable t1)]), (115, .arr 24 2 1 [.p (encDenial d2)])]⟩) h100 ?_ ?_
 clear h h77 h77T h79 h79a h79b h81 h83 h83F h84 h85 h86 h92 h92F h100
 intro t102 x h
 simp only [denial_Holds_l37] at h
 refine zs (zr ?_)
 refine zU (zl (zn (zs ?_)))
 rcases zI h with ⟨h103, h⟩ | ⟨h103, h⟩
 refine zi (zk (zn (zs (zb (zs (zr ?_))))))
 obtain ⟨x104, h105, h105a, h105b, h⟩ := zX h
 refine zU (zl (zn (zs (zs (zr ?_)))))
 refine zU ?_
 obtain ⟨r106, h107, h⟩ := zB h
 refine zc (slices_ContainsFunc_Row_con l90 (fun (y108 : Row) => denial_visit_1 y108 x104) 125 [.imm [.int .i64 x104.ID, .slc (List.map encValue x104.Values)]] (fun y108 r h => denial_visit_1_con y108 x104 r h) _ h107) ?_
 refine zl (zn ?_)
 rcases zI h with ⟨h109, h⟩ | ⟨h109, h⟩
 refine zi (zx (ze (yh (zn (zr ?_)))))
 refine zU (zl ?_)
 cases h
 exact ⟨rfl, zE⟩
 cases h
 refine zj (zx (ze ?_))
 cases h
 exact ⟨rfl, zE⟩
 cases o99
 try simp only at h
 refine zA (yh (zn (zs (zr ?_))))
 refine zU (zl (zn (zq ?_)))
 refine inlQ_ret (by simp only [Tryz.results82]; simp only [go_sem, seval, h77T, h83F, h92F]; exact rfl) ?_
 refine zU (zl (zn ?_))
 refine zj (zk (yn (zn (zr ?_))))
 refine zU (zl ?_)
 cases h
 exact ⟨rfl, zE⟩
 have h77T := eq_false h77
 refine zj (zx (ze ?_))
 cases h
 exact ⟨rfl, zE⟩
 rcases o72 with ⟨⟩ | ⟨⟩
 try simp only at h
 refine zA (yh (zn (zs (zr ?_))))
 refine zU (zl (zn (zq ?_)))
 refine inlQ_ret (by simp only [Tryz.results82]; simp only [go_sem, seval, h50T, h56F, h65F]; exact rfl) ?_
 refine zU (zl (zn ?_))
 refine zj (zk (yn (zn (zr ?_))))
 refine zU (zl ?_)
 cases h
 exact ⟨rfl, zE⟩
 try simp only at h
 refine zA (yr (zt ?_))
 refine inlQ_ret (by simp only [Tryz.results82]; simp only [go_sem, seval, h50T, h56F, h65F]; exact rfl) ?_
 refine zU (zl (zn ?_))
 refine zi (zs (zr ?_))
 refine zU (zl (zn (zq (yr (zt ?_)))))
 cases h
 exact ⟨rfl, zE⟩
 have h50T := eq_false h50
 refine zj (zx (ze ?_))
 cases h
 exact ⟨rfl, zE⟩
 rcases o45 with ⟨⟩ | ⟨⟩
 try simp only at h
 refine zA (yh (zn (zs (zr ?_))))
 refine zU (zl (zn (zq ?_)))
 refine inlQ_ret (by simp only [Tryz.results82]; simp only [go_sem, seval, h23T, h29F, h38F]; exact rfl) ?_
 refine zU (zl (zn ?_))
 refine zj (zk (yn (zn (zr ?_))))
 refine zU (zl ?_)
 cases h
 exact ⟨rfl, zE⟩
 try simp only at h
 refine zA (yr (zt ?_))
 refine inlQ_ret (by simp only [Tryz.results82]; simp only [go_sem, seval, h23T, h29F, h38F]; exact rfl) ?_
 refine zU (zl (zn ?_))
 refine zi (zs (zr ?_))
 refine zU (zl (zn (zq (yr (zt ?_)))))
 cases h
 exact ⟨rfl, zE⟩
 have h23T := eq_false h23
 refine zj (zx (ze ?_))
 cases h
 exact ⟨rfl, zE⟩
 rcases o18 with ⟨⟩ | ⟨⟩
 try simp only at h
 refine zA (yh (zn (zs (zr ?_))))
 refine zU (zl (zn (zq ?_)))
 refine inlQ_ret (by simp only [Tryz.results82]; simp only [go_sem, seval, h6F, h12F]; exact rfl) ?_
 refine zU (zl (zn (zq ?_)))
 cases h
 exact zT Tryz.results32
 try simp only at h
 refine zA (yr (zt ?_))
 refine inlQ_ret (by simp only [Tryz.results82]; simp only [go_sem, seval, h6F, h12F]; exact rfl) ?_
 refine zU (zl (zn (zq ?_)))
 cases h
 exact zT Tryz.results32
end Go.Proofs.YtlaodgbkpmdhoaaGreatDoor
set_option linter.unusedVariables false
set_option linter.unusedSimpArgs false
namespace Go.Proofs.YtlaodgbkpmdhoaaGreatDoor
open Go Go.Ab
set_option maxRecDepth 20000 in
set_option maxHeartbeats 4000000 in
theorem drosslaw18_DenialViolations_con (x1 : Drossref03_Recipe) (r2 : Drossref18_Recipe) (w3 : Int) (r4 : Bool) (h : drosslaw18_DenialViolations x1 r2 w3 = some r4) : Con False Tryz.prog 7 [(encDrossref03_Recipe x1), (encDrossref18_Recipe r2), (.int .u8 w3)] (.bool r4) := by
 refine zP Tryz.call7 Tryz.func7 rfl Tryz.ntmps7 fun X w hT => ?_
 simp only [drosslaw18_DenialViolations] at h
 refine zs (zr ?_)
 refine zU (zl (zn (zs (zr ?_))))
 refine zU ?_
 obtain ⟨r5, h6, h⟩ := zB h
 refine zc (drossref03_Table_con x1 7 _ h6) ?_
 refine zU (zl (zn (zs (zr ?_))))
 refine zU ?_
 obtain ⟨r7, h8, h⟩ := zB h
 refine zc (drossref18_Of_con (r5.1.Attrs.length : Int) r2 _ h8) ?_
 refine zU (zl (zn (zs ?_)))
 obtain ⟨t9, h10, h⟩ := zB h
 refine zJ (fun (o11 : Bool) => tE (cX Tryz.f7 X w False hT) .normal ⟨[(2, .p (.int .u8 w3)), (7, .loc 7 1 0 0), (9, .loc 9 1 0 0), (39, .p (.bool o11))], [(7, .arr 41 3 1 [.p (encTable r5.1)]), (9, .arr 24 2 1 [.p (encDenial r7.1)])]⟩) t9 ?_ ?_
 replace h := h10
 clear h10
 refine zr ?_
 obtain ⟨r12, h13, h⟩ := zB h
 refine zc (drosslaw18_awake_con  _ h13) ?_
 refine zU ?_
 rcases zI h with ⟨h14, h⟩ | ⟨h14, h⟩
 refine zw 32 false ?_
 refine zg ?_
 refine zg ?_
 refine zU ?_
 rcases zI h with ⟨h15, h⟩ | ⟨h15, h⟩
 replace h := h.symm
 refine zw 36 false ?_
 refine zg ?_
 refine zg ?_
 refine zU (zl ?_)
 cases h
 exact ⟨rfl, zE⟩
 refine zw 36 true ?_
 refine zh ?_
 refine zU (zl ?_)
 cases h
 exact ⟨rfl, zE⟩
 refine zw 32 true ?_
 refine zh ?_
 refine zU ?_
 refine zh ?_
 refine zU (zl ?_)
 cases h
 exact ⟨rfl, zE⟩
 try simp only at h
 refine zA (zn ?_)
 rcases zI h with ⟨h16, h⟩ | ⟨h16, h⟩
 refine zi (zs (zr ?_))
 obtain ⟨r17, h18, h⟩ := zB h
 refine zc (drosslaw18_awake_con  _ h18) ?_
 refine zU (zl (zn (zq (zt ?_))))
 cases h
 exact zT Tryz.results7
 refine zj (zk (zn (zs (zs (zr ?_)))))
 refine zU (zl (zn (zb (zs (zr ?_)))))
 refine zU (zl (zn ?_))
 rcases zI h with ⟨h19, h⟩ | ⟨h19, h⟩
 refine zi (zr ?_)
 refine zU (zl (yn (zn (zs (zd ?_)))))
 refine yU ?_
 obtain ⟨r20, h21, h⟩ := zB h
 refine yc (drosslaw18_copied_con (Denial.mk 4 r7.1.Atoms) _ h21) ?_
 obtain ⟨r22, h23, h⟩ := zB h
 refine yc (denial_Violations_con r5.1 r20 _ h23) ?_
 refine yU ?_
 refine yd (zn (zs (zr ?_)))
 refine zU ?_
 obtain ⟨r24, h25, h⟩ := zB h
 refine zc (drossref18_Violations_con r5.1 (Denial.mk 4 r7.1.Atoms) _ h25) ?_
 refine zU (zl (zn (zs (zd ?_))))
 refine yU ?_
 obtain ⟨r26, h27, h⟩ := zB h
 refine yc (drosslaw18_copied_con (Denial.mk 4 r7.1.Atoms) _ h27) ?_
 obtain ⟨r28, h29, h⟩ := zB h
 refine yc (denial_Holds_con r5.1 r26 _ h29) ?_
 refine yU ?_
 refine yd (zn (zs (zr ?_)))
 refine zU ?_
 rcases zI h with ⟨h30, h⟩ | ⟨h30, h⟩
 refine zw 71 true ?_
 refine zg ?_
 refine zg ?_
 refine zg ?_
 refine zU ?_
 rcases zI h with ⟨h31, h⟩ | ⟨h31, h⟩
 refine zw 76 true ?_
 refine zg ?_
 refine zg ?_
 obtain ⟨r32, h33, h⟩ := zB h
 refine zc (drossref18_Lists_con r22.1 r24.1 _ h33) ?_
 refine zU ?_
 rcases zI h with ⟨h34, h⟩ | ⟨h34, h⟩
 refine zw 81 true ?_
 refine zg ?_
 refine zg ?_
 refine zg ?_
 refine zg ?_
 rcases zI h with ⟨h35, h⟩ | ⟨h35, h⟩
 replace h := h.symm
 refine zw 85 true ?_
 refine zg ?_
 refine zg ?_
 refine zg ?_
 refine zg ?_
 refine zg ?_
 refine zU (zl (zn (zq ?_)))
 cases h
 exact zT Tryz.results7
 replace h := h.symm
 refine zw 85 false ?_
 refine zh ?_
 refine zg ?_
 refine zg ?_
 refine zU (zl (zn (zq ?_)))
 cases h
 exact zT Tryz.results7
 refine zw 81 false ?_
 refine zh ?_
 refine zU (zl (zn (zq ?_)))
 cases h
 exact zT Tryz.results7
 refine zw 76 false ?_
 refine zh ?_
 refine zU ?_
 refine zh ?_
 refine zU (zl (zn (zq ?_)))
 cases h
 exact zT Tryz.results7
 refine zw 71 false ?_
 refine zh ?_
 refine zU ?_
 refine zh ?_
 refine zU ?_
 refine zh ?_
 refine zU (zl (zn (zq ?_)))
 cases h
 exact zT Tryz.results7
 refine zj (zs (zr ?_))
 refine zU (zl (zn ?_))
 rcases zI h with ⟨h36, h⟩ | ⟨h36, h⟩
 refine zi (zr ?_)
 refine zU (zl (yn (zn (zs (zd ?_)))))
 refine yU ?_
 obtain ⟨r37, h38, h⟩ := zB h
 refine yc (drosslaw18_copied_con r7.1 _ h38) ?_
 obtain ⟨r39, h40, h⟩ := zB h
 refine yc (denial_Violations_con (Table.mk [] r5.1.Attrs r5.1.Rows) r37 _ h40) ?_
 refine yU ?_
 refine yd (zn (zs (zr ?_)))
 refine zU ?_
 obtain ⟨r41, h42, h⟩ := zB h
 refine zc (drossref18_Violations_con (Table.mk [] r5.1.Attrs r5.1.Rows) r7.1 _ h42) ?_
 refine zU (zl (zn (zs (zd ?_))))
 refine yU ?_
 obtain ⟨r43, h44, h⟩ := zB h
 refine yc (drosslaw18_copied_con r7.1 _ h44) ?_
 obtain ⟨r45, h46, h⟩ := zB h
 refine yc (denial_Holds_con (Table.mk [] r5.1.Attrs r5.1.Rows) r43 _ h46) ?_
 refine yU ?_
 refine yd (zn (zs (zr ?_)))
 refine zU ?_
 rcases zI h with ⟨h47, h⟩ | ⟨h47, h⟩
 refine zw 71 true ?_
 refine zg ?_
 refine zg ?_
 refine zg ?_
 refine zU ?_
 rcases zI h with ⟨h48, h⟩ | ⟨h48, h⟩
 refine zw 76 true ?_
 refine zg ?_
 refine zg ?_
 obtain ⟨r49, h50, h⟩ := zB h
 refine zc (drossref18_Lists_con r39.1 r41.1 _ h50) ?_
 refine zU ?_
 rcases zI h with ⟨h51, h⟩ | ⟨h51, h⟩
 refine zw 81 true ?_
 refine zg ?_
 refine zg ?_
 refine zg ?_
 refine zg ?_
 rcases zI h with ⟨h52, h⟩ | ⟨h52, h⟩
 replace h := h.symm
 refine zw 85 true ?_
 refine zg ?_
 refine zg ?_
 refine zg ?_
 refine zg ?_
 refine zg ?_
 refine zU (zl (zn (zq ?_)))
 cases h
 exact zT Tryz.results7
 replace h := h.symm
 refine zw 85 false ?_
 refine zh ?_
 refine zg ?_
 refine zg ?_
 refine zU (zl (zn (zq ?_)))
 cases h
 exact zT Tryz.results7
 refine zw 81 false ?_
 refine zh ?_
 refine zU (zl (zn (zq ?_)))
 cases h
 exact zT Tryz.results7
 refine zw 76 false ?_
 refine zh ?_
 refine zU ?_
 refine zh ?_
 refine zU (zl (zn (zq ?_)))
 cases h
 exact zT Tryz.results7
 refine zw 71 false ?_
 refine zh ?_
 refine zU ?_
 refine zh ?_
 refine zU ?_
 refine zh ?_
 refine zU (zl (zn (zq ?_)))
 cases h
 exact zT Tryz.results7
 refine zj (zk (yn (zn (zs (zd ?_)))))
 refine yU ?_
 obtain ⟨r53, h54, h⟩ := zB h
 refine yc (drosslaw18_copied_con r7.1 _ h54) ?_
 obtain ⟨r55, h56, h⟩ := zB h
 refine yc (denial_Violations_con r5.1 r53 _ h56) ?_
 refine yU ?_
 refine yd (zn (zs (zr ?_)))
 refine zU ?_
 obtain ⟨r57, h58, h⟩ := zB h
 refine zc (drossref18_Violations_con r5.1 r7.1 _ h58) ?_
 refine zU (zl (zn (zs (zd ?_))))
 refine yU ?_
 obtain ⟨r59, h60, h⟩ := zB h
 refine yc (drosslaw18_copied_con r7.1 _ h60) ?_
 obtain ⟨r61, h62, h⟩ := zB h
 refine yc (denial_Holds_con r5.1 r59 _ h62) ?_
 refine yU ?_
 refine yd (zn (zs (zr ?_)))
 refine zU ?_
 rcases zI h with ⟨h63, h⟩ | ⟨h63, h⟩
 refine zw 71 true ?_
 refine zg ?_
 refine zg ?_
 refine zg ?_
 refine zU ?_
 rcases zI h with ⟨h64, h⟩ | ⟨h64, h⟩
 refine zw 76 true ?_
 refine zg ?_
 refine zg ?_
 obtain ⟨r65, h66, h⟩ := zB h
 refine zc (drossref18_Lists_con r55.1 r57.1 _ h66) ?_
 refine zU ?_
 rcases zI h with ⟨h67, h⟩ | ⟨h67, h⟩
 refine zw 81 true ?_
 refine zg ?_
 refine zg ?_
 refine zg ?_
 refine zg ?_
 rcases zI h with ⟨h68, h⟩ | ⟨h68, h⟩
 replace h := h.symm
 refine zw 85 true ?_
 refine zg ?_
 refine zg ?_
 refine zg ?_
 refine zg ?_
 refine zg ?_
 refine zU (zl (zn (zq ?_)))
 cases h
 exact zT Tryz.results7
 replace h := h.symm
 refine zw 85 false ?_
 refine zh ?_
 refine zg ?_
 refine zg ?_
 refine zU (zl (zn (zq ?_)))
 cases h
 exact zT Tryz.results7
 refine zw 81 false ?_
 refine zh ?_
 refine zU (zl (zn (zq ?_)))
 cases h
 exact zT Tryz.results7
 refine zw 76 false ?_
 refine zh ?_
 refine zU ?_
 refine zh ?_
 refine zU (zl (zn (zq ?_)))
 cases h
 exact zT Tryz.results7
 refine zw 71 false ?_
 refine zh ?_
 refine zU ?_
 refine zh ?_
 refine zU ?_
 refine zh ?_
 refine zU (zl (zn (zq ?_)))
 cases h
 exact zT Tryz.results7
end Go.Proofs.YtlaodgbkpmdhoaaGreatDoor
