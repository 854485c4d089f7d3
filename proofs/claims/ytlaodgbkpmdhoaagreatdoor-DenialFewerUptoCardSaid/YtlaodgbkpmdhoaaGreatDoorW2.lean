/- Each function of the program computes what its Lean function says, where that has a value. -/
import Derived.Test.YtlaodgbkpmdhoaaGreatDoorW1
import Derived.Test.YtlaodgbkpmdhoaaGreatDoorA3
set_option linter.unusedVariables false
set_option linter.unusedSimpArgs false
namespace Go.Proofs.YtlaodgbkpmdhoaaGreatDoor
open Go Go.Ab
set_option maxHeartbeats 4000000 in
theorem denial_Violations_con (t1 : Table) (d2 : Denial) (r3 : List (List Int) × Int) (h : denial_Violations t1 d2 = some r3) : Con False Tryz.prog 29 [(encTable t1), (encDenial d2)] (.tup [(.slc (List.map (encL (PV.int .i64)) r3.1)), (.int .i64 r3.2)]) := by
 refine zP Tryz.call29 Tryz.func29 rfl Tryz.ntmps29 fun X w hT => ?_
 simp only [denial_Violations] at h
 refine zs (zr ?_)
 refine zU (zl (zn (zs (zs (zr ?_)))))
 refine zU ?_
 obtain ⟨r4, h5, h⟩ := zB h
 refine zc (denial_checked_con t1 d2 _ h5) ?_
 refine zU (zl (zn (zs (zr ?_))))
 refine zU (zl (zn ?_))
 rcases zI h with ⟨h6, h⟩ | ⟨h6, h⟩
 refine zi (zs (zr ?_))
 refine zU (zl (zn (zq (zt ?_))))
 cases h
 exact zT Tryz.results29
 have h6F := Bool.eq_false_iff.2 h6
 refine zj (zk (zn (zs (zr ?_))))
 refine zU (zl (zn (zs (zr ?_))))
 refine zU (zl (zn ?_))
 obtain ⟨o7, h8, h⟩ := zB h
 refine zJ (fun (o9 : List (List Int) × Bool) => tE (cX Tryz.f29 X w False hT) .normal ⟨[(8, .loc 8 1 0 0), (9, .p (.bool o9.2))], [(8, .arr 52 1 1 [.own 200008 1 0 o9.1.length]), (200008, .arr 57 1 1 (List.map AV.p (List.map (encL (PV.int .i64)) o9.1)))]⟩) o7 ?_ ?_
 replace h := h8
 clear h8
 refine zr ?_
 refine zU ?_
 refine zM ⟨[(8, .loc 8 1 0 0), (17, .p (encTable t1)), (18, .p (encDenial d2)), (19, .func (.func 83) [.loc 7 1 0 0, .loc 8 1 0 0])], [(7, .arr 134 1 1 [.mapo 16 1]), (8, .arr 52 1 1 [.own 200008 1 0 0]), (16, .map 1 [] []), (200008, .arr 57 1 1 [])]⟩ ?_
 obtain ⟨m10, h11, h⟩ := zB h
 replace h11 := Option.some.inj h11
 refine AL_le (st' := ⟨[(8, .loc 8 1 0 0), (17, .p (encTable t1)), (18, .p (encDenial d2)), (19, .func (.func 83) [.loc 7 1 0 0, .loc 8 1 0 0])], [(7, .arr 134 1 1 [.mapo 16 1]), (8, .arr 52 1 1 [.own 200008 1 0 0]), (16, .map 1 (List.map AV.p (encK encArr3_int64 m10)) (List.map AV.p (encW PV.bool m10))), (200008, .arr 57 1 1 [])]⟩) (by simp only [go_sem, seval, h6F, ← h11]; all_goals ((repeat' refine And.intro ?_ ?_) <;> first | rfl | (simp; done) | (simp; rfl) | (simp [*]; done) | (simp [*]; rfl))) ?_
 clear h11
 refine zM ⟨[(8, .loc 8 1 0 0), (17, .p (encTable t1)), (18, .p (encDenial d2)), (19, .func (.func 83) [.loc 7 1 0 0, .loc 8 1 0 0])], [(7, .arr 134 1 1 [.mapo 16 1]), (8, .arr 52 1 1 [.own 200008 1 0 0]), (16, .map 1 (List.map AV.p (encK encArr3_int64 m10)) (List.map AV.p (encW PV.bool m10))), (200008, .arr 57 1 1 [])]⟩ ?_
 refine AL_inline (avs := [.p (encTable t1), .p (encDenial d2), .nils, .func (.func 83) [.loc 7 1 0 0, .loc 8 1 0 0]]) 26 rfl (guard_none rfl) rfl Tryz.func82 rfl Tryz.call82 Tryz.ntmps82 (by simp) (by simp only [go_sem, seval, h6F]; all_goals rfl) ?_
 intro i12 w13 h14
 obtain ⟨l15, h16, h⟩ := zB h
 replace h16 := Option.some.inj h16
 refine awp_le (st' := ⟨[(0, .p (encTable t1)), (1, .p (encDenial d2)), (2, .p (.slc (List.map encRow l15))), (3, .func (.func 83) [.loc 7 1 0 0, .loc 8 1 0 0])], [(7, .arr 134 1 1 [.mapo 16 1]), (8, .arr 52 1 1 [.own 200008 1 0 0]), (16, .map 1 (List.map AV.p (encK encArr3_int64 m10)) (List.map AV.p (encW PV.bool m10))), (200008, .arr 57 1 1 [])]⟩) (by simp only [go_sem, seval, h6F, ← h16]; all_goals ((repeat' refine And.intro ?_ ?_) <;> first | rfl | (simp; done) | (simp; rfl) | (simp [*]; done) | (simp [*]; rfl))) ?_
 clear h16
 refine zs (zr ?_)
 refine zU (zl (zn (zs (zs (zr ?_)))))
 refine zU (zl (zn ?_))
 rcases zI h with ⟨h17, h⟩ | ⟨h17, h⟩
 refine zi (zs (zr ?_))
 refine zU ?_
 obtain ⟨r18, h19, h⟩ := zB h
 refine zc (denial_satisfied_con l15 d2.Atoms _ h19) ?_
 refine zU ?_
 rcases zI h with ⟨h20, h⟩ | ⟨h20, h⟩
 refine zw 21 false ?_
 refine zg ?_
 refine zg ?_
 refine zM ⟨[(21, .p (.bool false)), (22, .func (.func 83) [.loc 7 1 0 0, .loc 8 1 0 0]), (23, .p (.slc (List.map encRow l15)))], [(7, .arr 134 1 1 [.mapo 16 1]), (8, .arr 52 1 1 [.own 200008 1 0 0]), (16, .map 1 (List.map AV.p (encK encArr3_int64 m10)) (List.map AV.p (encW PV.bool m10))), (200008, .arr 57 1 1 [])]⟩ ?_
 refine AL_inline (avs := [.p (.slc (List.map encRow l15)), .loc 7 1 0 0, .loc 8 1 0 0]) 73 rfl (guard_true' rfl rfl (by exact rfl) (by exact rfl)) rfl Tryz.func83 rfl Tryz.call83 Tryz.ntmps83 (by simp) (by simp only [go_sem, seval, h6F, h17, h20]; all_goals rfl) ?_
 intro i21 w22 h23
 show AWp _ _ _ ⟨[(0, .p (.slc (List.map encRow l15))), (1, .loc 7 1 0 0), (2, .loc 8 1 0 0)], [(7, .arr 134 1 1 [.mapo 16 1]), (8, .arr 52 1 1 [.own 200008 1 0 0]), (16, .map 1 (List.map AV.p (encK encArr3_int64 m10)) (List.map AV.p (encW PV.bool m10))), (200008, .arr 57 1 1 [])]⟩
 refine zs (zr ?_)
 refine zU (zl (zn (zs (zr ?_))))
 refine zU (zl (zn (zs (zs (zr ?_)))))
 refine zU (zl (zn (zb ?_)))
 obtain ⟨l24, h25, h⟩ := zB h
 refine zO (fun (s : List Int × Int) => ⟨[(1, .loc 7 1 0 0), (2, .loc 8 1 0 0), (5, .own 92 1 0 s.1.length), (9, .p (.slc (List.map encRow l15))), (10, .p (.int .i64 (l15.length : Int))), (11, .p (.int .i64 s.2))], [(7, .arr 134 1 1 [.mapo 16 1]), (8, .arr 52 1 1 [.own 200008 1 0 0]), (16, .map 1 (List.map AV.p (encK encArr3_int64 m10)) (List.map AV.p (encW PV.bool m10))), (92, .arr 2 1 1 (List.map AV.p (List.map (PV.int .i64) s.1))), (200008, .arr 57 1 1 (List.map AV.p (List.map (encL (PV.int .i64)) [])))]⟩) (fun (o26 : List Int) => tE ⟨Tryz.prog, 39, 73, X, [(7, .arr 134 1 1 [.mapo 16 1]), (8, .arr 52 1 1 [.own 200008 1 0 0]), (16, .map 1 (List.map AV.p (encK encArr3_int64 m10)) (List.map AV.p (encW PV.bool m10))), (200008, .arr 57 1 1 [])], i21, w22, False, h23⟩ (.exit 0) ⟨[(1, .loc 7 1 0 0), (2, .loc 8 1 0 0), (5, .own 92 1 0 o26.length)], [(7, .arr 134 1 1 [.mapo 16 1]), (8, .arr 52 1 1 [.own 200008 1 0 0]), (16, .map 1 (List.map AV.p (encK encArr3_int64 m10)) (List.map AV.p (encW PV.bool m10))), (92, .arr 2 1 1 (List.map AV.p (List.map (PV.int .i64) o26))), (200008, .arr 57 1 1 (List.map AV.p (List.map (encL (PV.int .i64)) [])))]⟩) h25 ?_ ?_
 clear h h5 h6 h6F h17 h19 h20 h25
 intro s x h
 obtain ⟨l27, t28⟩ := s
 simp only [denial_Violations_l81] at h
 dsimp only
 refine zs (zr ?_)
 refine zU (zl (zn (zs ?_)))
 rcases zI h with ⟨h29, h⟩ | ⟨h29, h⟩
 refine zi (zk (zn (zs (zb (zs (zr ?_))))))
 obtain ⟨x30, h31, h31a, h31b, h⟩ := zX h
 refine zU (zl (zn (zr ?_)))
 obtain ⟨h32, h⟩ := ite_some h
 refine zU (zl (yn (zn (zr ?_))))
 refine zU (zl ?_)
 cases h
 exact ⟨rfl, zE⟩
 refine zj (zx (ze ?_))
 cases h
 exact ⟨rfl, zE⟩
 try simp only at h
 refine zA (yh (zn (zs (zr ?_))))
 refine zU ?_
 refine zM ⟨[(1, .loc 7 1 0 0), (2, .loc 8 1 0 0), (5, .own 92 1 0 l24.length), (21, .own 92 1 0 l24.length)], [(7, .arr 134 1 1 [.mapo 16 1]), (8, .arr 52 1 1 [.own 200008 1 0 0]), (16, .map 1 (List.map AV.p (encK encArr3_int64 m10)) (List.map AV.p (encW PV.bool m10))), (92, .arr 2 1 1 (List.map AV.p (List.map (PV.int .i64) l24))), (200008, .arr 57 1 1 (List.map AV.p (List.map (encL (PV.int .i64)) [])))]⟩ ?_
 obtain ⟨l33, h34, h⟩ := zB h
 refine zSI srt84 h34 ?_
 have h35 := srtIF_len h34
 refine zM ⟨[(1, .loc 7 1 0 0), (2, .loc 8 1 0 0), (5, .own 92 1 0 l33.length), (22, .p (.tup []))], [(7, .arr 134 1 1 [.mapo 16 1]), (8, .arr 52 1 1 [.own 200008 1 0 0]), (16, .map 1 (List.map AV.p (encK encArr3_int64 m10)) (List.map AV.p (encW PV.bool m10))), (92, .arr 2 1 1 (List.map AV.p (List.map (PV.int .i64) l33))), (200008, .arr 57 1 1 (List.map AV.p (List.map (encL (PV.int .i64)) [])))]⟩ ?_
 clear h35
 refine zl (zn (zs (zr ?_)))
 refine zU (zl (zn (zs (zr ?_))))
 refine zM ⟨[(1, .loc 7 1 0 0), (2, .loc 8 1 0 0), (5, .p (.slc (List.map (PV.int .i64) l33))), (8, .loc 81 1 0 0)], [(7, .arr 134 1 1 [.mapo 16 1]), (8, .arr 52 1 1 [.own 200008 1 0 0]), (16, .map 1 (List.map AV.p (encK encArr3_int64 m10)) (List.map AV.p (encW PV.bool m10))), (81, .arr 137 3 1 [.p (.agg [.int .i64 0, .int .i64 0, .int .i64 0])]), (200008, .arr 57 1 1 (List.map AV.p (List.map (encL (PV.int .i64)) [])))]⟩ ?_
 refine zCpa 81 0 0 0 l33 Tryz.underlying137 Tryz.underlying57 ?_
 refine zl (zn (zs (zs (zr ?_))))
 refine zU (zl (zn ?_))
 rcases zI h with ⟨h36, h⟩ | ⟨h36, h⟩
 refine zj (zk (zn (zs (zr ?_))))
 refine zU (zl (zn (zq ?_)))
 refine inlQ_ret (by simp only [Tryz.results83]; simp only [go_sem, seval, h6F, h17, h20, h36]; exact rfl) ?_
 refine zU (zl (zn (zq (zt ?_))))
 refine inlQ_ret (by simp only [Tryz.results82]; simp only [go_sem, seval, h6F, h17, h20, h36]; exact rfl) ?_
 refine zU (zl ?_)
 cases h
 exact ⟨rfl, zE⟩
 have h36F := Bool.eq_false_iff.2 h36
 refine zi (zs (zr ?_))
 refine zU (zl (zn (zr ?_)))
 have h37 : roomB 1 24 = true := by decide
 refine zU (zl (zn (zs (zr ?_))))
 refine zU (zl (zn (zq ?_)))
 refine inlQ_ret (by simp only [Tryz.results83]; simp only [go_sem, seval, h6F, h17, h20, h36F]; exact rfl) ?_
 refine zU (zl (zn (zq (zt ?_))))
 refine inlQ_ret (by simp only [Tryz.results82]; simp only [go_sem, seval, h6F, h17, h20, h36F]; exact rfl) ?_
 refine zU (zl ?_)
 cases h
 exact ⟨rfl, zE⟩
 have h20F := Bool.eq_false_iff.2 h20
 refine zw 21 true ?_
 refine zh ?_
 refine zU (zl (zn (zq (zt ?_))))
 refine inlQ_ret (by simp only [Tryz.results82]; simp only [go_sem, seval, h6F, h17, h20F]; exact rfl) ?_
 refine zU (zl ?_)
 cases h
 exact ⟨rfl, zE⟩
 have h17F := Bool.eq_false_iff.2 h17
 refine zj (zk (zn (zs (zs (zr ?_)))))
 refine zU (zl (zn (zb ?_)))
 obtain ⟨o38, h39, h⟩ := zB h
 refine zO (fun (s : (List (Arr3_int64 × Bool)) × List (List Int) × Int) => ⟨[(2, .p (.slc (List.map encRow l15))), (3, .func (.func 83) [.loc 7 1 0 0, .loc 8 1 0 0]), (4, .loc 30 1 0 0), (5, .loc 31 1 0 0), (27, .p (.slc (List.map encRow t1.Rows))), (28, .p (.int .i64 (t1.Rows.length : Int))), (29, .p (.int .i64 s.2.2))], [(7, .arr 134 1 1 [.mapo 16 1]), (8, .arr 52 1 1 [.own 200008 2 0 s.2.1.length]), (16, .map 1 (List.map AV.p (encK encArr3_int64 s.1)) (List.map AV.p (encW PV.bool s.1))), (30, .arr 41 3 1 [.p (encTable t1)]), (31, .arr 24 2 1 [.p (encDenial d2)]), (200008, .arr 57 1 2 (List.map AV.p (List.map (encL (PV.int .i64)) s.2.1)))]⟩) (fun (o : ((List (Arr3_int64 × Bool)) × List (List Int)) ⊕ ((List (Arr3_int64 × Bool)) × List (List Int))) => match o with | .inl o40 => tE ⟨Tryz.prog, 47, 26, X, [(7, .arr 134 1 1 [.mapo 16 1]), (8, .arr 52 1 1 [.own 200008 1 0 0]), (16, .map 1 (List.map AV.p (encK encArr3_int64 m10)) (List.map AV.p (encW PV.bool m10))), (200008, .arr 57 1 1 [])], i12, w13, False, h14⟩ (.exit 0) ⟨[], [(7, .arr 134 1 1 [.mapo 16 1]), (8, .arr 52 1 1 [.own 200008 2 0 o40.2.length]), (16, .map 1 (List.map AV.p (encK encArr3_int64 o40.1)) (List.map AV.p (encW PV.bool o40.1))), (200008, .arr 57 1 2 (List.map AV.p (List.map (encL (PV.int .i64)) o40.2)))]⟩ | .inr o41 => tE ⟨Tryz.prog, 47, 26, X, [(7, .arr 134 1 1 [.mapo 16 1]), (8, .arr 52 1 1 [.own 200008 1 0 0]), (16, .map 1 (List.map AV.p (encK encArr3_int64 m10)) (List.map AV.p (encW PV.bool m10))), (200008, .arr 57 1 1 [])], i12, w13, False, h14⟩ .ret ⟨[(8, .p (.bool false))], [(7, .arr 134 1 1 [.mapo 16 1]), (8, .arr 52 1 1 [.own 200008 2 0 o41.2.length]), (16, .map 1 (List.map AV.p (encK encArr3_int64 o41.1)) (List.map AV.p (encW PV.bool o41.1))), (200008, .arr 57 1 2 (List.map AV.p (List.map (encL (PV.int .i64)) o41.2)))]⟩) h39 ?_ ?_
 clear h h5 h6 h6F h17 h17F h39
 intro s x h
 obtain ⟨f42, f43, t44⟩ := s
 simp only [denial_Violations_l160] at h
 dsimp only
 refine zs (zr ?_)
 refine zU (zl (zn (zs ?_)))
 rcases zI h with ⟨h45, h⟩ | ⟨h45, h⟩
 have h45T := eq_true h45
 refine zi (zk (zn (zs (zb (zs (zr ?_))))))
 obtain ⟨x46, h47, h47a, h47b, h⟩ := zX h
 refine zU (zl (zn (zs (zs (zr ?_)))))
 refine zU ?_
 obtain ⟨r48, h49, h⟩ := zB h
 refine zc (slices_ContainsFunc_Row_con l15 (fun (y50 : Row) => denial_visit_1 y50 x46) 125 [.imm [.int .i64 x46.ID, .slc (List.map encValue x46.Values)]] (fun y50 r h => denial_visit_1_con y50 x46 r h) _ h49) ?_
 refine zl (zn ?_)
 rcases zI h with ⟨h51, h⟩ | ⟨h51, h⟩
 refine zi (zx (ze (yh (zn (zr ?_)))))
 refine zU (zl ?_)
 cases h
 exact ⟨rfl, zE⟩
 have h51F := Bool.eq_false_iff.2 h51
 refine zj (zk (zn (zs ?_)))
 refine zdl 8 ?_
 refine yU ?_
 obtain ⟨h52, h⟩ := ite_some h
 refine yK cln126 65 encRow l15 _ rfl ⟨by unfold maxLen; omega, by omega⟩ ?_
 have h53 := @take_cut PV
 obtain ⟨h54, h⟩ := ite_some h
 refine yU ?_
 refine ydlS ?_
 refine zM ⟨[(2, .p (.slc (List.map encRow l15))), (3, .func (.func 83) [.loc 7 1 0 0, .loc 8 1 0 0]), (4, .loc 30 1 0 0), (5, .loc 31 1 0 0), (27, .p (.slc (List.map encRow t1.Rows))), (28, .p (.int .i64 (t1.Rows.length : Int))), (29, .p (.int .i64 t44)), (36, .p (encTable t1)), (37, .p (encDenial d2)), (42, .p (.slc (List.map encRow (l15 ++ [x46])))), (43, .func (.func 83) [.loc 7 1 0 0, .loc 8 1 0 0])], [(7, .arr 134 1 1 [.mapo 16 1]), (8, .arr 52 1 1 [.own 200008 2 0 f43.length]), (16, .map 1 (List.map AV.p (encK encArr3_int64 f42)) (List.map AV.p (encW PV.bool f42))), (30, .arr 41 3 1 [.p (encTable t1)]), (31, .arr 24 2 1 [.p (encDenial d2)]), (200008, .arr 57 1 2 (List.map AV.p (List.map (encL (PV.int .i64)) f43)))]⟩ ?_
 refine AL_inline (avs := [.p (encTable t1), .p (encDenial d2), .p (.slc (List.map encRow (l15 ++ [x46]))), .func (.func 83) [.loc 7 1 0 0, .loc 8 1 0 0]]) 112 rfl (guard_none rfl) rfl Tryz.func82 rfl Tryz.call82 Tryz.ntmps82 (by simp) (by simp only [go_sem, seval, h45T, h51F]; all_goals rfl) ?_
 intro i55 w56 h57
 obtain ⟨l58, h59, h⟩ := zB h
 replace h59 := Option.some.inj h59
 refine awp_le (st' := ⟨[(0, .p (encTable t1)), (1, .p (encDenial d2)), (2, .p (.slc (List.map encRow l58))), (3, .func (.func 83) [.loc 7 1 0 0, .loc 8 1 0 0])], [(7, .arr 134 1 1 [.mapo 16 1]), (8, .arr 52 1 1 [.own 200008 2 0 f43.length]), (16, .map 1 (List.map AV.p (encK encArr3_int64 f42)) (List.map AV.p (encW PV.bool f42))), (30, .arr 41 3 1 [.p (encTable t1)]), (31, .arr 24 2 1 [.p (encDenial d2)]), (200008, .arr 57 1 2 (List.map AV.p (List.map (encL (PV.int .i64)) f43)))]⟩) (by simp only [go_sem, seval, h45T, h51F, ← h59]; all_goals ((repeat' refine And.intro ?_ ?_) <;> first | rfl | (simp; done) | (simp; rfl) | (simp [*]; done) | (simp [*]; rfl))) ?_
 clear h59
 refine zs (zr ?_)
 refine zU (zl (zn (zs (zs (zr ?_)))))
 refine zU (zl (zn ?_))
 rcases zI h with ⟨h60, h⟩ | ⟨h60, h⟩
 refine zi (zs (zr ?_))
 refine zU ?_
 obtain ⟨r61, h62, h⟩ := zB h
 refine zc (denial_satisfied_con l58 d2.Atoms _ h62) ?_
 refine zU ?_
 rcases zI h with ⟨h63, h⟩ | ⟨h63, h⟩
 refine zw 21 false ?_
 refine zg ?_
 refine zg ?_
 refine zM ⟨[(21, .p (.bool false)), (22, .func (.func 83) [.loc 7 1 0 0, .loc 8 1 0 0]), (23, .p (.slc (List.map encRow l58)))], [(7, .arr 134 1 1 [.mapo 16 1]), (8, .arr 52 1 1 [.own 200008 2 0 f43.length]), (16, .map 1 (List.map AV.p (encK encArr3_int64 f42)) (List.map AV.p (encW PV.bool f42))), (30, .arr 41 3 1 [.p (encTable t1)]), (31, .arr 24 2 1 [.p (encDenial d2)]), (200008, .arr 57 1 2 (List.map AV.p (List.map (encL (PV.int .i64)) f43)))]⟩ ?_
 refine AL_inline (avs := [.p (.slc (List.map encRow l58)), .loc 7 1 0 0, .loc 8 1 0 0]) 159 rfl (guard_true' rfl rfl (by exact rfl) (by exact rfl)) rfl Tryz.func83 rfl Tryz.call83 Tryz.ntmps83 (by simp) (by simp only [go_sem, seval, h45T, h51F, h60, h63]; all_goals rfl) ?_
 intro i65 w66 h67
 show AWp _ _ _ ⟨[(0, .p (.slc (List.map encRow l58))), (1, .loc 7 1 0 0), (2, .loc 8 1 0 0)], [(7, .arr 134 1 1 [.mapo 16 1]), (8, .arr 52 1 1 [.own 200008 2 0 f43.length]), (16, .map 1 (List.map AV.p (encK encArr3_int64 f42)) (List.map AV.p (encW PV.bool f42))), (30, .arr 41 3 1 [.p (encTable t1)]), (31, .arr 24 2 1 [.p (encDenial d2)]), (200008, .arr 57 1 2 (List.map AV.p (List.map (encL (PV.int .i64)) f43)))]⟩
 refine zs (zr ?_)
 refine zU (zl (zn (zs (zr ?_))))
 refine zU (zl (zn (zs (zs (zr ?_)))))
 refine zU (zl (zn (zb ?_)))
 obtain ⟨l68, h69, h⟩ := zB h
 refine zO (fun (s : List Int × Int) => ⟨[(1, .loc 7 1 0 0), (2, .loc 8 1 0 0), (5, .own 178 1 0 s.1.length), (9, .p (.slc (List.map encRow l58))), (10, .p (.int .i64 (l58.length : Int))), (11, .p (.int .i64 s.2))], [(7, .arr 134 1 1 [.mapo 16 1]), (8, .arr 52 1 1 [.own 200008 2 0 f43.length]), (16, .map 1 (List.map AV.p (encK encArr3_int64 f42)) (List.map AV.p (encW PV.bool f42))), (30, .arr 41 3 1 [.p (encTable t1)]), (31, .arr 24 2 1 [.p (encDenial d2)]), (178, .arr 2 1 1 (List.map AV.p (List.map (PV.int .i64) s.1))), (200008, .arr 57 1 2 (List.map AV.p (List.map (encL (PV.int .i64)) f43)))]⟩) (fun (o70 : List Int) => tE ⟨Tryz.prog, 39, 159, X, [(7, .arr 134 1 1 [.mapo 16 1]), (8, .arr 52 1 1 [.own 200008 2 0 f43.length]), (16, .map 1 (List.map AV.p (encK encArr3_int64 f42)) (List.map AV.p (encW PV.bool f42))), (30, .arr 41 3 1 [.p (encTable t1)]), (31, .arr 24 2 1 [.p (encDenial d2)]), (200008, .arr 57 1 2 (List.map AV.p (List.map (encL (PV.int .i64)) f43)))], i65, w66, False, h67⟩ (.exit 0) ⟨[(1, .loc 7 1 0 0), (2, .loc 8 1 0 0), (5, .own 178 1 0 o70.length)], [(7, .arr 134 1 1 [.mapo 16 1]), (8, .arr 52 1 1 [.own 200008 2 0 f43.length]), (16, .map 1 (List.map AV.p (encK encArr3_int64 f42)) (List.map AV.p (encW PV.bool f42))), (30, .arr 41 3 1 [.p (encTable t1)]), (31, .arr 24 2 1 [.p (encDenial d2)]), (178, .arr 2 1 1 (List.map AV.p (List.map (PV.int .i64) o70))), (200008, .arr 57 1 2 (List.map AV.p (List.map (encL (PV.int .i64)) f43)))]⟩) h69 ?_ ?_
 clear h h45 h45T h47 h47a h47b h49 h51 h51F h52 h53 h54 h60 h62 h63 h69
 intro s x h
 obtain ⟨l71, t72⟩ := s
 simp only [denial_Violations_l134] at h
 dsimp only
 refine zs (zr ?_)
 refine zU (zl (zn (zs ?_)))
 rcases zI h with ⟨h73, h⟩ | ⟨h73, h⟩
 refine zi (zk (zn (zs (zb (zs (zr ?_))))))
 obtain ⟨x74, h75, h75a, h75b, h⟩ := zX h
 refine zU (zl (zn (zr ?_)))
 obtain ⟨h76, h⟩ := ite_some h
 refine zU (zl (yn (zn (zr ?_))))
 refine zU (zl ?_)
 cases h
 exact ⟨rfl, zE⟩
 refine zj (zx (ze ?_))
 cases h
 exact ⟨rfl, zE⟩
 try simp only at h
 refine zA (yh (zn (zs (zr ?_))))
 refine zU ?_
 refine zM ⟨[(1, .loc 7 1 0 0), (2, .loc 8 1 0 0), (5, .own 178 1 0 l68.length), (21, .own 178 1 0 l68.length)], [(7, .arr 134 1 1 [.mapo 16 1]), (8, .arr 52 1 1 [.own 200008 2 0 f43.length]), (16, .map 1 (List.map AV.p (encK encArr3_int64 f42)) (List.map AV.p (encW PV.bool f42))), (30, .arr 41 3 1 [.p (encTable t1)]), (31, .arr 24 2 1 [.p (encDenial d2)]), (178, .arr 2 1 1 (List.map AV.p (List.map (PV.int .i64) l68))), (200008, .arr 57 1 2 (List.map AV.p (List.map (encL (PV.int .i64)) f43)))]⟩ ?_
 obtain ⟨l77, h78, h⟩ := zB h
 refine zSI srt84 h78 ?_
 have h79 := srtIF_len h78
 refine zM ⟨[(1, .loc 7 1 0 0), (2, .loc 8 1 0 0), (5, .own 178 1 0 l77.length), (22, .p (.tup []))], [(7, .arr 134 1 1 [.mapo 16 1]), (8, .arr 52 1 1 [.own 200008 2 0 f43.length]), (16, .map 1 (List.map AV.p (encK encArr3_int64 f42)) (List.map AV.p (encW PV.bool f42))), (30, .arr 41 3 1 [.p (encTable t1)]), (31, .arr 24 2 1 [.p (encDenial d2)]), (178, .arr 2 1 1 (List.map AV.p (List.map (PV.int .i64) l77))), (200008, .arr 57 1 2 (List.map AV.p (List.map (encL (PV.int .i64)) f43)))]⟩ ?_
 clear h79
 refine zl (zn (zs (zr ?_)))
 refine zU (zl (zn (zs (zr ?_))))
 refine zM ⟨[(1, .loc 7 1 0 0), (2, .loc 8 1 0 0), (5, .p (.slc (List.map (PV.int .i64) l77))), (8, .loc 167 1 0 0)], [(7, .arr 134 1 1 [.mapo 16 1]), (8, .arr 52 1 1 [.own 200008 2 0 f43.length]), (16, .map 1 (List.map AV.p (encK encArr3_int64 f42)) (List.map AV.p (encW PV.bool f42))), (30, .arr 41 3 1 [.p (encTable t1)]), (31, .arr 24 2 1 [.p (encDenial d2)]), (167, .arr 137 3 1 [.p (.agg [.int .i64 0, .int .i64 0, .int .i64 0])]), (200008, .arr 57 1 2 (List.map AV.p (List.map (encL (PV.int .i64)) f43)))]⟩ ?_
 refine zCpa 167 0 0 0 l77 Tryz.underlying137 Tryz.underlying57 ?_
 refine zl (zn (zs (zs (zr ?_))))
 refine zU (zl (zn ?_))
 rcases zI h with ⟨h80, h⟩ | ⟨h80, h⟩
 refine zj (zk (zn (zs (zr ?_))))
 refine zU (zl (zn (zq ?_)))
 refine inlQ_ret (by simp only [Tryz.results83]; simp only [go_sem, seval, h45T, h51F, h60, h63, h80]; exact rfl) ?_
 refine zU (zl (zn (zq (zt ?_))))
 refine inlQ_ret (by simp only [Tryz.results82]; simp only [go_sem, seval, h45T, h51F, h60, h63, h80]; exact rfl) ?_
 refine zU (zl (zn ?_))
 rcases zI h with ⟨h81, h⟩ | ⟨h81, h⟩
 refine zj (zk (yn (zn (zr ?_))))
 refine zU (zl ?_)
 cases h
 exact ⟨rfl, zE⟩
 refine zi (zs (zr ?_))
 refine zU (zl (zn (zq (yr (zt ?_)))))
 cases h
 exact ⟨rfl, zE⟩
 have h80F := Bool.eq_false_iff.2 h80
 refine zi (zs (zr ?_))
 refine zU (zl (zn (zr ?_)))
 obtain ⟨h82, h⟩ := ite_some h
 refine zU (zl (zn (zs (zr ?_))))
 refine zU (zl (zn (zq ?_)))
 refine inlQ_ret (by simp only [Tryz.results83]; simp only [go_sem, seval, h45T, h51F, h60, h63, h80F]; exact rfl) ?_
 refine zU (zl (zn (zq (zt ?_))))
 refine inlQ_ret (by simp only [Tryz.results82]; simp only [go_sem, seval, h45T, h51F, h60, h63, h80F]; exact rfl) ?_
 refine zU (zl (zn ?_))
 rcases zI h with ⟨h83, h⟩ | ⟨h83, h⟩
 refine zj (zk (yn (zn (zr ?_))))
 refine zU (zl ?_)
 cases h
 exact ⟨rfl, zE⟩
 refine zi (zs (zr ?_))
 refine zU (zl (zn (zq (yr (zt ?_)))))
 cases h
 exact ⟨rfl, zE⟩
 have h63F := Bool.eq_false_iff.2 h63
 refine zw 21 true ?_
 refine zh ?_
 refine zU (zl (zn (zq (zt ?_))))
 refine inlQ_ret (by simp only [Tryz.results82]; simp only [go_sem, seval, h45T, h51F, h60, h63F]; exact rfl) ?_
 refine zU (zl (zn ?_))
 refine zj (zk (yn (zn (zr ?_))))
 refine zU (zl ?_)
 cases h
 exact ⟨rfl, zE⟩
 have h60F := Bool.eq_false_iff.2 h60
 refine zj (zk (zn (zs (zs (zr ?_)))))
 refine zU (zl (zn (zb ?_)))
 obtain ⟨o84, h85, h⟩ := zB h
 refine zO (fun (s : (List (Arr3_int64 × Bool)) × List (List Int) × Int) => ⟨[(2, .p (.slc (List.map encRow l58))), (3, .func (.func 83) [.loc 7 1 0 0, .loc 8 1 0 0]), (4, .loc 116 1 0 0), (5, .loc 117 1 0 0), (27, .p (.slc (List.map encRow t1.Rows))), (28, .p (.int .i64 (t1.Rows.length : Int))), (29, .p (.int .i64 s.2.2))], [(7, .arr 134 1 1 [.mapo 16 1]), (8, .arr 52 1 1 [.own 200008 3 0 s.2.1.length]), (16, .map 1 (List.map AV.p (encK encArr3_int64 s.1)) (List.map AV.p (encW PV.bool s.1))), (30, .arr 41 3 1 [.p (encTable t1)]), (31, .arr 24 2 1 [.p (encDenial d2)]), (116, .arr 41 3 1 [.p (encTable t1)]), (117, .arr 24 2 1 [.p (encDenial d2)]), (200008, .arr 57 1 3 (List.map AV.p (List.map (encL (PV.int .i64)) s.2.1)))]⟩) (fun (o : ((List (Arr3_int64 × Bool)) × List (List Int)) ⊕ ((List (Arr3_int64 × Bool)) × List (List Int))) => match o with | .inl o86 => tE ⟨Tryz.prog, 47, 112, X, [(7, .arr 134 1 1 [.mapo 16 1]), (8, .arr 52 1 1 [.own 200008 2 0 f43.length]), (16, .map 1 (List.map AV.p (encK encArr3_int64 f42)) (List.map AV.p (encW PV.bool f42))), (30, .arr 41 3 1 [.p (encTable t1)]), (31, .arr 24 2 1 [.p (encDenial d2)]), (200008, .arr 57 1 2 (List.map AV.p (List.map (encL (PV.int .i64)) f43)))], i55, w56, False, h57⟩ (.exit 0) ⟨[], [(7, .arr 134 1 1 [.mapo 16 1]), (8, .arr 52 1 1 [.own 200008 3 0 o86.2.length]), (16, .map 1 (List.map AV.p (encK encArr3_int64 o86.1)) (List.map AV.p (encW PV.bool o86.1))), (30, .arr 41 3 1 [.p (encTable t1)]), (31, .arr 24 2 1 [.p (encDenial d2)]), (200008, .arr 57 1 3 (List.map AV.p (List.map (encL (PV.int .i64)) o86.2)))]⟩ | .inr o87 => tE ⟨Tryz.prog, 47, 112, X, [(7, .arr 134 1 1 [.mapo 16 1]), (8, .arr 52 1 1 [.own 200008 2 0 f43.length]), (16, .map 1 (List.map AV.p (encK encArr3_int64 f42)) (List.map AV.p (encW PV.bool f42))), (30, .arr 41 3 1 [.p (encTable t1)]), (31, .arr 24 2 1 [.p (encDenial d2)]), (200008, .arr 57 1 2 (List.map AV.p (List.map (encL (PV.int .i64)) f43)))], i55, w56, False, h57⟩ .ret ⟨[(8, .p (.bool false))], [(7, .arr 134 1 1 [.mapo 16 1]), (8, .arr 52 1 1 [.own 200008 3 0 o87.2.length]), (16, .map 1 (List.map AV.p (encK encArr3_int64 o87.1)) (List.map AV.p (encW PV.bool o87.1))), (30, .arr 41 3 1 [.p (encTable t1)]), (31, .arr 24 2 1 [.p (encDenial d2)]), (200008, .arr 57 1 3 (List.map AV.p (List.map (encL (PV.int .i64)) o87.2)))]⟩) h85 ?_ ?_
 clear h h45 h45T h47 h47a h47b h49 h51 h51F h52 h53 h54 h60 h60F h85
 intro s x h
 obtain ⟨f88, f89, t90⟩ := s
 simp only [denial_Violations_l159] at h
 dsimp only
 refine zs (zr ?_)
 refine zU (zl (zn (zs ?_)))
 rcases zI h with ⟨h91, h⟩ | ⟨h91, h⟩
 have h91T := eq_true h91
 refine zi (zk (zn (zs (zb (zs (zr ?_))))))
 obtain ⟨x92, h93, h93a, h93b, h⟩ := zX h
 refine zU (zl (zn (zs (zs (zr ?_)))))
 refine zU ?_
 obtain ⟨r94, h95, h⟩ := zB h
 refine zc (slices_ContainsFunc_Row_con l58 (fun (y96 : Row) => denial_visit_1 y96 x92) 125 [.imm [.int .i64 x92.ID, .slc (List.map encValue x92.Values)]] (fun y96 r h => denial_visit_1_con y96 x92 r h) _ h95) ?_
 refine zl (zn ?_)
 rcases zI h with ⟨h97, h⟩ | ⟨h97, h⟩
 refine zi (zx (ze (yh (zn (zr ?_)))))
 refine zU (zl ?_)
 cases h
 exact ⟨rfl, zE⟩
 have h97F := Bool.eq_false_iff.2 h97
 refine zj (zk (zn (zs ?_)))
 refine zdl 8 ?_
 refine yU ?_
 obtain ⟨h98, h⟩ := ite_some h
 refine yK cln126 151 encRow l58 _ rfl ⟨by unfold maxLen; omega, by omega⟩ ?_
 have h99 := @take_cut PV
 obtain ⟨h100, h⟩ := ite_some h
 refine yU ?_
 refine ydlS ?_
 refine zM ⟨[(2, .p (.slc (List.map encRow l58))), (3, .func (.func 83) [.loc 7 1 0 0, .loc 8 1 0 0]), (4, .loc 116 1 0 0), (5, .loc 117 1 0 0), (27, .p (.slc (List.map encRow t1.Rows))), (28, .p (.int .i64 (t1.Rows.length : Int))), (29, .p (.int .i64 t90)), (36, .p (encTable t1)), (37, .p (encDenial d2)), (42, .p (.slc (List.map encRow (l58 ++ [x92])))), (43, .func (.func 83) [.loc 7 1 0 0, .loc 8 1 0 0])], [(7, .arr 134 1 1 [.mapo 16 1]), (8, .arr 52 1 1 [.own 200008 3 0 f89.length]), (16, .map 1 (List.map AV.p (encK encArr3_int64 f88)) (List.map AV.p (encW PV.bool f88))), (30, .arr 41 3 1 [.p (encTable t1)]), (31, .arr 24 2 1 [.p (encDenial d2)]), (116, .arr 41 3 1 [.p (encTable t1)]), (117, .arr 24 2 1 [.p (encDenial d2)]), (200008, .arr 57 1 3 (List.map AV.p (List.map (encL (PV.int .i64)) f89)))]⟩ ?_
 refine AL_inline (avs := [.p (encTable t1), .p (encDenial d2), .p (.slc (List.map encRow (l58 ++ [x92]))), .func (.func 83) [.loc 7 1 0 0, .loc 8 1 0 0]]) 198 rfl (guard_none rfl) rfl Tryz.func82 rfl Tryz.call82 Tryz.ntmps82 (by simp) (by simp only [go_sem, seval, h91T, h97F]; all_goals rfl) ?_
 intro i101 w102 h103
 obtain ⟨l104, h105, h⟩ := zB h
 replace h105 := Option.some.inj h105
 refine awp_le (st' := ⟨[(0, .p (encTable t1)), (1, .p (encDenial d2)), (2, .p (.slc (List.map encRow l104))), (3, .func (.func 83) [.loc 7 1 0 0, .loc 8 1 0 0])], [(7, .arr 134 1 1 [.mapo 16 1]), (8, .arr 52 1 1 [.own 200008 3 0 f89.length]), (16, .map 1 (List.map AV.p (encK encArr3_int64 f88)) (List.map AV.p (encW PV.bool f88))), (30, .arr 41 3 1 [.p (encTable t1)]), (31, .arr 24 2 1 [.p (encDenial d2)]), (116, .arr 41 3 1 [.p (encTable t1)]), (117, .arr 24 2 1 [.p (encDenial d2)]), (200008, .arr 57 1 3 (List.map AV.p (List.map (encL (PV.int .i64)) f89)))]⟩) (by simp only [go_sem, seval, h91T, h97F, ← h105]; all_goals ((repeat' refine And.intro ?_ ?_) <;> first | rfl | (simp; done) | (simp; rfl) | (simp [*]; done) | (simp [*]; rfl))) ?_
 clear h105
 refine zs (zr ?_)
 refine zU (zl (zn (zs (zs (zr ?_)))))
 refine zU (zl (zn ?_))
 rcases zI h with ⟨h106, h⟩ | ⟨h106, h⟩
 refine zi (zs (zr ?_))
 refine zU ?_
 obtain ⟨r107, h108, h⟩ := zB h
 refine zc (denial_satisfied_con l104 d2.Atoms _ h108) ?_
 refine zU ?_
 rcases zI h with ⟨h109, h⟩ | ⟨h109, h⟩
 refine zw 21 false ?_
 refine zg ?_
 refine zg ?_
 refine zM ⟨[(21, .p (.bool false)), (22, .func (.func 83) [.loc 7 1 0 0, .loc 8 1 0 0]), (23, .p (.slc (List.map encRow l104)))], [(7, .arr 134 1 1 [.mapo 16 1]), (8, .arr 52 1 1 [.own 200008 3 0 f89.length]), (16, .map 1 (List.map AV.p (encK encArr3_int64 f88)) (List.map AV.p (encW PV.bool f88))), (30, .arr 41 3 1 [.p (encTable t1)]), (31, .arr 24 2 1 [.p (encDenial d2)]), (116, .arr 41 3 1 [.p (encTable t1)]), (117, .arr 24 2 1 [.p (encDenial d2)]), (200008, .arr 57 1 3 (List.map AV.p (List.map (encL (PV.int .i64)) f89)))]⟩ ?_
 refine AL_inline (avs := [.p (.slc (List.map encRow l104)), .loc 7 1 0 0, .loc 8 1 0 0]) 245 rfl (guard_true' rfl rfl (by exact rfl) (by exact rfl)) rfl Tryz.func83 rfl Tryz.call83 Tryz.ntmps83 (by simp) (by simp only [go_sem, seval, h91T, h97F, h106, h109]; all_goals rfl) ?_
 intro i110 w111 h112
 show AWp _ _ _ ⟨[(0, .p (.slc (List.map encRow l104))), (1, .loc 7 1 0 0), (2, .loc 8 1 0 0)], [(7, .arr 134 1 1 [.mapo 16 1]), (8, .arr 52 1 1 [.own 200008 3 0 f89.length]), (16, .map 1 (List.map AV.p (encK encArr3_int64 f88)) (List.map AV.p (encW PV.bool f88))), (30, .arr 41 3 1 [.p (encTable t1)]), (31, .arr 24 2 1 [.p (encDenial d2)]), (116, .arr 41 3 1 [.p (encTable t1)]), (117, .arr 24 2 1 [.p (encDenial d2)]), (200008, .arr 57 1 3 (List.map AV.p (List.map (encL (PV.int .i64)) f89)))]⟩
 refine zs (zr ?_)
 refine zU (zl (zn (zs (zr ?_))))
 refine zU (zl (zn (zs (zs (zr ?_)))))
 refine zU (zl (zn (zb ?_)))
 obtain ⟨l113, h114, h⟩ := zB h
 refine zO (fun (s : List Int × Int) => ⟨[(1, .loc 7 1 0 0), (2, .loc 8 1 0 0), (5, .own 264 1 0 s.1.length), (9, .p (.slc (List.map encRow l104))), (10, .p (.int .i64 (l104.length : Int))), (11, .p (.int .i64 s.2))], [(7, .arr 134 1 1 [.mapo 16 1]), (8, .arr 52 1 1 [.own 200008 3 0 f89.length]), (16, .map 1 (List.map AV.p (encK encArr3_int64 f88)) (List.map AV.p (encW PV.bool f88))), (30, .arr 41 3 1 [.p (encTable t1)]), (31, .arr 24 2 1 [.p (encDenial d2)]), (116, .arr 41 3 1 [.p (encTable t1)]), (117, .arr 24 2 1 [.p (encDenial d2)]), (264, .arr 2 1 1 (List.map AV.p (List.map (PV.int .i64) s.1))), (200008, .arr 57 1 3 (List.map AV.p (List.map (encL (PV.int .i64)) f89)))]⟩) (fun (o115 : List Int) => tE ⟨Tryz.prog, 39, 245, X, [(7, .arr 134 1 1 [.mapo 16 1]), (8, .arr 52 1 1 [.own 200008 3 0 f89.length]), (16, .map 1 (List.map AV.p (encK encArr3_int64 f88)) (List.map AV.p (encW PV.bool f88))), (30, .arr 41 3 1 [.p (encTable t1)]), (31, .arr 24 2 1 [.p (encDenial d2)]), (116, .arr 41 3 1 [.p (encTable t1)]), (117, .arr 24 2 1 [.p (encDenial d2)]), (200008, .arr 57 1 3 (List.map AV.p (List.map (encL (PV.int .i64)) f89)))], i110, w111, False, h112⟩ (.exit 0) ⟨[(1, .loc 7 1 0 0), (2, .loc 8 1 0 0), (5, .own 264 1 0 o115.length)], [(7, .arr 134 1 1 [.mapo 16 1]), (8, .arr 52 1 1 [.own 200008 3 0 f89.length]), (16, .map 1 (List.map AV.p (encK encArr3_int64 f88)) (List.map AV.p (encW PV.bool f88))), (30, .arr 41 3 1 [.p (encTable t1)]), (31, .arr 24 2 1 [.p (encDenial d2)]), (116, .arr 41 3 1 [.p (encTable t1)]), (117, .arr 24 2 1 [.p (encDenial d2)]), (264, .arr 2 1 1 (List.map AV.p (List.map (PV.int .i64) o115))), (200008, .arr 57 1 3 (List.map AV.p (List.map (encL (PV.int .i64)) f89)))]⟩) h114 ?_ ?_
 clear h h91 h91T h93 h93a h93b h95 h97 h97F h98 h99 h100 h106 h108 h109 h114
 intro s x h
 obtain ⟨l116, t117⟩ := s
 simp only [denial_Violations_l151] at h
 dsimp only
 refine zs (zr ?_)
 refine zU (zl (zn (zs ?_)))
 rcases zI h with ⟨h118, h⟩ | ⟨h118, h⟩
 refine zi (zk (zn (zs (zb (zs (zr ?_))))))
 obtain ⟨x119, h120, h120a, h120b, h⟩ := zX h
 refine zU (zl (zn (zr ?_)))
 obtain ⟨h121, h⟩ := ite_some h
 refine zU (zl (yn (zn (zr ?_))))
 refine zU (zl ?_)
 cases h
 exact ⟨rfl, zE⟩
 refine zj (zx (ze ?_))
 cases h
 exact ⟨rfl, zE⟩
 try simp only at h
 refine zA (yh (zn (zs (zr ?_))))
 refine zU ?_
 refine zM ⟨[(1, .loc 7 1 0 0), (2, .loc 8 1 0 0), (5, .own 264 1 0 l113.length), (21, .own 264 1 0 l113.length)], [(7, .arr 134 1 1 [.mapo 16 1]), (8, .arr 52 1 1 [.own 200008 3 0 f89.length]), (16, .map 1 (List.map AV.p (encK encArr3_int64 f88)) (List.map AV.p (encW PV.bool f88))), (30, .arr 41 3 1 [.p (encTable t1)]), (31, .arr 24 2 1 [.p (encDenial d2)]), (116, .arr 41 3 1 [.p (encTable t1)]), (117, .arr 24 2 1 [.p (encDenial d2)]), (264, .arr 2 1 1 (List.map AV.p (List.map (PV.int .i64) l113))), (200008, .arr 57 1 3 (List.map AV.p (List.map (encL (PV.int .i64)) f89)))]⟩ ?_
 obtain ⟨l122, h123, h⟩ := zB h
 refine zSI srt84 h123 ?_
 have h124 := srtIF_len h123
 refine zM ⟨[(1, .loc 7 1 0 0), (2, .loc 8 1 0 0), (5, .own 264 1 0 l122.length), (22, .p (.tup []))], [(7, .arr 134 1 1 [.mapo 16 1]), (8, .arr 52 1 1 [.own 200008 3 0 f89.length]), (16, .map 1 (List.map AV.p (encK encArr3_int64 f88)) (List.map AV.p (encW PV.bool f88))), (30, .arr 41 3 1 [.p (encTable t1)]), (31, .arr 24 2 1 [.p (encDenial d2)]), (116, .arr 41 3 1 [.p (encTable t1)]), (117, .arr 24 2 1 [.p (encDenial d2)]), (264, .arr 2 1 1 (List.map AV.p (List.map (PV.int .i64) l122))), (200008, .arr 57 1 3 (List.map AV.p (List.map (encL (PV.int .i64)) f89)))]⟩ ?_
 clear h124
 refine zl (zn (zs (zr ?_)))
 refine zU (zl (zn (zs (zr ?_))))
 refine zM ⟨[(1, .loc 7 1 0 0), (2, .loc 8 1 0 0), (5, .p (.slc (List.map (PV.int .i64) l122))), (8, .loc 253 1 0 0)], [(7, .arr 134 1 1 [.mapo 16 1]), (8, .arr 52 1 1 [.own 200008 3 0 f89.length]), (16, .map 1 (List.map AV.p (encK encArr3_int64 f88)) (List.map AV.p (encW PV.bool f88))), (30, .arr 41 3 1 [.p (encTable t1)]), (31, .arr 24 2 1 [.p (encDenial d2)]), (116, .arr 41 3 1 [.p (encTable t1)]), (117, .arr 24 2 1 [.p (encDenial d2)]), (253, .arr 137 3 1 [.p (.agg [.int .i64 0, .int .i64 0, .int .i64 0])]), (200008, .arr 57 1 3 (List.map AV.p (List.map (encL (PV.int .i64)) f89)))]⟩ ?_
 refine zCpa 253 0 0 0 l122 Tryz.underlying137 Tryz.underlying57 ?_
 refine zl (zn (zs (zs (zr ?_))))
 refine zU (zl (zn ?_))
 rcases zI h with ⟨h125, h⟩ | ⟨h125, h⟩
 refine zj (zk (zn (zs (zr ?_))))
 refine zU (zl (zn (zq ?_)))
 refine inlQ_ret (by simp only [Tryz.results83]; simp only [go_sem, seval, h91T, h97F, h106, h109, h125]; exact rfl) ?_
 refine zU (zl (zn (zq (zt ?_))))
 refine inlQ_ret (by simp only [Tryz.results82]; simp only [go_sem, seval, h91T, h97F, h106, h109, h125]; exact rfl) ?_
 refine zU (zl (zn ?_))
 rcases zI h with ⟨h126, h⟩ | ⟨h126, h⟩
 refine zj (zk (yn (zn (zr ?_))))
 refine zU (zl ?_)
 cases h
 exact ⟨rfl, zE⟩
 refine zi (zs (zr ?_))
 refine zU (zl (zn (zq (yr (zt ?_)))))
 cases h
 exact ⟨rfl, zE⟩
 have h125F := Bool.eq_false_iff.2 h125
 refine zi (zs (zr ?_))
 refine zU (zl (zn (zr ?_)))
 obtain ⟨h127, h⟩ := ite_some h
 refine zU (zl (zn (zs (zr ?_))))
 refine zU (zl (zn (zq ?_)))
 refine inlQ_ret (by simp only [Tryz.results83]; simp only [go_sem, seval, h91T, h97F, h106, h109, h125F]; exact rfl) ?_
 refine zU (zl (zn (zq (zt ?_))))
 refine inlQ_ret (by simp only [Tryz.results82]; simp only [go_sem, seval, h91T, h97F, h106, h109, h125F]; exact rfl) ?_
 refine zU (zl (zn ?_))
 rcases zI h with ⟨h128, h⟩ | ⟨h128, h⟩
 refine zj (zk (yn (zn (zr ?_))))
 refine zU (zl ?_)
 cases h
 exact ⟨rfl, zE⟩
 refine zi (zs (zr ?_))
 refine zU (zl (zn (zq (yr (zt ?_)))))
 cases h
 exact ⟨rfl, zE⟩
 have h109F := Bool.eq_false_iff.2 h109
 refine zw 21 true ?_
 refine zh ?_
 refine zU (zl (zn (zq (zt ?_))))
 refine inlQ_ret (by simp only [Tryz.results82]; simp only [go_sem, seval, h91T, h97F, h106, h109F]; exact rfl) ?_
 refine zU (zl (zn ?_))
 refine zj (zk (yn (zn (zr ?_))))
 refine zU (zl ?_)
 cases h
 exact ⟨rfl, zE⟩
 have h106F := Bool.eq_false_iff.2 h106
 refine zj (zk (zn (zs (zs (zr ?_)))))
 refine zU (zl (zn (zb ?_)))
 obtain ⟨o129, h130, h⟩ := zB h
 refine zO (fun (s : (List (Arr3_int64 × Bool)) × List (List Int) × Int) => ⟨[(2, .p (.slc (List.map encRow l104))), (3, .func (.func 83) [.loc 7 1 0 0, .loc 8 1 0 0]), (4, .loc 202 1 0 0), (5, .loc 203 1 0 0), (27, .p (.slc (List.map encRow t1.Rows))), (28, .p (.int .i64 (t1.Rows.length : Int))), (29, .p (.int .i64 s.2.2))], [(7, .arr 134 1 1 [.mapo 16 1]), (8, .arr 52 1 1 [.own 200008 4 0 s.2.1.length]), (16, .map 1 (List.map AV.p (encK encArr3_int64 s.1)) (List.map AV.p (encW PV.bool s.1))), (30, .arr 41 3 1 [.p (encTable t1)]), (31, .arr 24 2 1 [.p (encDenial d2)]), (116, .arr 41 3 1 [.p (encTable t1)]), (117, .arr 24 2 1 [.p (encDenial d2)]), (202, .arr 41 3 1 [.p (encTable t1)]), (203, .arr 24 2 1 [.p (encDenial d2)]), (200008, .arr 57 1 4 (List.map AV.p (List.map (encL (PV.int .i64)) s.2.1)))]⟩) (fun (o : ((List (Arr3_int64 × Bool)) × List (List Int)) ⊕ ((List (Arr3_int64 × Bool)) × List (List Int))) => match o with | .inl o131 => tE ⟨Tryz.prog, 47, 198, X, [(7, .arr 134 1 1 [.mapo 16 1]), (8, .arr 52 1 1 [.own 200008 3 0 f89.length]), (16, .map 1 (List.map AV.p (encK encArr3_int64 f88)) (List.map AV.p (encW PV.bool f88))), (30, .arr 41 3 1 [.p (encTable t1)]), (31, .arr 24 2 1 [.p (encDenial d2)]), (116, .arr 41 3 1 [.p (encTable t1)]), (117, .arr 24 2 1 [.p (encDenial d2)]), (200008, .arr 57 1 3 (List.map AV.p (List.map (encL (PV.int .i64)) f89)))], i101, w102, False, h103⟩ (.exit 0) ⟨[], [(7, .arr 134 1 1 [.mapo 16 1]), (8, .arr 52 1 1 [.own 200008 4 0 o131.2.length]), (16, .map 1 (List.map AV.p (encK encArr3_int64 o131.1)) (List.map AV.p (encW PV.bool o131.1))), (30, .arr 41 3 1 [.p (encTable t1)]), (31, .arr 24 2 1 [.p (encDenial d2)]), (116, .arr 41 3 1 [.p (encTable t1)]), (117, .arr 24 2 1 [.p (encDenial d2)]), (200008, .arr 57 1 4 (List.map AV.p (List.map (encL (PV.int .i64)) o131.2)))]⟩ | .inr o132 => tE ⟨Tryz.prog, 47, 198, X, [(7, .arr 134 1 1 [.mapo 16 1]), (8, .arr 52 1 1 [.own 200008 3 0 f89.length]), (16, .map 1 (List.map AV.p (encK encArr3_int64 f88)) (List.map AV.p (encW PV.bool f88))), (30, .arr 41 3 1 [.p (encTable t1)]), (31, .arr 24 2 1 [.p (encDenial d2)]), (116, .arr 41 3 1 [.p (encTable t1)]), (117, .arr 24 2 1 [.p (encDenial d2)]), (200008, .arr 57 1 3 (List.map AV.p (List.map (encL (PV.int .i64)) f89)))], i101, w102, False, h103⟩ .ret ⟨[(8, .p (.bool false))], [(7, .arr 134 1 1 [.mapo 16 1]), (8, .arr 52 1 1 [.own 200008 4 0 o132.2.length]), (16, .map 1 (List.map AV.p (encK encArr3_int64 o132.1)) (List.map AV.p (encW PV.bool o132.1))), (30, .arr 41 3 1 [.p (encTable t1)]), (31, .arr 24 2 1 [.p (encDenial d2)]), (116, .arr 41 3 1 [.p (encTable t1)]), (117, .arr 24 2 1 [.p (encDenial d2)]), (200008, .arr 57 1 4 (List.map AV.p (List.map (encL (PV.int .i64)) o132.2)))]⟩) h130 ?_ ?_
 clear h h91 h91T h93 h93a h93b h95 h97 h97F h98 h99 h100 h106 h106F h130
 intro s x h
 obtain ⟨f133, f134, t135⟩ := s
 simp only [denial_Violations_l158] at h
 dsimp only
 refine zs (zr ?_)
 refine zU (zl (zn (zs ?_)))
 rcases zI h with ⟨h136, h⟩ | ⟨h136, h⟩
 have h136T := eq_true h136
 refine zi (zk (zn (zs (zb (zs (zr ?_))))))
 obtain ⟨x137, h138, h138a, h138b, h⟩ := zX h
 refine zU (zl (zn (zs (zs (zr ?_)))))
 refine zU ?_
 obtain ⟨r139, h140, h⟩ := zB h
 refine zc (slices_ContainsFunc_Row_con l104 (fun (y141 : Row) => denial_visit_1 y141 x137) 125 [.imm [.int .i64 x137.ID, .slc (List.map encValue x137.Values)]] (fun y141 r h => denial_visit_1_con y141 x137 r h) _ h140) ?_
 refine zl (zn ?_)
 rcases zI h with ⟨h142, h⟩ | ⟨h142, h⟩
 refine zi (zx (ze (yh (zn (zr ?_)))))
 refine zU (zl ?_)
 cases h
 exact ⟨rfl, zE⟩
 have h142F := Bool.eq_false_iff.2 h142
 refine zj (zk (zn (zs ?_)))
 refine zdl 8 ?_
 refine yU ?_
 obtain ⟨h143, h⟩ := ite_some h
 refine yK cln126 237 encRow l104 _ rfl ⟨by unfold maxLen; omega, by omega⟩ ?_
 have h144 := @take_cut PV
 obtain ⟨h145, h⟩ := ite_some h
 refine yU ?_
 refine ydlS ?_
 refine zM ⟨[(2, .p (.slc (List.map encRow l104))), (3, .func (.func 83) [.loc 7 1 0 0, .loc 8 1 0 0]), (4, .loc 202 1 0 0), (5, .loc 203 1 0 0), (27, .p (.slc (List.map encRow t1.Rows))), (28, .p (.int .i64 (t1.Rows.length : Int))), (29, .p (.int .i64 t135)), (36, .p (encTable t1)), (37, .p (encDenial d2)), (42, .p (.slc (List.map encRow (l104 ++ [x137])))), (43, .func (.func 83) [.loc 7 1 0 0, .loc 8 1 0 0])], [(7, .arr 134 1 1 [.mapo 16 1]), (8, .arr 52 1 1 [.own 200008 4 0 f134.length]), (16, .map 1 (List.map AV.p (encK encArr3_int64 f133)) (List.map AV.p (encW PV.bool f133))), (30, .arr 41 3 1 [.p (encTable t1)]), (31, .arr 24 2 1 [.p (encDenial d2)]), (116, .arr 41 3 1 [.p (encTable t1)]), (117, .arr 24 2 1 [.p (encDenial d2)]), (202, .arr 41 3 1 [.p (encTable t1)]), (203, .arr 24 2 1 [.p (encDenial d2)]), (200008, .arr 57 1 4 (List.map AV.p (List.map (encL (PV.int .i64)) f134)))]⟩ ?_
 refine AL_inline (avs := [.p (encTable t1), .p (encDenial d2), .p (.slc (List.map encRow (l104 ++ [x137]))), .func (.func 83) [.loc 7 1 0 0, .loc 8 1 0 0]]) 284 rfl (guard_none rfl) rfl Tryz.func82 rfl Tryz.call82 Tryz.ntmps82 (by simp) (by simp only [go_sem, seval, h136T, h142F]; all_goals rfl) ?_
 intro i146 w147 h148
 obtain ⟨l149, h150, h⟩ := zB h
 replace h150 := Option.some.inj h150
 refine awp_le (st' := ⟨[(0, .p (encTable t1)), (1, .p (encDenial d2)), (2, .p (.slc (List.map encRow l149))), (3, .func (.func 83) [.loc 7 1 0 0, .loc 8 1 0 0])], [(7, .arr 134 1 1 [.mapo 16 1]), (8, .arr 52 1 1 [.own 200008 4 0 f134.length]), (16, .map 1 (List.map AV.p (encK encArr3_int64 f133)) (List.map AV.p (encW PV.bool f133))), (30, .arr 41 3 1 [.p (encTable t1)]), (31, .arr 24 2 1 [.p (encDenial d2)]), (116, .arr 41 3 1 [.p (encTable t1)]), (117, .arr 24 2 1 [.p (encDenial d2)]), (202, .arr 41 3 1 [.p (encTable t1)]), (203, .arr 24 2 1 [.p (encDenial d2)]), (200008, .arr 57 1 4 (List.map AV.p (List.map (encL (PV.int .i64)) f134)))]⟩) (by simp only [go_sem, seval, h136T, h142F, ← h150]; all_goals ((repeat' refine And.intro ?_ ?_) <;> first | rfl | (simp; done) | (simp; rfl) | (simp [*]; done) | (simp [*]; rfl))) ?_
 clear h150
 refine zs (zr ?_)
 refine zU (zl (zn (zs (zs (zr ?_)))))
 refine zU (zl (zn ?_))
 rcases zI h with ⟨h151, h⟩ | ⟨h151, h⟩
 refine zi (zs (zr ?_))
 refine zU ?_
 obtain ⟨r152, h153, h⟩ := zB h
 refine zc (denial_satisfied_con l149 d2.Atoms _ h153) ?_
 refine zU ?_
 rcases zI h with ⟨h154, h⟩ | ⟨h154, h⟩
 refine zw 21 false ?_
 refine zg ?_
 refine zg ?_
 refine zM ⟨[(21, .p (.bool false)), (22, .func (.func 83) [.loc 7 1 0 0, .loc 8 1 0 0]), (23, .p (.slc (List.map encRow l149)))], [(7, .arr 134 1 1 [.mapo 16 1]), (8, .arr 52 1 1 [.own 200008 4 0 f134.length]), (16, .map 1 (List.map AV.p (encK encArr3_int64 f133)) (List.map AV.p (encW PV.bool f133))), (30, .arr 41 3 1 [.p (encTable t1)]), (31, .arr 24 2 1 [.p (encDenial d2)]), (116, .arr 41 3 1 [.p (encTable t1)]), (117, .arr 24 2 1 [.p (encDenial d2)]), (202, .arr 41 3 1 [.p (encTable t1)]), (203, .arr 24 2 1 [.p (encDenial d2)]), (200008, .arr 57 1 4 (List.map AV.p (List.map (encL (PV.int .i64)) f134)))]⟩ ?_
 refine AL_inline (avs := [.p (.slc (List.map encRow l149)), .loc 7 1 0 0, .loc 8 1 0 0]) 331 rfl (guard_true' rfl rfl (by exact rfl) (by exact rfl)) rfl Tryz.func83 rfl Tryz.call83 Tryz.ntmps83 (by simp) (by simp only [go_sem, seval, h136T, h142F, h151, h154]; all_goals rfl) ?_
 intro i155 w156 h157
 show AWp _ _ _ ⟨[(0, .p (.slc (List.map encRow l149))), (1, .loc 7 1 0 0), (2, .loc 8 1 0 0)], [(7, .arr 134 1 1 [.mapo 16 1]), (8, .arr 52 1 1 [.own 200008 4 0 f134.length]), (16, .map 1 (List.map AV.p (encK encArr3_int64 f133)) (List.map AV.p (encW PV.bool f133))), (30, .arr 41 3 1 [.p (encTable t1)]), (31, .arr 24 2 1 [.p (encDenial d2)]), (116, .arr 41 3 1 [.p (encTable t1)]), (117, .arr 24 2 1 [.p (encDenial d2)]), (202, .arr 41 3 1 [.p (encTable t1)]), (203, .arr 24 2 1 [.p (encDenial d2)]), (200008, .arr 57 1 4 (List.map AV.p (List.map (encL (PV.int .i64)) f134)))]⟩
 refine zs (zr ?_)
 refine zU (zl (zn (zs (zr ?_))))
 refine zU (zl (zn (zs (zs (zr ?_)))))
 refine zU (zl (zn (zb ?_)))
 obtain ⟨l158, h159, h⟩ := zB h
 refine zO (fun (s : List Int × Int) => ⟨[(1, .loc 7 1 0 0), (2, .loc 8 1 0 0), (5, .own 350 1 0 s.1.length), (9, .p (.slc (List.map encRow l149))), (10, .p (.int .i64 (l149.length : Int))), (11, .p (.int .i64 s.2))], [(7, .arr 134 1 1 [.mapo 16 1]), (8, .arr 52 1 1 [.own 200008 4 0 f134.length]), (16, .map 1 (List.map AV.p (encK encArr3_int64 f133)) (List.map AV.p (encW PV.bool f133))), (30, .arr 41 3 1 [.p (encTable t1)]), (31, .arr 24 2 1 [.p (encDenial d2)]), (116, .arr 41 3 1 [.p (encTable t1)]), (117, .arr 24 2 1 [.p (encDenial d2)]), (202, .arr 41 3 1 [.p (encTable t1)]), (203, .arr 24 2 1 [.p (encDenial d2)]), (350, .arr 2 1 1 (List.map AV.p (List.map (PV.int .i64) s.1))), (200008, .arr 57 1 4 (List.map AV.p (List.map (encL (PV.int .i64)) f134)))]⟩) (fun (o160 : List Int) => tE ⟨Tryz.prog, 39, 331, X, [(7, .arr 134 1 1 [.mapo 16 1]), (8, .arr 52 1 1 [.own 200008 4 0 f134.length]), (16, .map 1 (List.map AV.p (encK encArr3_int64 f133)) (List.map AV.p (encW PV.bool f133))), (30, .arr 41 3 1 [.p (encTable t1)]), (31, .arr 24 2 1 [.p (encDenial d2)]), (116, .arr 41 3 1 [.p (encTable t1)]), (117, .arr 24 2 1 [.p (encDenial d2)]), (202, .arr 41 3 1 [.p (encTable t1)]), (203, .arr 24 2 1 [.p (encDenial d2)]), (200008, .arr 57 1 4 (List.map AV.p (List.map (encL (PV.int .i64)) f134)))], i155, w156, False, h157⟩ (.exit 0) ⟨[(1, .loc 7 1 0 0), (2, .loc 8 1 0 0), (5, .own 350 1 0 o160.length)], [(7, .arr 134 1 1 [.mapo 16 1]), (8, .arr 52 1 1 [.own 200008 4 0 f134.length]), (16, .map 1 (List.map AV.p (encK encArr3_int64 f133)) (List.map AV.p (encW PV.bool f133))), (30, .arr 41 3 1 [.p (encTable t1)]), (31, .arr 24 2 1 [.p (encDenial d2)]), (116, .arr 41 3 1 [.p (encTable t1)]), (117, .arr 24 2 1 [.p (encDenial d2)]), (202, .arr 41 3 1 [.p (encTable t1)]), (203, .arr 24 2 1 [.p (encDenial d2)]), (350, .arr 2 1 1 (List.map AV.p (List.map (PV.int .i64) o160))), (200008, .arr 57 1 4 (List.map AV.p (List.map (encL (PV.int .i64)) f134)))]⟩) h159 ?_ ?_
 clear h h136 h136T h138 h138a h138b h140 h142 h142F h143 h144 h145 h151 h153 h154 h159
 intro s x h
 obtain ⟨l161, t162⟩ := s
 simp only [denial_Violations_l156] at h
 dsimp only
 refine zs (zr ?_)
 refine zU (zl (zn (zs ?_)))
 rcases zI h with ⟨h163, h⟩ | ⟨h163, h⟩
 refine zi (zk (zn (zs (zb (zs (zr ?_))))))
 obtain ⟨x164, h165, h165a, h165b, h⟩ := zX h
 refine zU (zl (zn (zr ?_)))
 obtain ⟨h166, h⟩ := ite_some h
 refine zU (zl (yn (zn (zr ?_))))
 refine zU (zl ?_)
 cases h
 exact ⟨rfl, zE⟩
 refine zj (zx (ze ?_))
 cases h
 exact ⟨rfl, zE⟩
 try simp only at h
 refine zA (yh (zn (zs (zr ?_))))
 refine zU ?_
 refine zM ⟨[(1, .loc 7 1 0 0), (2, .loc 8 1 0 0), (5, .own 350 1 0 l158.length), (21, .own 350 1 0 l158.length)], [(7, .arr 134 1 1 [.mapo 16 1]), (8, .arr 52 1 1 [.own 200008 4 0 f134.length]), (16, .map 1 (List.map AV.p (encK encArr3_int64 f133)) (List.map AV.p (encW PV.bool f133))), (30, .arr 41 3 1 [.p (encTable t1)]), (31, .arr 24 2 1 [.p (encDenial d2)]), (116, .arr 41 3 1 [.p (encTable t1)]), (117, .arr 24 2 1 [.p (encDenial d2)]), (202, .arr 41 3 1 [.p (encTable t1)]), (203, .arr 24 2 1 [.p (encDenial d2)]), (350, .arr 2 1 1 (List.map AV.p (List.map (PV.int .i64) l158))), (200008, .arr 57 1 4 (List.map AV.p (List.map (encL (PV.int .i64)) f134)))]⟩ ?_
 obtain ⟨l167, h168, h⟩ := zB h
 refine zSI srt84 h168 ?_
 have h169 := srtIF_len h168
 refine zM ⟨[(1, .loc 7 1 0 0), (2, .loc 8 1 0 0), (5, .own 350 1 0 l167.length), (22, .p (.tup []))], [(7, .arr 134 1 1 [.mapo 16 1]), (8, .arr 52 1 1 [.own 200008 4 0 f134.length]), (16, .map 1 (List.map AV.p (encK encArr3_int64 f133)) (List.map AV.p (encW PV.bool f133))), (30, .arr 41 3 1 [.p (encTable t1)]), (31, .arr 24 2 1 [.p (encDenial d2)]), (116, .arr 41 3 1 [.p (encTable t1)]), (117, .arr 24 2 1 [.p (encDenial d2)]), (202, .arr 41 3 1 [.p (encTable t1)]), (203, .arr 24 2 1 [.p (encDenial d2)]), (350, .arr 2 1 1 (List.map AV.p (List.map (PV.int .i64) l167))), (200008, .arr 57 1 4 (List.map AV.p (List.map (encL (PV.int .i64)) f134)))]⟩ ?_
 clear h169
 refine zl (zn (zs (zr ?_)))
 refine zU (zl (zn (zs (zr ?_))))
 refine zM ⟨[(1, .loc 7 1 0 0), (2, .loc 8 1 0 0), (5, .p (.slc (List.map (PV.int .i64) l167))), (8, .loc 339 1 0 0)], [(7, .arr 134 1 1 [.mapo 16 1]), (8, .arr 52 1 1 [.own 200008 4 0 f134.length]), (16, .map 1 (List.map AV.p (encK encArr3_int64 f133)) (List.map AV.p (encW PV.bool f133))), (30, .arr 41 3 1 [.p (encTable t1)]), (31, .arr 24 2 1 [.p (encDenial d2)]), (116, .arr 41 3 1 [.p (encTable t1)]), (117, .arr 24 2 1 [.p (encDenial d2)]), (202, .arr 41 3 1 [.p (encTable t1)]), (203, .arr 24 2 1 [.p (encDenial d2)]), (339, .arr 137 3 1 [.p (.agg [.int .i64 0, .int .i64 0, .int .i64 0])]), (200008, .arr 57 1 4 (List.map AV.p (List.map (encL (PV.int .i64)) f134)))]⟩ ?_
 refine zCpa 339 0 0 0 l167 Tryz.underlying137 Tryz.underlying57 ?_
 refine zl (zn (zs (zs (zr ?_))))
 refine zU (zl (zn ?_))
 rcases zI h with ⟨h170, h⟩ | ⟨h170, h⟩
 refine zj (zk (zn (zs (zr ?_))))
 refine zU (zl (zn (zq ?_)))
 refine inlQ_ret (by simp only [Tryz.results83]; simp only [go_sem, seval, h136T, h142F, h151, h154, h170]; exact rfl) ?_
 refine zU (zl (zn (zq (zt ?_))))
 refine inlQ_ret (by simp only [Tryz.results82]; simp only [go_sem, seval, h136T, h142F, h151, h154, h170]; exact rfl) ?_
 refine zU (zl (zn ?_))
 rcases zI h with ⟨h171, h⟩ | ⟨h171, h⟩
 refine zj (zk (yn (zn (zr ?_))))
 refine zU (zl ?_)
 cases h
 exact ⟨rfl, zE⟩
 refine zi (zs (zr ?_))
 refine zU (zl (zn (zq (yr (zt ?_)))))
 cases h
 exact ⟨rfl, zE⟩
 have h170F := Bool.eq_false_iff.2 h170
 refine zi (zs (zr ?_))
 refine zU (zl (zn (zr ?_)))
 obtain ⟨h172, h⟩ := ite_some h
 refine zU (zl (zn (zs (zr ?_))))
 refine zU (zl (zn (zq ?_)))
 refine inlQ_ret (by simp only [Tryz.results83]; simp only [go_sem, seval, h136T, h142F, h151, h154, h170F]; exact rfl) ?_
 refine zU (zl (zn (zq (zt ?_))))
 refine inlQ_ret (by simp only [Tryz.results82]; simp only [go_sem, seval, h136T, h142F, h151, h154, h170F]; exact rfl) ?_
 refine zU (zl (zn ?_))
 rcases zI h with ⟨h173, h⟩ | ⟨h173, h⟩
 refine zj (zk (yn (zn (zr ?_))))
 refine zU (zl ?_)
 cases h
 exact ⟨rfl, zE⟩
 refine zi (zs (zr ?_))
 refine zU (zl (zn (zq (yr (zt ?_)))))
 cases h
 exact ⟨rfl, zE⟩
 have h154F := Bool.eq_false_iff.2 h154
 refine zw 21 true ?_
 refine zh ?_
 refine zU (zl (zn (zq (zt ?_))))
 refine inlQ_ret (by simp only [Tryz.results82]; simp only [go_sem, seval, h136T, h142F, h151, h154F]; exact rfl) ?_
 refine zU (zl (zn ?_))
 refine zj (zk (yn (zn (zr ?_))))
 refine zU (zl ?_)
 cases h
 exact ⟨rfl, zE⟩
 have h151F := Bool.eq_false_iff.2 h151
 refine zj (zk (zn (zs (zs (zr ?_)))))
 refine zU (zl (zn (zb ?_)))
 obtain ⟨o174, h175, h⟩ := zB h
 refine zO (fun (s : Int) => ⟨[(2, .p (.slc (List.map encRow l149))), (3, .func (.func 83) [.loc 7 1 0 0, .loc 8 1 0 0]), (4, .loc 288 1 0 0), (5, .loc 289 1 0 0), (27, .p (.slc (List.map encRow t1.Rows))), (28, .p (.int .i64 (t1.Rows.length : Int))), (29, .p (.int .i64 s))], [(7, .arr 134 1 1 [.mapo 16 1]), (8, .arr 52 1 1 [.own 200008 4 0 f134.length]), (16, .map 1 (List.map AV.p (encK encArr3_int64 f133)) (List.map AV.p (encW PV.bool f133))), (30, .arr 41 3 1 [.p (encTable t1)]), (31, .arr 24 2 1 [.p (encDenial d2)]), (116, .arr 41 3 1 [.p (encTable t1)]), (117, .arr 24 2 1 [.p (encDenial d2)]), (202, .arr 41 3 1 [.p (encTable t1)]), (203, .arr 24 2 1 [.p (encDenial d2)]), (288, .arr 41 3 1 [.p (encTable t1)]), (289, .arr 24 2 1 [.p (encDenial d2)]), (200008, .arr 57 1 4 (List.map AV.p (List.map (encL (PV.int .i64)) f134)))]⟩) (fun (o176 : Unit) => tE ⟨Tryz.prog, 47, 284, X, [(7, .arr 134 1 1 [.mapo 16 1]), (8, .arr 52 1 1 [.own 200008 4 0 f134.length]), (16, .map 1 (List.map AV.p (encK encArr3_int64 f133)) (List.map AV.p (encW PV.bool f133))), (30, .arr 41 3 1 [.p (encTable t1)]), (31, .arr 24 2 1 [.p (encDenial d2)]), (116, .arr 41 3 1 [.p (encTable t1)]), (117, .arr 24 2 1 [.p (encDenial d2)]), (202, .arr 41 3 1 [.p (encTable t1)]), (203, .arr 24 2 1 [.p (encDenial d2)]), (200008, .arr 57 1 4 (List.map AV.p (List.map (encL (PV.int .i64)) f134)))], i146, w147, False, h148⟩ (.exit 0) ⟨[], [(7, .arr 134 1 1 [.mapo 16 1]), (8, .arr 52 1 1 [.own 200008 4 0 f134.length]), (16, .map 1 (List.map AV.p (encK encArr3_int64 f133)) (List.map AV.p (encW PV.bool f133))), (30, .arr 41 3 1 [.p (encTable t1)]), (31, .arr 24 2 1 [.p (encDenial d2)]), (116, .arr 41 3 1 [.p (encTable t1)]), (117, .arr 24 2 1 [.p (encDenial d2)]), (202, .arr 41 3 1 [.p (encTable t1)]), (203, .arr 24 2 1 [.p (encDenial d2)]), (200008, .arr 57 1 4 (List.map AV.p (List.map (encL (PV.int .i64)) f134)))]⟩) h175 ?_ ?_
 clear h h136 h136T h138 h138a h138b h140 h142 h142F h143 h144 h145 h151 h151F h175
 intro t177 x h
 simp only [denial_Violations_l157] at h
 refine zs (zr ?_)
 refine zU (zl (zn (zs ?_)))
 rcases zI h with ⟨h178, h⟩ | ⟨h178, h⟩
 refine zi (zk (zn (zs (zb (zs (zr ?_))))))
 obtain ⟨x179, h180, h180a, h180b, h⟩ := zX h
 refine zU (zl (zn (zs (zs (zr ?_)))))
 refine zU ?_
 obtain ⟨r181, h182, h⟩ := zB h
 refine zc (slices_ContainsFunc_Row_con l149 (fun (y183 : Row) => denial_visit_1 y183 x179) 125 [.imm [.int .i64 x179.ID, .slc (List.map encValue x179.Values)]] (fun y183 r h => denial_visit_1_con y183 x179 r h) _ h182) ?_
 refine zl (zn ?_)
 rcases zI h with ⟨h184, h⟩ | ⟨h184, h⟩
 refine zi (zx (ze (yh (zn (zr ?_)))))
 refine zU (zl ?_)
 cases h
 exact ⟨rfl, zE⟩
 cases h
 refine zj (zx (ze ?_))
 cases h
 exact ⟨rfl, zE⟩
 cases o174
 try simp only at h
 refine zA (yh (zn (zs (zr ?_))))
 refine zU (zl (zn (zq ?_)))
 refine inlQ_ret (by simp only [Tryz.results82]; simp only [go_sem, seval, h136T, h142F, h151F]; exact rfl) ?_
 refine zU (zl (zn ?_))
 refine zj (zk (yn (zn (zr ?_))))
 refine zU (zl ?_)
 cases h
 exact ⟨rfl, zE⟩
 have h136T := eq_false h136
 refine zj (zx (ze ?_))
 cases h
 exact ⟨rfl, zE⟩
 rcases o129 with ⟨f185, b186⟩ | ⟨f187, b188⟩
 try simp only at h
 refine zA (yh (zn (zs (zr ?_))))
 refine zU (zl (zn (zq ?_)))
 refine inlQ_ret (by simp only [Tryz.results82]; simp only [go_sem, seval, h91T, h97F, h106F]; exact rfl) ?_
 refine zU (zl (zn ?_))
 refine zj (zk (yn (zn (zr ?_))))
 refine zU (zl ?_)
 cases h
 exact ⟨rfl, zE⟩
 try simp only at h
 refine zA (yr (zt ?_))
 refine inlQ_ret (by simp only [Tryz.results82]; simp only [go_sem, seval, h91T, h97F, h106F]; exact rfl) ?_
 refine zU (zl (zn ?_))
 refine zi (zs (zr ?_))
 refine zU (zl (zn (zq (yr (zt ?_)))))
 cases h
 exact ⟨rfl, zE⟩
 have h91T := eq_false h91
 refine zj (zx (ze ?_))
 cases h
 exact ⟨rfl, zE⟩
 rcases o84 with ⟨f189, b190⟩ | ⟨f191, b192⟩
 try simp only at h
 refine zA (yh (zn (zs (zr ?_))))
 refine zU (zl (zn (zq ?_)))
 refine inlQ_ret (by simp only [Tryz.results82]; simp only [go_sem, seval, h45T, h51F, h60F]; exact rfl) ?_
 refine zU (zl (zn ?_))
 refine zj (zk (yn (zn (zr ?_))))
 refine zU (zl ?_)
 cases h
 exact ⟨rfl, zE⟩
 try simp only at h
 refine zA (yr (zt ?_))
 refine inlQ_ret (by simp only [Tryz.results82]; simp only [go_sem, seval, h45T, h51F, h60F]; exact rfl) ?_
 refine zU (zl (zn ?_))
 refine zi (zs (zr ?_))
 refine zU (zl (zn (zq (yr (zt ?_)))))
 cases h
 exact ⟨rfl, zE⟩
 have h45T := eq_false h45
 refine zj (zx (ze ?_))
 cases h
 exact ⟨rfl, zE⟩
 rcases o38 with ⟨f193, b194⟩ | ⟨f195, b196⟩
 try simp only at h
 refine zA (yh (zn (zs (zr ?_))))
 refine zU (zl (zn (zq ?_)))
 refine inlQ_ret (by simp only [Tryz.results82]; simp only [go_sem, seval, h6F, h17F]; exact rfl) ?_
 refine zU (zl ?_)
 cases h
 exact ⟨rfl, zE⟩
 try simp only at h
 refine zA (yr (zt ?_))
 refine inlQ_ret (by simp only [Tryz.results82]; simp only [go_sem, seval, h6F, h17F]; exact rfl) ?_
 refine zU (zl ?_)
 cases h
 exact ⟨rfl, zE⟩
 obtain ⟨o197, a198⟩ := o7
 try simp only at h
 refine zA (zn (zs (zs (zr ?_))))
 refine zU (zl (zn ?_))
 rcases zI h with ⟨h199, h⟩ | ⟨h199, h⟩
 refine zj (zk (zn (zs (zr ?_))))
 refine zU ?_
 refine zM ⟨[(8, .loc 8 1 0 0), (23, .own 200008 1 0 o197.length)], [(8, .arr 52 1 1 [.own 200008 1 0 o197.length]), (200008, .arr 57 1 1 (List.map AV.p (List.map (encL (PV.int .i64)) o197)))]⟩ ?_
 obtain ⟨l200, h201, h⟩ := zB h
 refine zSF srt85 (encL (PV.int .i64)) (fun (y202 : List Int) (y203 : List Int) => slices_Compare_int64 y202 y203) h201 (fun y202 y203 r h => slices_Compare_int64_con y202 y203 r h) ?_
 have h204 := srtF_len h201
 refine zM ⟨[(8, .loc 8 1 0 0), (24, .p (.tup []))], [(8, .arr 52 1 1 [.own 200008 1 0 l200.length]), (200008, .arr 57 1 1 (List.map AV.p (List.map (encL (PV.int .i64)) l200)))]⟩ ?_
 clear h204
 refine zl (zn (zs (zr ?_)))
 refine zU (zl (zn (zq ?_)))
 cases h
 exact zT Tryz.results29
 refine zi (zs (zr ?_))
 refine zU (zl (zn (zq (zt ?_))))
 cases h
 exact zT Tryz.results29
end Go.Proofs.YtlaodgbkpmdhoaaGreatDoor
set_option linter.unusedVariables false
set_option linter.unusedSimpArgs false
namespace Go.Proofs.YtlaodgbkpmdhoaaGreatDoor
open Go Go.Ab
set_option maxHeartbeats 4000000 in
theorem drossref01_Of_con {D : Prop} (c1 : Int) (r2 : Value) (h : drossref01_Of c1 = some r2) : Con D Tryz.prog 104 [(.int .u8 c1)] (encValue r2) := by
 refine zP Tryz.call104 Tryz.func104 rfl Tryz.ntmps104 fun X w hT => ?_
 simp only [drossref01_Of] at h
 refine zs (zr ?_)
 refine zU (zl (zn (zs (zs (zr ?_)))))
 refine zU (zl (zn (zb (zs (zr ?_)))))
 refine zU (zl (zn ?_))
 rcases zI h with ⟨h3, h⟩ | ⟨h3, h⟩
 refine zi (zs (zr ?_))
 refine zU (zl (zn (zq (yr (zt ?_)))))
 cases h
 exact zT Tryz.results104
 refine zj (zs (zr ?_))
 refine zU (zl (zn ?_))
 rcases zI h with ⟨h4, h⟩ | ⟨h4, h⟩
 refine zi (zs (zr ?_))
 refine zU (zl (zn (zq (yr (zt ?_)))))
 cases h
 exact zT Tryz.results104
 refine zj (zs (zr ?_))
 refine zU (zl (zn ?_))
 rcases zI h with ⟨h5, h⟩ | ⟨h5, h⟩
 refine zi (zs (zr ?_))
 refine zU (zl (zn (zq (yr (zt ?_)))))
 cases h
 exact zT Tryz.results104
 refine zj (zs (zr ?_))
 refine zU (zl (zn ?_))
 rcases zI h with ⟨h6, h⟩ | ⟨h6, h⟩
 refine zi (zs (zr ?_))
 refine zU (zl (zn (zq (yr (zt ?_)))))
 cases h
 exact zT Tryz.results104
 refine zj (zs (zr ?_))
 refine zU (zl (zn ?_))
 rcases zI h with ⟨h7, h⟩ | ⟨h7, h⟩
 refine zi (zs (zr ?_))
 refine zU (zl (zn (zq (yr (zt ?_)))))
 cases h
 exact zT Tryz.results104
 refine zj (zs (zr ?_))
 refine zU (zl (zn ?_))
 rcases zI h with ⟨h8, h⟩ | ⟨h8, h⟩
 refine zi (zs (zr ?_))
 refine zU (zl (zn (zq (yr (zt ?_)))))
 cases h
 exact zT Tryz.results104
 refine zj (zs (zr ?_))
 refine zU (zl (zn ?_))
 rcases zI h with ⟨h9, h⟩ | ⟨h9, h⟩
 refine zi (zs (zr ?_))
 refine zU (zl (zn (zq (yr (zt ?_)))))
 cases h
 exact zT Tryz.results104
 refine zj (zs (zr ?_))
 refine zU (zl (zn ?_))
 rcases zI h with ⟨h10, h⟩ | ⟨h10, h⟩
 refine zi (zs (zr ?_))
 refine zU (zl (zn (zq (yr (zt ?_)))))
 cases h
 exact zT Tryz.results104
 refine zj (zs (zr ?_))
 refine zU (zl (zn ?_))
 rcases zI h with ⟨h11, h⟩ | ⟨h11, h⟩
 refine zi (zs (zr ?_))
 refine zU (zl (zn (zq (yr (zt ?_)))))
 cases h
 exact zT Tryz.results104
 refine zj (zs (zr ?_))
 refine zU (zl (zn ?_))
 rcases zI h with ⟨h12, h⟩ | ⟨h12, h⟩
 refine zi (zs (zr ?_))
 refine zU (zl (zn (zq (yr (zt ?_)))))
 cases h
 exact zT Tryz.results104
 refine zj (zs (zr ?_))
 refine zU (zl (zn ?_))
 rcases zI h with ⟨h13, h⟩ | ⟨h13, h⟩
 refine zi (zs (zr ?_))
 refine zU (zl (zn (zq (yr (zt ?_)))))
 cases h
 exact zT Tryz.results104
 refine zj (zk (yn (zn (zs (zr ?_)))))
 refine zU (zl (zn (zq ?_)))
 cases h
 exact zT Tryz.results104
end Go.Proofs.YtlaodgbkpmdhoaaGreatDoor
set_option linter.unusedVariables false
set_option linter.unusedSimpArgs false
namespace Go.Proofs.YtlaodgbkpmdhoaaGreatDoor
open Go Go.Ab
set_option maxHeartbeats 4000000 in
theorem drossref03_Wide_con {D : Prop} (x1 : Drossref03_Recipe) (n2 : Int) (r3 : Table) (h : drossref03_Wide x1 n2 = some r3) : Con D Tryz.prog 49 [(encDrossref03_Recipe x1), (.int .i64 n2)] (encTable r3) := by
 refine zP Tryz.call49 Tryz.func49 rfl Tryz.ntmps49 fun X w hT => ?_
 simp only [drossref03_Wide] at h
 refine zs (zr ?_)
 refine zU (zl (zn (zs (zr ?_))))
 obtain ⟨h4, h⟩ := ite_some h
 obtain ⟨h5, h⟩ := ite_some h
 refine zW 4 ?_
 obtain ⟨l6, h7, h⟩ := zB h
 replace h7 := Option.some.inj h7
 refine AL_le (st' := ⟨[(1, .p (.int .i64 n2)), (2, .loc 2 1 0 0), (4, .loc 4 1 0 0), (10, .own 10 1 0 0), (13, .own 11 1 0 n2.toNat)], [(2, .arr 36 3 1 [.p (encDrossref03_Recipe x1)]), (4, .arr 41 3 1 [.agg [.p (.str []), .nils, .nils]]), (10, .arr 9 1 1 []), (11, .arr 9 1 1 (List.map AV.p (List.map PV.str l6)))]⟩) (by simp only [go_sem, seval, ← h7]; all_goals ((repeat' refine And.intro ?_ ?_) <;> first | rfl | (simp; done) | (simp; rfl) | (simp [*]; done) | (simp [*]; rfl))) ?_
 have h7n : l6.length = 8 := by rw [← h7]; rfl
 clear h7
 obtain ⟨h8, h⟩ := ite_some h
 refine zU (zl (zn (zs (zs (zr ?_)))))
 refine zU (zl (zn (zb ?_)))
 obtain ⟨t9, h10, h⟩ := zB h
 refine zO (fun (s : List Row × Int) => ⟨[(1, .p (.int .i64 n2)), (2, .loc 2 1 0 0), (4, .loc 4 1 0 0), (5, .loc 5 1 0 0), (6, .p (.int .i64 s.2))], [(2, .arr 36 3 1 [.p (encDrossref03_Recipe x1)]), (4, .arr 41 3 1 [.agg [.p (.str []), .nils, .nils]]), (5, .arr 41 3 1 [.agg [.p (.str [114]), .own 10 1 0 ((l6.take n2.toNat)).length, .own 64 1 0 s.1.length]]), (10, .arr 9 1 1 (List.map AV.p (List.map PV.str (l6.take n2.toNat)))), (64, .arr 55 2 1 (List.map AV.p (List.map encRow s.1)))]⟩) (fun (o11 : List Row) => tE (cX Tryz.f49 X w D hT) (.exit 0) ⟨[(4, .loc 4 1 0 0), (5, .loc 5 1 0 0)], [(4, .arr 41 3 1 [.agg [.p (.str []), .nils, .nils]]), (5, .arr 41 3 1 [.agg [.p (.str [114]), .own 10 1 0 ((l6.take n2.toNat)).length, .own 64 1 0 o11.length]]), (10, .arr 9 1 1 (List.map AV.p (List.map PV.str (l6.take n2.toNat)))), (64, .arr 55 2 1 (List.map AV.p (List.map encRow o11)))]⟩) h10 ?_ ?_
 clear h h4 h5 h7n h8 h10
 intro s x h
 obtain ⟨t12, i13⟩ := s
 simp only [drossref03_Wide_l4] at h
 dsimp only
 refine zs (zs (zr ?_))
 refine zU (zl (zn ?_))
 rcases zI h with ⟨h14, h⟩ | ⟨h14, h⟩
 refine zi (zk (zn (zs (zb (zs (zr ?_))))))
 refine zU (zl (zn (zs (zs (zr ?_)))))
 refine zU (zl (zn (zb ?_)))
 obtain ⟨r15, h16, h⟩ := zB h
 refine zO (fun (s : List Value × Int) => ⟨[(1, .p (.int .i64 n2)), (2, .loc 2 1 0 0), (4, .loc 4 1 0 0), (5, .loc 5 1 0 0), (6, .p (.int .i64 i13)), (7, .loc 7 1 0 0), (8, .p (.int .i64 s.2))], [(2, .arr 36 3 1 [.p (encDrossref03_Recipe x1)]), (4, .arr 41 3 1 [.agg [.p (.str []), .nils, .nils]]), (5, .arr 41 3 1 [.agg [.p (.str [114]), .own 10 1 0 ((l6.take n2.toNat)).length, .own 64 1 0 t12.length]]), (7, .arr 55 2 1 [.agg [.p (.int .i64 (IntKind.i64.wrap (1 + (IntKind.i64.wrap (i13 * (IntKind.i64.wrap (1 + (IntKind.i64.wrap (Int.tmod x1.Gap 3))))))))), .own 58 1 0 s.1.length]]), (10, .arr 9 1 1 (List.map AV.p (List.map PV.str (l6.take n2.toNat)))), (58, .arr 27 3 1 (List.map AV.p (List.map encValue s.1))), (64, .arr 55 2 1 (List.map AV.p (List.map encRow t12)))]⟩) (fun (o17 : List Value) => tE (cX Tryz.f49 X w D hT) (.exit 2) ⟨[(1, .p (.int .i64 n2)), (2, .loc 2 1 0 0), (4, .loc 4 1 0 0), (5, .loc 5 1 0 0), (6, .p (.int .i64 i13)), (7, .loc 7 1 0 0)], [(2, .arr 36 3 1 [.p (encDrossref03_Recipe x1)]), (4, .arr 41 3 1 [.agg [.p (.str []), .nils, .nils]]), (5, .arr 41 3 1 [.agg [.p (.str [114]), .own 10 1 0 ((l6.take n2.toNat)).length, .own 64 1 0 t12.length]]), (7, .arr 55 2 1 [.agg [.p (.int .i64 (IntKind.i64.wrap (1 + (IntKind.i64.wrap (i13 * (IntKind.i64.wrap (1 + (IntKind.i64.wrap (Int.tmod x1.Gap 3))))))))), .own 58 1 0 o17.length]]), (10, .arr 9 1 1 (List.map AV.p (List.map PV.str (l6.take n2.toNat)))), (58, .arr 27 3 1 (List.map AV.p (List.map encValue o17))), (64, .arr 55 2 1 (List.map AV.p (List.map encRow t12)))]⟩) h16 ?_ ?_
 clear h h14 h16
 intro s x h
 obtain ⟨r18, k19⟩ := s
 simp only [drossref03_Wide_l3] at h
 dsimp only
 refine zs (zs (zr ?_))
 refine zU (zl (zn ?_))
 rcases zI h with ⟨h20, h⟩ | ⟨h20, h⟩
 refine zi (zk (zn (zs (zb (zs (zr ?_))))))
 refine zU (zl (zn (zs (zs (zr ?_)))))
 obtain ⟨x21, h22, h22a, h22b, h⟩ := zX h
 refine zU (zl (zn ?_))
 rcases zI h with ⟨h23, h⟩ | ⟨h23, h⟩
 refine zi (zr ?_)
 obtain ⟨x24, h25, h25a, h25b, h⟩ := zX h
 refine zU (zl (zn (zd ?_)))
 refine yU ?_
 obtain ⟨r26, h27, h⟩ := zB h
 refine yc (drossref01_Of_con x24 _ h27) ?_
 obtain ⟨h28, h⟩ := ite_some h
 refine yU ?_
 refine yd (yn (zn (zr ?_)))
 refine zU (zl ?_)
 cases h
 exact ⟨rfl, zE⟩
 refine zj (zk (zn (zd ?_)))
 refine yU ?_
 obtain ⟨r29, h30, h⟩ := zB h
 refine yc (drossref01_Of_con 0 _ h30) ?_
 obtain ⟨h31, h⟩ := ite_some h
 refine yU ?_
 refine yd (yn (zn (zr ?_)))
 refine zU (zl ?_)
 cases h
 exact ⟨rfl, zE⟩
 refine zj (zx (ze ?_))
 cases h
 exact ⟨rfl, zE⟩
 try simp only at h
 refine zA (yh (zn (zr ?_)))
 refine zW 4 ?_
 refine zM ⟨[(1, .p (.int .i64 n2)), (2, .loc 2 1 0 0), (4, .loc 4 1 0 0), (5, .loc 5 1 0 0), (6, .p (.int .i64 i13)), (61, .own 64 1 0 t12.length), (63, .own 63 1 0 1)], [(2, .arr 36 3 1 [.p (encDrossref03_Recipe x1)]), (4, .arr 41 3 1 [.agg [.p (.str []), .nils, .nils]]), (5, .arr 41 3 1 [.agg [.p (.str [114]), .own 10 1 0 ((l6.take n2.toNat)).length, .own 64 1 0 t12.length]]), (10, .arr 9 1 1 (List.map AV.p (List.map PV.str (l6.take n2.toNat)))), (63, .arr 55 2 1 [.p (.agg [.int .i64 (IntKind.i64.wrap (1 + (IntKind.i64.wrap (i13 * (IntKind.i64.wrap (1 + (IntKind.i64.wrap (Int.tmod x1.Gap 3)))))))), .slc (List.map encValue r15)])]), (64, .arr 55 2 1 (List.map AV.p (List.map encRow t12)))]⟩ ?_
 obtain ⟨h32, h⟩ := ite_some h
 refine zU (zl (yn (zn (zr ?_))))
 refine zU (zl ?_)
 cases h
 exact ⟨rfl, zE⟩
 refine zj (zx (ze ?_))
 cases h
 exact ⟨rfl, zE⟩
 try simp only at h
 refine zA (yh (zn (zs (zr ?_))))
 refine zU (zl (zn (zq ?_)))
 cases h
 exact zT Tryz.results49
end Go.Proofs.YtlaodgbkpmdhoaaGreatDoor
set_option linter.unusedVariables false
set_option linter.unusedSimpArgs false
namespace Go.Proofs.YtlaodgbkpmdhoaaGreatDoor
open Go Go.Ab
set_option maxHeartbeats 4000000 in
theorem drosslaw18_at_con {D : Prop} (v1 : Int) (a2 : Int) (r3 : Term) (h : drosslaw18_at v1 a2 = some r3) : Con D Tryz.prog 50 [(.int .i64 v1), (.int .i64 a2)] (encTerm r3) := by
 refine zP Tryz.call50 Tryz.func50 rfl Tryz.ntmps50 fun X w hT => ?_
 simp only [drosslaw18_at] at h
 refine zs (zr ?_)
 refine zU (zl (zn (zs (zr ?_))))
 refine zU (zl (zn (zq ?_)))
 cases h
 exact zT Tryz.results50
end Go.Proofs.YtlaodgbkpmdhoaaGreatDoor
set_option linter.unusedVariables false
set_option linter.unusedSimpArgs false
namespace Go.Proofs.YtlaodgbkpmdhoaaGreatDoor
open Go Go.Ab
set_option maxHeartbeats 4000000 in
theorem drosslaw18_num_con {D : Prop} (n1 : Int) (r2 : Term) (h : drosslaw18_num n1 = some r2) : Con D Tryz.prog 51 [(.int .i64 n1)] (encTerm r2) := by
 refine zP Tryz.call51 Tryz.func51 rfl Tryz.ntmps51 fun X w hT => ?_
 simp only [drosslaw18_num] at h
 refine zs (zr ?_)
 refine zU (zl (zn (zs (zr ?_))))
 refine zU (zl (zn (zq ?_)))
 cases h
 exact zT Tryz.results51
end Go.Proofs.YtlaodgbkpmdhoaaGreatDoor
set_option linter.unusedVariables false
set_option linter.unusedSimpArgs false
namespace Go.Proofs.YtlaodgbkpmdhoaaGreatDoor
open Go Go.Ab
set_option maxRecDepth 20000 in
set_option maxHeartbeats 4000000 in
theorem drosslaw18_awake_con  (r1 : Bool) (h : drosslaw18_awake = some r1) : Con False Tryz.prog 11 [] (.bool r1) := by
 refine zP Tryz.call11 Tryz.func11 rfl Tryz.ntmps11 fun X w hT => ?_
 simp only [drosslaw18_awake] at h
 refine zs (zr ?_)
 refine zU (zl (zn (zs (zr ?_))))
 refine zU ?_
 refine zM ⟨[(17, .p (.agg [.int .u8 0, .int .u8 0, .slc (List.map (encL (PV.int .u8)) [[2, 1], [2, 2], [11, 2]])]))], []⟩ ?_
 obtain ⟨r2, h3, h⟩ := zB h
 refine zc (drossref03_Wide_con (Drossref03_Recipe.mk 0 0 [[2, 1], [2, 2], [11, 2]]) 2 _ h3) ?_
 refine zU (zl (zn (zs (zr ?_))))
 refine zU ?_
 obtain ⟨r4, h5, h⟩ := zB h
 refine zc (denial_FromFD_con 2 (FD.mk 1 2) _ h5) ?_
 refine zU (zl (zn (zs (zr ?_))))
 obtain ⟨r6, h7, h⟩ := zB h
 refine zc (drosslaw18_at_con 1 0 _ h7) ?_
 obtain ⟨r8, h9, h⟩ := zB h
 refine zc (drosslaw18_at_con 2 0 _ h9) ?_
 refine zU ?_
 obtain ⟨r10, h11, h⟩ := zB h
 refine zc (drosslaw18_at_con 1 1 _ h11) ?_
 obtain ⟨r12, h13, h⟩ := zB h
 refine zc (drosslaw18_at_con 2 1 _ h13) ?_
 refine zU (zl (zn (zs (zr ?_))))
 refine zU ?_
 refine zM ⟨[(1, .loc 1 1 0 0), (2, .p (.slc (List.map encDenial r4.1))), (3, .p (.int .i64 r4.2)), (4, .loc 4 1 0 0), (33, .p (encTable r2)), (34, .p (.agg [.int .i64 2, .slc (List.map encAtom [(Atom.mk r6 1 r8), (Atom.mk r10 2 r12)])]))], [(1, .arr 41 3 1 [.p (encTable r2)]), (4, .arr 24 2 1 [.p (.agg [.int .i64 2, .slc (List.map encAtom [(Atom.mk r6 1 r8), (Atom.mk r10 2 r12)])])])]⟩ ?_
 obtain ⟨r14, h15, h⟩ := zB h
 refine zc (denial_Violations_con r2 (Denial.mk 2 [(Atom.mk r6 1 r8), (Atom.mk r10 2 r12)]) _ h15) ?_
 refine zU (zl (zn (zs (zd ?_))))
 refine yU ?_
 obtain ⟨r16, h17, h⟩ := zB h
 refine yc (drosslaw18_at_con 1 0 _ h17) ?_
 obtain ⟨r18, h19, h⟩ := zB h
 refine yc (drosslaw18_num_con 6 _ h19) ?_
 refine yV 1 ?_
 refine yS 43 ?_
 refine yU ?_
 obtain ⟨r20, h21, h⟩ := zB h
 refine yc (denial_Violations_con r2 (Denial.mk 1 [(Atom.mk r16 3 r18)]) _ h21) ?_
 refine yU ?_
 refine yd (zn (zs (zr ?_)))
 refine zU ?_
 refine zM ⟨[(2, .p (.slc (List.map encDenial r4.1))), (3, .p (.int .i64 r4.2)), (4, .loc 4 1 0 0), (5, .p (.slc (List.map (encL (PV.int .i64)) r14.1))), (6, .p (.int .i64 r14.2)), (7, .p (.slc (List.map (encL (PV.int .i64)) r20.1))), (8, .p (.int .i64 r20.2)), (51, .p (.agg [.slc (List.map (PV.int .i64) [0]), .slc (List.map (PV.int .i64) [1])]))], [(4, .arr 24 2 1 [.p (.agg [.int .i64 2, .slc (List.map encAtom [(Atom.mk r6 1 r8), (Atom.mk r10 2 r12)])])])]⟩ ?_
 obtain ⟨r22, h23, h⟩ := zB h
 refine zc (denial_FromOD_con 2 (OD.mk [0] [1]) _ h23) ?_
 refine zU (zl (zn (zs (zs (zr ?_)))))
 refine zU ?_
 rcases zI h with ⟨h24, h⟩ | ⟨h24, h⟩
 refine zw 57 true ?_
 refine zh ?_
 refine zU ?_
 refine zh ?_
 refine zU ?_
 refine zh ?_
 refine zU ?_
 refine zh ?_
 refine zU ?_
 refine zh ?_
 refine zU ?_
 refine zh ?_
 refine zU ?_
 refine zh ?_
 refine zU (zl (zn ?_))
 refine zi (zs (zr ?_))
 refine zU (zl (zn (zq (zt ?_))))
 cases h
 exact zT Tryz.results11
 refine zw 57 false ?_
 refine zg ?_
 refine zg ?_
 refine zU ?_
 rcases zI h with ⟨h25, h⟩ | ⟨h25, h⟩
 refine zw 61 true ?_
 refine zh ?_
 refine zU ?_
 refine zh ?_
 refine zU ?_
 refine zh ?_
 refine zU ?_
 refine zh ?_
 refine zU ?_
 refine zh ?_
 refine zU ?_
 refine zh ?_
 refine zU (zl (zn ?_))
 refine zi (zs (zr ?_))
 refine zU (zl (zn (zq (zt ?_))))
 cases h
 exact zT Tryz.results11
 refine zw 61 false ?_
 refine zg ?_
 refine zg ?_
 refine zU ?_
 rcases zI h with ⟨h26, h⟩ | ⟨h26, h⟩
 refine zw 65 true ?_
 refine zh ?_
 refine zU ?_
 refine zh ?_
 refine zU ?_
 refine zh ?_
 refine zU ?_
 refine zh ?_
 refine zU ?_
 refine zh ?_
 refine zU (zl (zn ?_))
 refine zi (zs (zr ?_))
 refine zU (zl (zn (zq (zt ?_))))
 cases h
 exact zT Tryz.results11
 refine zw 65 false ?_
 refine zg ?_
 refine zg ?_
 refine zU ?_
 rcases zI h with ⟨h27, h⟩ | ⟨h27, h⟩
 refine zw 69 true ?_
 refine zh ?_
 refine zU ?_
 refine zh ?_
 refine zU ?_
 refine zh ?_
 refine zU ?_
 refine zh ?_
 refine zU (zl (zn ?_))
 refine zi (zs (zr ?_))
 refine zU (zl (zn (zq (zt ?_))))
 cases h
 exact zT Tryz.results11
 refine zw 69 false ?_
 refine zg ?_
 refine zg ?_
 refine zg ?_
 obtain ⟨r28, h29, h⟩ := zB h
 refine zc (drossref18_Same_con r4.1 [(Denial.mk 2 [(Atom.mk r6 1 r8), (Atom.mk r10 2 r12)])] _ h29) ?_
 refine zg ?_
 refine zU ?_
 rcases zI h with ⟨h30, h⟩ | ⟨h30, h⟩
 refine zw 76 false ?_
 refine zg ?_
 refine zg ?_
 refine zg ?_
 obtain ⟨r31, h32, h⟩ := zB h
 refine zc (drossref18_Lists_con r14.1 [[1, 2]] _ h32) ?_
 refine zg ?_
 refine zU ?_
 rcases zI h with ⟨h33, h⟩ | ⟨h33, h⟩
 refine zw 83 false ?_
 refine zg ?_
 refine zg ?_
 refine zg ?_
 refine zg ?_
 obtain ⟨r34, h35, h⟩ := zB h
 refine zc (drossref18_Lists_con r20.1 [[1], [2]] _ h35) ?_
 refine zg ?_
 refine zU ?_
 rcases zI h with ⟨h36, h⟩ | ⟨h36, h⟩
 refine zw 91 false ?_
 refine zg ?_
 refine zg ?_
 refine zg ?_
 refine zU (zl (zn ?_))
 rcases zI h with ⟨h37, h⟩ | ⟨h37, h⟩
 refine zi (zs (zr ?_))
 refine zU (zl (zn (zq (zt ?_))))
 cases h
 exact zT Tryz.results11
 refine zj (zk (zn (zs (zr ?_))))
 obtain ⟨r38, h39, h⟩ := zB h
 refine zc (drosslaw18_at_con 1 0 _ h39) ?_
 obtain ⟨r40, h41, h⟩ := zB h
 refine zc (drosslaw18_at_con 1 1 _ h41) ?_
 refine zU ?_
 obtain ⟨r42, h43, h⟩ := zB h
 refine zc (drosslaw18_at_con 1 1 _ h43) ?_
 obtain ⟨r44, h45, h⟩ := zB h
 refine zc (drosslaw18_num_con 5 _ h45) ?_
 refine zU ?_
 obtain ⟨r46, h47, h⟩ := zB h
 refine zc (drosslaw18_num_con 6 _ h47) ?_
 obtain ⟨r48, h49, h⟩ := zB h
 refine zc (drosslaw18_at_con 1 0 _ h49) ?_
 refine zU (zl (zn (zs (zr ?_))))
 obtain ⟨r50, h51, h⟩ := zB h
 refine zc (drosslaw18_at_con 1 0 _ h51) ?_
 obtain ⟨r52, h53, h⟩ := zB h
 refine zc (drosslaw18_num_con 2 _ h53) ?_
 refine zU ?_
 obtain ⟨r54, h55, h⟩ := zB h
 refine zc (drosslaw18_num_con 1 _ h55) ?_
 obtain ⟨r56, h57, h⟩ := zB h
 refine zc (drosslaw18_at_con 1 0 _ h57) ?_
 refine zU (zl (zn (zs (zr ?_))))
 refine zU ?_
 obtain ⟨r58, h59, h⟩ := zB h
 refine zc (denial_Contradictory_con [(Atom.mk r38 3 r40), (Atom.mk r42 4 r44), (Atom.mk r46 3 r48)] _ h59) ?_
 refine zU ?_
 rcases zI h with ⟨h60, h⟩ | ⟨h60, h⟩
 refine zw 115 true ?_
 refine zg ?_
 obtain ⟨r61, h62, h⟩ := zB h
 replace h := h.symm
 refine zc (denial_Contradictory_con [(Atom.mk r50 3 r52), (Atom.mk r54 3 r56)] _ h62) ?_
 refine zg ?_
 refine zU (zl (zn (zq ?_)))
 cases h
 exact zT Tryz.results11
 refine zw 115 false ?_
 refine zh ?_
 refine zU (zl (zn (zq ?_)))
 cases h
 exact zT Tryz.results11
 refine zw 91 true ?_
 refine zh ?_
 refine zU (zl (zn ?_))
 refine zi (zs (zr ?_))
 refine zU (zl (zn (zq (zt ?_))))
 cases h
 exact zT Tryz.results11
 refine zw 83 true ?_
 refine zh ?_
 refine zU ?_
 refine zh ?_
 refine zU (zl (zn ?_))
 refine zi (zs (zr ?_))
 refine zU (zl (zn (zq (zt ?_))))
 cases h
 exact zT Tryz.results11
 refine zw 76 true ?_
 refine zh ?_
 refine zU ?_
 refine zh ?_
 refine zU ?_
 refine zh ?_
 refine zU (zl (zn ?_))
 refine zi (zs (zr ?_))
 refine zU (zl (zn (zq (zt ?_))))
 cases h
 exact zT Tryz.results11
end Go.Proofs.YtlaodgbkpmdhoaaGreatDoor
set_option linter.unusedVariables false
set_option linter.unusedSimpArgs false
namespace Go.Proofs.YtlaodgbkpmdhoaaGreatDoor
open Go Go.Ab
set_option maxHeartbeats 4000000 in
theorem drossref03_Table_con {D : Prop} (x1 : Drossref03_Recipe) (m2 : Int) (r3 : Table × Bool) (h : drossref03_Table x1 m2 = some r3) : Con D Tryz.prog 15 [(encDrossref03_Recipe x1), (.int .i64 m2)] (.tup [(encTable r3.1), (.bool r3.2)]) := by
 refine zP Tryz.call15 Tryz.func15 rfl Tryz.ntmps15 fun X w hT => ?_
 simp only [drossref03_Table] at h
 refine zs (zr ?_)
 refine zU (zl (zn (zs (zs (zr ?_)))))
 refine zU (zl (zn ?_))
 rcases zI h with ⟨h4, h⟩ | ⟨h4, h⟩
 refine zi (zs (zr ?_))
 refine zU (zl (zn (zq (zt ?_))))
 cases h
 exact zT Tryz.results15
 refine zj (zk (zn (zs (zr ?_))))
 refine zU ?_
 obtain ⟨r5, h6, h⟩ := zB h
 refine zc (drossref03_Wide_con x1 (IntKind.i64.wrap (Int.tmod x1.Attrs 6)) _ h6) ?_
 refine zU (zl (zn (zq ?_)))
 cases h
 exact zT Tryz.results15
end Go.Proofs.YtlaodgbkpmdhoaaGreatDoor
set_option linter.unusedVariables false
set_option linter.unusedSimpArgs false
namespace Go.Proofs.YtlaodgbkpmdhoaaGreatDoor
open Go Go.Ab
set_option maxHeartbeats 4000000 in
theorem drossref18_side_con {D : Prop} (n1 : Int) (v2 : Int) (s3 : Drossref18_Side) (r4 : Term) (h : drossref18_side n1 v2 s3 = some r4) : Con D Tryz.prog 75 [(.int .i64 n1), (.int .i64 v2), (encDrossref18_Side s3)] (encTerm r4) := by
 refine zP Tryz.call75 Tryz.func75 rfl Tryz.ntmps75 fun X w hT => ?_
 simp only [drossref18_side] at h
 refine zs (zr ?_)
 refine zU (zl (zn (zs (zr ?_))))
 obtain ⟨h5, h⟩ := ite_none h
 refine zU (zl (zn (zs ?_)))
 obtain ⟨t6, h7, h⟩ := zB h
 refine zJ (fun (o8 : Bool) => tE (cX Tryz.f75 X w D hT) .normal ⟨[(0, .p (.int .i64 n1)), (5, .loc 5 1 0 0), (6, .loc 6 1 0 0), (7, .p (.int .i64 (Int.tmod (IntKind.i64.wrap s3.Var) (IntKind.i64.wrap (v2 + 1))))), (19, .p (.bool o8))], [(5, .arr 122 2 1 [.p (encDrossref18_Side s3)]), (6, .arr 29 5 1 [.p (.agg [.int .i64 0, .int .i64 0, .int .i64 0, .int .i64 0, .str []])])]⟩) t6 ?_ ?_
 replace h := h7
 clear h7
 refine zr ?_
 refine zU ?_
 rcases zI h with ⟨h9, h⟩ | ⟨h9, h⟩
 refine zw 16 true ?_
 refine zh ?_
 refine zU (zl ?_)
 cases h
 exact ⟨rfl, zE⟩
 replace h := h.symm
 refine zw 16 false ?_
 refine zg ?_
 refine zg ?_
 refine zU (zl ?_)
 cases h
 exact ⟨rfl, zE⟩
 try simp only at h
 refine zA (zn ?_)
 rcases zI h with ⟨h10, h⟩ | ⟨h10, h⟩
 refine zi (zs (zr ?_))
 refine zU ?_
 obtain ⟨r11, h12, h⟩ := zB h
 refine zc (drossref01_Of_con s3.Code _ h12) ?_
 refine zU (zl (zn (zq (zt ?_))))
 cases h
 exact zT Tryz.results75
 refine zj (zk (zn (zs (zr ?_))))
 obtain ⟨h13, h⟩ := ite_none h
 refine zU (zl (zn (zq ?_)))
 cases h
 exact zT Tryz.results75
end Go.Proofs.YtlaodgbkpmdhoaaGreatDoor
set_option linter.unusedVariables false
set_option linter.unusedSimpArgs false
namespace Go.Proofs.YtlaodgbkpmdhoaaGreatDoor
open Go Go.Ab
set_option maxRecDepth 20000 in
set_option maxHeartbeats 4000000 in
theorem drossref18_Of_con {D : Prop} (n1 : Int) (r2 : Drossref18_Recipe) (r3 : Denial × Bool) (h : drossref18_Of n1 r2 = some r3) : Con D Tryz.prog 26 [(.int .i64 n1), (encDrossref18_Recipe r2)] (.tup [(encDenial r3.1), (.bool r3.2)]) := by
 refine zP Tryz.call26 Tryz.func26 rfl Tryz.ntmps26 fun X w hT => ?_
 simp only [drossref18_Of] at h
 refine zs (zr ?_)
 refine zU (zl (zn (zs (zr ?_))))
 refine zU (zl (zn (zs (zs (zr ?_)))))
 refine zU (zl (zn (zb ?_)))
 obtain ⟨d4, h5, h⟩ := zB h
 refine zO (fun (s : List Atom × Int) => ⟨[(0, .p (.int .i64 n1)), (3, .loc 3 1 0 0), (4, .loc 4 1 0 0), (6, .loc 6 1 0 0), (7, .p (.int .i64 s.2))], [(3, .arr 72 2 1 [.p (encDrossref18_Recipe r2)]), (4, .arr 24 2 1 [.agg [.p (.int .i64 0), .nils]]), (6, .arr 24 2 1 [.agg [.p (.int .i64 (IntKind.i64.wrap (1 + (IntKind.i64.wrap (Int.tmod r2.Vars 3))))), .own 48 1 0 s.1.length]]), (48, .arr 31 11 1 (List.map AV.p (List.map encAtom s.1)))]⟩) (fun (o6 : List Atom) => tE (cX Tryz.f26 X w D hT) (.exit 0) ⟨[(3, .loc 3 1 0 0), (4, .loc 4 1 0 0), (6, .loc 6 1 0 0)], [(3, .arr 72 2 1 [.p (encDrossref18_Recipe r2)]), (4, .arr 24 2 1 [.agg [.p (.int .i64 0), .nils]]), (6, .arr 24 2 1 [.agg [.p (.int .i64 (IntKind.i64.wrap (1 + (IntKind.i64.wrap (Int.tmod r2.Vars 3))))), .own 48 1 0 o6.length]]), (48, .arr 31 11 1 (List.map AV.p (List.map encAtom o6)))]⟩) h5 ?_ ?_
 clear h h5
 intro s x h
 obtain ⟨d7, i8⟩ := s
 simp only [drossref18_Of_l1] at h
 dsimp only
 refine zs (zs (zr ?_))
 refine zU (zl (zn ?_))
 rcases zI h with ⟨h9, h⟩ | ⟨h9, h⟩
 refine zi (zk (zn (zs (zb (zs (zr ?_))))))
 obtain ⟨x10, h11, h11a, h11b, h⟩ := zX h
 refine zU (zl (zn (zd ?_)))
 refine yU ?_
 obtain ⟨r12, h13, h⟩ := zB h
 refine yc (drossref18_side_con n1 (IntKind.i64.wrap (1 + (IntKind.i64.wrap (Int.tmod r2.Vars 3)))) x10.Left _ h13) ?_
 refine yU ?_
 obtain ⟨r14, h15, h⟩ := zB h
 refine yc (drossref18_side_con n1 (IntKind.i64.wrap (1 + (IntKind.i64.wrap (Int.tmod r2.Vars 3)))) x10.Right _ h15) ?_
 obtain ⟨h16, h⟩ := ite_some h
 refine yU ?_
 refine yd (yn (zn (zr ?_)))
 refine zU (zl ?_)
 cases h
 exact ⟨rfl, zE⟩
 refine zj (zx (ze ?_))
 cases h
 exact ⟨rfl, zE⟩
 try simp only at h
 refine zA (yh (zn (zs (zd ?_))))
 refine yU ?_
 refine yd (zn (zq ?_))
 cases h
 exact zT Tryz.results26
end Go.Proofs.YtlaodgbkpmdhoaaGreatDoor
set_option linter.unusedVariables false
set_option linter.unusedSimpArgs false
namespace Go.Proofs.YtlaodgbkpmdhoaaGreatDoor
open Go Go.Ab
set_option maxRecDepth 20000 in
set_option maxHeartbeats 4000000 in
theorem drossref03_letter_con {D : Prop} (c1 : Int) (r2 : Bool) (h : drossref03_letter c1 = some r2) : Con D Tryz.prog 167 [(.int .u8 c1)] (.bool r2) := by
 refine zP Tryz.call167 Tryz.func167 rfl Tryz.ntmps167 fun X w hT => ?_
 simp only [drossref03_letter] at h
 refine zs (zr ?_)
 refine zU (zl (zn (zs (zr ?_))))
 refine zU ?_
 rcases zI h with ⟨h3, h⟩ | ⟨h3, h⟩
 refine zw 5 true ?_
 refine zg ?_
 refine zg ?_
 refine zU ?_
 rcases zI h with ⟨h4, h⟩ | ⟨h4, h⟩
 refine zw 9 true ?_
 refine zh ?_
 refine zU ?_
 refine zh ?_
 refine zU (zl (zn (zq ?_)))
 cases h
 exact zT Tryz.results167
 refine zw 9 false ?_
 refine zg ?_
 refine zg ?_
 refine zg ?_
 rcases zI h with ⟨h5, h⟩ | ⟨h5, h⟩
 refine zw 12 true ?_
 refine zg ?_
 refine zg ?_
 refine zg ?_
 refine zU ?_
 rcases zI h with ⟨h6, h⟩ | ⟨h6, h⟩
 refine zw 17 true ?_
 refine zh ?_
 refine zU (zl (zn (zq ?_)))
 cases h
 exact zT Tryz.results167
 replace h := h.symm
 refine zw 17 false ?_
 refine zg ?_
 refine zg ?_
 refine zU (zl (zn (zq ?_)))
 cases h
 exact zT Tryz.results167
 replace h := h.symm
 refine zw 12 false ?_
 refine zh ?_
 refine zg ?_
 refine zU ?_
 refine zg ?_
 refine zg ?_
 refine zU (zl (zn (zq ?_)))
 cases h
 exact zT Tryz.results167
 refine zw 5 false ?_
 refine zh ?_
 refine zU ?_
 refine zg ?_
 refine zg ?_
 refine zg ?_
 rcases zI h with ⟨h7, h⟩ | ⟨h7, h⟩
 refine zw 12 true ?_
 refine zg ?_
 refine zg ?_
 refine zg ?_
 refine zU ?_
 rcases zI h with ⟨h8, h⟩ | ⟨h8, h⟩
 refine zw 17 true ?_
 refine zh ?_
 refine zU (zl (zn (zq ?_)))
 cases h
 exact zT Tryz.results167
 replace h := h.symm
 refine zw 17 false ?_
 refine zg ?_
 refine zg ?_
 refine zU (zl (zn (zq ?_)))
 cases h
 exact zT Tryz.results167
 replace h := h.symm
 refine zw 12 false ?_
 refine zh ?_
 refine zg ?_
 refine zU ?_
 refine zg ?_
 refine zg ?_
 refine zU (zl (zn (zq ?_)))
 cases h
 exact zT Tryz.results167
end Go.Proofs.YtlaodgbkpmdhoaaGreatDoor
set_option linter.unusedVariables false
set_option linter.unusedSimpArgs false
namespace Go.Proofs.YtlaodgbkpmdhoaaGreatDoor
open Go Go.Ab
set_option maxRecDepth 20000 in
set_option maxHeartbeats 4000000 in
theorem drossref03_Name_con {D : Prop} (s1 : List UInt8) (r2 : Bool) (h : drossref03_Name s1 = some r2) : Con D Tryz.prog 131 [(.str s1)] (.bool r2) := by
 refine zP Tryz.call131 Tryz.func131 rfl Tryz.ntmps131 fun X w hT => ?_
 simp only [drossref03_Name] at h
 refine zs (zr ?_)
 refine zU (zl (zn (zs (zs (zr ?_)))))
 refine zU ?_
 rcases zI h with ⟨h3, h⟩ | ⟨h3, h⟩
 refine zw 7 true ?_
 refine zh ?_
 refine zU ?_
 refine zh ?_
 refine zU ?_
 refine zh ?_
 refine zU (zl (zn ?_))
 refine zi (zs (zr ?_))
 refine zU (zl (zn (zq (zt ?_))))
 cases h
 exact zT Tryz.results131
 refine zw 7 false ?_
 refine zg ?_
 refine zg ?_
 refine zg ?_
 refine zU ?_
 rcases zI h with ⟨h4, h⟩ | ⟨h4, h⟩
 refine zw 12 true ?_
 refine zh ?_
 refine zU ?_
 refine zh ?_
 refine zU (zl (zn ?_))
 refine zi (zs (zr ?_))
 refine zU (zl (zn (zq (zt ?_))))
 cases h
 exact zT Tryz.results131
 refine zw 12 false ?_
 refine zg ?_
 obtain ⟨c5, h6, h6l, h6L, h⟩ := zY 0 h
 refine zg ?_
 obtain ⟨r7, h8, h⟩ := zB h
 refine zc (drossref03_letter_con ((c5.toNat : Nat) : Int) _ h8) ?_
 refine zg ?_
 refine zU ?_
 rcases zI h with ⟨h9, h⟩ | ⟨h9, h⟩
 refine zw 18 false ?_
 refine zg ?_
 refine zg ?_
 refine zU (zl (zn ?_))
 rcases zI h with ⟨h10, h⟩ | ⟨h10, h⟩
 refine zi (zs (zr ?_))
 refine zU (zl (zn (zq (zt ?_))))
 cases h
 exact zT Tryz.results131
 refine zj (zk (zn (zs (zs (zr ?_)))))
 refine zU (zl (zn (zb ?_)))
 obtain ⟨o11, h12, h⟩ := zB h
 refine zO (fun (s : Int) => ⟨[(0, .p (.str s1)), (3, .p (.int .i64 s))], []⟩) (fun (o : (Unit) ⊕ (Bool)) => match o with | .inl o13 => tE (cX Tryz.f131 X w D hT) (.exit 0) ⟨[], []⟩ | .inr o14 => tR Tryz.prog Tryz.f131 (.bool o14)) h12 ?_ ?_
 clear h h3 h4 h6 h6l h6L h8 h9 h10 h12
 intro i15 x h
 simp only [drossref03_Name_l1] at h
 refine zs (zs (zr ?_))
 refine zU (zl (zn ?_))
 rcases zI h with ⟨h16, h⟩ | ⟨h16, h⟩
 refine zi (zk (zn (zs (zb (zs (zr ?_))))))
 obtain ⟨c17, h18, h18a, h18b, h⟩ := zX h
 refine zU ?_
 obtain ⟨r19, h20, h⟩ := zB h
 refine zc (drossref03_letter_con ((c17.toNat : Nat) : Int) _ h20) ?_
 refine zU ?_
 rcases zI h with ⟨h21, h⟩ | ⟨h21, h⟩
 refine zw 33 false ?_
 refine zh ?_
 refine zU (zl (zn ?_))
 refine zj (zk (yn (zn (zr ?_))))
 refine zU (zl ?_)
 cases h
 exact ⟨rfl, zE⟩
 refine zw 33 true ?_
 refine zg ?_
 refine zg ?_
 refine zg ?_
 refine zg ?_
 refine zg ?_
 rcases zI h with ⟨h22, h⟩ | ⟨h22, h⟩
 replace h := h.symm
 refine zw 38 true ?_
 refine zh ?_
 refine zg ?_
 refine zU (zl (zn ?_))
 refine zi (zs (zr ?_))
 refine zU (zl (zn (zq (yr (zt ?_)))))
 cases h
 exact ⟨rfl, zT Tryz.results131⟩
 refine zw 38 false ?_
 refine zg ?_
 refine zg ?_
 refine zg ?_
 refine zg ?_
 refine zg ?_
 refine zU (zl (zn ?_))
 rcases zI h with ⟨h23, h⟩ | ⟨h23, h⟩
 refine zi (zs (zr ?_))
 refine zU (zl (zn (zq (yr (zt ?_)))))
 cases h
 exact ⟨rfl, zT Tryz.results131⟩
 refine zj (zk (yn (zn (zr ?_))))
 refine zU (zl ?_)
 cases h
 exact ⟨rfl, zE⟩
 refine zj (zx (ze ?_))
 cases h
 exact ⟨rfl, zE⟩
 rcases o11 with ⟨⟩ | r24
 try simp only at h
 refine zA (yh (zn (zs (zr ?_))))
 refine zU (zl (zn (zq ?_)))
 cases h
 exact zT Tryz.results131
 try simp only at h
 refine zZ fun s hq => ?_
 refine yr (zt ?_)
 cases h
 exact hq
 refine zw 18 true ?_
 refine zh ?_
 refine zU (zl (zn ?_))
 refine zi (zs (zr ?_))
 refine zU (zl (zn (zq (zt ?_))))
 cases h
 exact zT Tryz.results131
end Go.Proofs.YtlaodgbkpmdhoaaGreatDoor
set_option linter.unusedVariables false
set_option linter.unusedSimpArgs false
namespace Go.Proofs.YtlaodgbkpmdhoaaGreatDoor
open Go Go.Ab
set_option maxHeartbeats 4000000 in
theorem drossref03_Attr_con {D : Prop} (l1 : List (List UInt8)) (n2 : List UInt8) (r3 : Int) (h : drossref03_Attr l1 n2 = some r3) : Con D Tryz.prog 168 [(.slc (List.map PV.str l1)), (.str n2)] (.int .i64 r3) := by
 refine zP Tryz.call168 Tryz.func168 rfl Tryz.ntmps168 fun X w hT => ?_
 simp only [drossref03_Attr] at h
 refine zs (zr ?_)
 refine zU (zl (zn (zs (zs (zr ?_)))))
 refine zU (zl (zn (zb ?_)))
 obtain ⟨o4, h5, h⟩ := zB h
 refine zO (fun (s : Int) => ⟨[(0, .p (.slc (List.map PV.str l1))), (1, .p (.str n2)), (5, .p (.int .i64 s))], []⟩) (fun (o : (Unit) ⊕ (Int)) => match o with | .inl o6 => tE (cX Tryz.f168 X w D hT) (.exit 0) ⟨[], []⟩ | .inr o7 => tR Tryz.prog Tryz.f168 (.int .i64 o7)) h5 ?_ ?_
 clear h h5
 intro i8 x h
 simp only [drossref03_Attr_l1] at h
 refine zs (zs (zr ?_))
 refine zU (zl (zn ?_))
 rcases zI h with ⟨h9, h⟩ | ⟨h9, h⟩
 refine zi (zk (zn (zs (zb (zs (zr ?_))))))
 obtain ⟨x10, h11, h11a, h11b, h⟩ := zX h
 refine zU (zl (zn ?_))
 rcases zI h with ⟨h12, h⟩ | ⟨h12, h⟩
 refine zi (zs (zr ?_))
 refine zU (zl (zn (zq (yr (zt ?_)))))
 cases h
 exact ⟨rfl, zT Tryz.results168⟩
 refine zj (zk (yn (zn (zr ?_))))
 refine zU (zl ?_)
 cases h
 exact ⟨rfl, zE⟩
 refine zj (zx (ze ?_))
 cases h
 exact ⟨rfl, zE⟩
 rcases o4 with ⟨⟩ | r13
 try simp only at h
 refine zA (yh (zn (zs (zr ?_))))
 refine zU (zl (zn (zq ?_)))
 cases h
 exact zT Tryz.results168
 try simp only at h
 refine zZ fun s hq => ?_
 refine yr (zt ?_)
 cases h
 exact hq
end Go.Proofs.YtlaodgbkpmdhoaaGreatDoor
set_option linter.unusedVariables false
set_option linter.unusedSimpArgs false
namespace Go.Proofs.YtlaodgbkpmdhoaaGreatDoor
open Go Go.Ab
set_option maxRecDepth 20000 in
set_option maxHeartbeats 4000000 in
theorem drossref03_Names_con {D : Prop} (l1 : List (List UInt8)) (r2 : Bool) (h : drossref03_Names l1 = some r2) : Con D Tryz.prog 132 [(.slc (List.map PV.str l1))] (.bool r2) := by
 refine zP Tryz.call132 Tryz.func132 rfl Tryz.ntmps132 fun X w hT => ?_
 simp only [drossref03_Names] at h
 refine zs (zr ?_)
 refine zU (zl (zn (zs (zs (zr ?_)))))
 refine zU (zl (zn (zb ?_)))
 obtain ⟨o3, h4, h⟩ := zB h
 refine zO (fun (s : Int) => ⟨[(0, .p (.slc (List.map PV.str l1))), (3, .p (.int .i64 s))], []⟩) (fun (o : (Unit) ⊕ (Bool)) => match o with | .inl o5 => tE (cX Tryz.f132 X w D hT) (.exit 0) ⟨[], []⟩ | .inr o6 => tR Tryz.prog Tryz.f132 (.bool o6)) h4 ?_ ?_
 clear h h4
 intro i7 x h
 simp only [drossref03_Names_l1] at h
 refine zs (zs (zr ?_))
 refine zU (zl (zn ?_))
 rcases zI h with ⟨h8, h⟩ | ⟨h8, h⟩
 refine zi (zk (zn (zs (zb (zs (zd ?_))))))
 obtain ⟨x9, h10, h10a, h10b, h⟩ := zX h
 refine yU ?_
 obtain ⟨r11, h12, h⟩ := zB h
 refine yc (drossref03_Name_con x9 _ h12) ?_
 refine yU ?_
 rcases zI h with ⟨h13, h⟩ | ⟨h13, h⟩
 refine yw 16 false ?_
 refine yg ?_
 refine yg ?_
 obtain ⟨h14, h⟩ := ite_some h
 obtain ⟨h15, h⟩ := ite_some h
 refine yg ?_
 refine yg ?_
 refine yg ?_
 refine yg ?_
 refine yg ?_
 obtain ⟨r16, h17, h⟩ := zB h
 refine yc (drossref03_Attr_con (l1.take (i7.toNat)) x9 _ h17) ?_
 refine yg ?_
 refine yU ?_
 refine yd (zn ?_)
 rcases zI h with ⟨h18, h⟩ | ⟨h18, h⟩
 refine zi (zs (zr ?_))
 refine zU (zl (zn (zq (yr (zt ?_)))))
 cases h
 exact ⟨rfl, zT Tryz.results132⟩
 refine zj (zk (yn (zn (zr ?_))))
 refine zU (zl ?_)
 cases h
 exact ⟨rfl, zE⟩
 refine yw 16 true ?_
 refine yk ?_
 refine yU ?_
 refine yd (zn ?_)
 refine zi (zs (zr ?_))
 refine zU (zl (zn (zq (yr (zt ?_)))))
 cases h
 exact ⟨rfl, zT Tryz.results132⟩
 refine zj (zx (ze ?_))
 cases h
 exact ⟨rfl, zE⟩
 rcases o3 with ⟨⟩ | r19
 try simp only at h
 refine zA (yh (zn (zs (zr ?_))))
 refine zU (zl (zn (zq ?_)))
 cases h
 exact zT Tryz.results132
 try simp only at h
 refine zZ fun s hq => ?_
 refine yr (zt ?_)
 cases h
 exact hq
end Go.Proofs.YtlaodgbkpmdhoaaGreatDoor
set_option linter.unusedVariables false
set_option linter.unusedSimpArgs false
namespace Go.Proofs.YtlaodgbkpmdhoaaGreatDoor
open Go Go.Ab
set_option maxHeartbeats 4000000 in
theorem drossref01_Valid_con {D : Prop} (v1 : Value) (r2 : Bool) (h : drossref01_Valid v1 = some r2) : Con D Tryz.prog 107 [(encValue v1)] (.bool r2) := by
 refine zP Tryz.call107 Tryz.func107 rfl Tryz.ntmps107 fun X w hT => ?_
 simp only [drossref01_Valid] at h
 refine zs (zr ?_)
 refine zU (zl (zn (zs (zs (zr ?_)))))
 refine zU (zl (zn (zb (zs (zr ?_)))))
 refine zU (zl (zn ?_))
 rcases zI h with ⟨h3, h⟩ | ⟨h3, h⟩
 refine zi (zs (zr ?_))
 refine zU ?_
 rcases zI h with ⟨h4, h⟩ | ⟨h4, h⟩
 replace h := h.symm
 refine zw 10 true ?_
 refine zg ?_
 refine zg ?_
 refine zg ?_
 refine zU (zl (zn (zq (yr (zt ?_)))))
 cases h
 exact zT Tryz.results107
 refine zw 10 false ?_
 refine zh ?_
 refine zU (zl (zn (zq (yr (zt ?_)))))
 cases h
 exact zT Tryz.results107
 refine zj (zs (zr ?_))
 refine zU (zl (zn ?_))
 rcases zI h with ⟨h5, h⟩ | ⟨h5, h⟩
 refine zi (zs (zr ?_))
 refine zU (zl (zn (zq (yr (zt ?_)))))
 cases h
 exact zT Tryz.results107
 refine zj (zs (zr ?_))
 refine zU (zl (zn ?_))
 rcases zI h with ⟨h6, h⟩ | ⟨h6, h⟩
 refine zi (zs (zr ?_))
 refine zU ?_
 rcases zI h with ⟨h7, h⟩ | ⟨h7, h⟩
 replace h := h.symm
 refine zw 25 true ?_
 refine zg ?_
 refine zg ?_
 refine zg ?_
 refine zg ?_
 refine zU (zl (zn (zq (yr (zt ?_)))))
 cases h
 exact zT Tryz.results107
 refine zw 25 false ?_
 refine zh ?_
 refine zU (zl (zn (zq (yr (zt ?_)))))
 cases h
 exact zT Tryz.results107
 refine zj (zk (yn (zn (zs (zr ?_)))))
 refine zU ?_
 rcases zI h with ⟨h8, h⟩ | ⟨h8, h⟩
 refine zw 34 true ?_
 refine zg ?_
 refine zg ?_
 refine zg ?_
 refine zU ?_
 rcases zI h with ⟨h9, h⟩ | ⟨h9, h⟩
 replace h := h.symm
 refine zw 39 true ?_
 refine zg ?_
 refine zg ?_
 refine zg ?_
 refine zU (zl (zn (zq ?_)))
 cases h
 exact zT Tryz.results107
 refine zw 39 false ?_
 refine zh ?_
 refine zU (zl (zn (zq ?_)))
 cases h
 exact zT Tryz.results107
 refine zw 34 false ?_
 refine zh ?_
 refine zU ?_
 refine zh ?_
 refine zU (zl (zn (zq ?_)))
 cases h
 exact zT Tryz.results107
end Go.Proofs.YtlaodgbkpmdhoaaGreatDoor
set_option linter.unusedVariables false
set_option linter.unusedSimpArgs false
namespace Go.Proofs.YtlaodgbkpmdhoaaGreatDoor
open Go Go.Ab
set_option maxHeartbeats 4000000 in
theorem drossref01_Valids_con {D : Prop} (l1 : List Value) (r2 : Bool) (h : drossref01_Valids l1 = some r2) : Con D Tryz.prog 133 [(.slc (List.map encValue l1))] (.bool r2) := by
 refine zP Tryz.call133 Tryz.func133 rfl Tryz.ntmps133 fun X w hT => ?_
 simp only [drossref01_Valids] at h
 refine zs (zr ?_)
 refine zU (zl (zn (zs (zs (zr ?_)))))
 refine zU (zl (zn (zb ?_)))
 obtain ⟨o3, h4, h⟩ := zB h
 refine zO (fun (s : Int) => ⟨[(0, .p (.slc (List.map encValue l1))), (3, .p (.int .i64 s))], []⟩) (fun (o : (Unit) ⊕ (Bool)) => match o with | .inl o5 => tE (cX Tryz.f133 X w D hT) (.exit 0) ⟨[], []⟩ | .inr o6 => tR Tryz.prog Tryz.f133 (.bool o6)) h4 ?_ ?_
 clear h h4
 intro i7 x h
 simp only [drossref01_Valids_l1] at h
 refine zs (zs (zr ?_))
 refine zU (zl (zn ?_))
 rcases zI h with ⟨h8, h⟩ | ⟨h8, h⟩
 refine zi (zk (zn (zs (zb (zs (zr ?_))))))
 obtain ⟨x9, h10, h10a, h10b, h⟩ := zX h
 refine zU ?_
 obtain ⟨r11, h12, h⟩ := zB h
 refine zc (drossref01_Valid_con x9 _ h12) ?_
 refine zU (zl (zn ?_))
 rcases zI h with ⟨h13, h⟩ | ⟨h13, h⟩
 refine zj (zk (yn (zn (zr ?_))))
 refine zU (zl ?_)
 cases h
 exact ⟨rfl, zE⟩
 refine zi (zs (zr ?_))
 refine zU (zl (zn (zq (yr (zt ?_)))))
 cases h
 exact ⟨rfl, zT Tryz.results133⟩
 refine zj (zx (ze ?_))
 cases h
 exact ⟨rfl, zE⟩
 rcases o3 with ⟨⟩ | r14
 try simp only at h
 refine zA (yh (zn (zs (zr ?_))))
 refine zU (zl (zn (zq ?_)))
 cases h
 exact zT Tryz.results133
 try simp only at h
 refine zZ fun s hq => ?_
 refine yr (zt ?_)
 cases h
 exact hq
end Go.Proofs.YtlaodgbkpmdhoaaGreatDoor
set_option linter.unusedVariables false
set_option linter.unusedSimpArgs false
namespace Go.Proofs.YtlaodgbkpmdhoaaGreatDoor
open Go Go.Ab
set_option maxHeartbeats 4000000 in
theorem drossref03_Valid_con {D : Prop} (t1 : Table) (r2 : Int) (h : drossref03_Valid t1 = some r2) : Con D Tryz.prog 94 [(encTable t1)] (.int .i64 r2) := by
 refine zP Tryz.call94 Tryz.func94 rfl Tryz.ntmps94 fun X w hT => ?_
 simp only [drossref03_Valid] at h
 refine zs (zr ?_)
 refine zU (zl (zn (zs (zs (zr ?_)))))
 refine zU ?_
 obtain ⟨r3, h4, h⟩ := zB h
 refine zc (drossref03_Name_con t1.Name _ h4) ?_
 refine zU (zl (zn ?_))
 rcases zI h with ⟨h5, h⟩ | ⟨h5, h⟩
 refine zj (zk (zn (zs (zs (zr ?_)))))
 refine zU ?_
 rcases zI h with ⟨h6, h⟩ | ⟨h6, h⟩
 refine zw 14 true ?_
 refine zh ?_
 refine zU (zl (zn ?_))
 refine zi (zs (zr ?_))
 refine zU (zl (zn (zq (zt ?_))))
 cases h
 exact zT Tryz.results94
 refine zw 14 false ?_
 refine zg ?_
 refine zg ?_
 refine zg ?_
 refine zg ?_
 refine zU (zl (zn ?_))
 rcases zI h with ⟨h7, h⟩ | ⟨h7, h⟩
 refine zi (zs (zr ?_))
 refine zU (zl (zn (zq (zt ?_))))
 cases h
 exact zT Tryz.results94
 refine zj (zk (zn (zs (zs (zr ?_)))))
 refine zU ?_
 obtain ⟨r8, h9, h⟩ := zB h
 refine zc (drossref03_Names_con t1.Attrs _ h9) ?_
 refine zU (zl (zn ?_))
 rcases zI h with ⟨h10, h⟩ | ⟨h10, h⟩
 refine zj (zk (zn (zs (zr ?_))))
 refine zU (zl (zn (zs (zs (zr ?_)))))
 refine zU (zl (zn (zb ?_)))
 obtain ⟨o11, h12, h⟩ := zB h
 refine zO (fun (s : Int × Int) => ⟨[(1, .loc 1 1 0 0), (3, .p (.int .i64 s.1)), (4, .p (.int .i64 s.2))], [(1, .arr 41 3 1 [.p (encTable t1)])]⟩) (fun (o : (Unit) ⊕ (Int)) => match o with | .inl o13 => tE (cX Tryz.f94 X w D hT) (.exit 0) ⟨[], []⟩ | .inr o14 => tR Tryz.prog Tryz.f94 (.int .i64 o14)) h12 ?_ ?_
 clear h h4 h5 h6 h7 h9 h10 h12
 intro s x h
 obtain ⟨b15, i16⟩ := s
 simp only [drossref03_Valid_l1] at h
 dsimp only
 refine zs (zs (zr ?_))
 refine zU (zl (zn ?_))
 rcases zI h with ⟨h17, h⟩ | ⟨h17, h⟩
 refine zi (zk (zn (zs (zb (zs (zr ?_))))))
 obtain ⟨x18, h19, h19a, h19b, h⟩ := zX h
 refine zU (zl (zn (zs (zs (zr ?_)))))
 refine zU (zl (zn ?_))
 rcases zI h with ⟨h20, h⟩ | ⟨h20, h⟩
 refine zi (zs (zr ?_))
 refine zU (zl (zn (zq (zt (yr (zt ?_))))))
 cases h
 exact ⟨rfl, zT Tryz.results94⟩
 refine zj (zk (zn (zs (zr ?_))))
 refine zU (zl (zn (zs (zs (zr ?_)))))
 refine zU (zl (zn ?_))
 rcases zI h with ⟨h21, h⟩ | ⟨h21, h⟩
 refine zi (zs (zr ?_))
 refine zU (zl (zn (zq (zt (yr (zt ?_))))))
 cases h
 exact ⟨rfl, zT Tryz.results94⟩
 refine zj (zk (zn (zs (zr ?_))))
 refine zU ?_
 obtain ⟨r22, h23, h⟩ := zB h
 refine zc (drossref01_Valids_con x18.Values _ h23) ?_
 refine zU (zl (zn ?_))
 rcases zI h with ⟨h24, h⟩ | ⟨h24, h⟩
 refine zj (zk (yn (zn (zr ?_))))
 refine zU (zl ?_)
 cases h
 exact ⟨rfl, zE⟩
 refine zi (zs (zr ?_))
 refine zU (zl (zn (zq (yr (zt ?_)))))
 cases h
 exact ⟨rfl, zT Tryz.results94⟩
 refine zj (zx (ze ?_))
 cases h
 exact ⟨rfl, zE⟩
 rcases o11 with ⟨⟩ | r25
 try simp only at h
 refine zA (yh (zn (zs (zr ?_))))
 refine zU (zl (zn (zq ?_)))
 cases h
 exact zT Tryz.results94
 try simp only at h
 refine zZ fun s hq => ?_
 refine yr (zt ?_)
 cases h
 exact hq
 refine zi (zs (zr ?_))
 refine zU (zl (zn (zq (zt ?_))))
 cases h
 exact zT Tryz.results94
 refine zi (zs (zr ?_))
 refine zU (zl (zn (zq (zt ?_))))
 cases h
 exact zT Tryz.results94
end Go.Proofs.YtlaodgbkpmdhoaaGreatDoor
set_option linter.unusedVariables false
set_option linter.unusedSimpArgs false
namespace Go.Proofs.YtlaodgbkpmdhoaaGreatDoor
open Go Go.Ab
set_option maxHeartbeats 4000000 in
theorem drossref03_Find_con {D : Prop} (t1 : Table) (i2 : Int) (r3 : Int × Bool) (h : drossref03_Find t1 i2 = some r3) : Con D Tryz.prog 95 [(encTable t1), (.int .i64 i2)] (.tup [(.int .i64 r3.1), (.bool r3.2)]) := by
 refine zP Tryz.call95 Tryz.func95 rfl Tryz.ntmps95 fun X w hT => ?_
 simp only [drossref03_Find] at h
 refine zs (zr ?_)
 refine zU (zl (zn (zs (zs (zr ?_)))))
 refine zU (zl (zn (zb ?_)))
 obtain ⟨o4, h5, h⟩ := zB h
 refine zO (fun (s : Int) => ⟨[(1, .p (.int .i64 i2)), (2, .loc 2 1 0 0), (6, .p (.int .i64 s))], [(2, .arr 41 3 1 [.p (encTable t1)])]⟩) (fun (o : (Unit) ⊕ (Int × Bool)) => match o with | .inl o6 => tE (cX Tryz.f95 X w D hT) (.exit 0) ⟨[], []⟩ | .inr o7 => tR Tryz.prog Tryz.f95 (.tup [(.int .i64 o7.1), (.bool o7.2)])) h5 ?_ ?_
 clear h h5
 intro i8 x h
 simp only [drossref03_Find_l1] at h
 refine zs (zs (zr ?_))
 refine zU (zl (zn ?_))
 rcases zI h with ⟨h9, h⟩ | ⟨h9, h⟩
 refine zi (zk (zn (zs (zb (zs (zr ?_))))))
 obtain ⟨x10, h11, h11a, h11b, h⟩ := zX h
 refine zU (zl (zn ?_))
 rcases zI h with ⟨h12, h⟩ | ⟨h12, h⟩
 refine zi (zs (zr ?_))
 refine zU (zl (zn (zq (yr (zt ?_)))))
 cases h
 exact ⟨rfl, zT Tryz.results95⟩
 refine zj (zk (yn (zn (zr ?_))))
 refine zU (zl ?_)
 cases h
 exact ⟨rfl, zE⟩
 refine zj (zx (ze ?_))
 cases h
 exact ⟨rfl, zE⟩
 rcases o4 with ⟨⟩ | r13
 try simp only at h
 refine zA (yh (zn (zs (zr ?_))))
 refine zU (zl (zn (zq ?_)))
 cases h
 exact zT Tryz.results95
 try simp only at h
 refine zZ fun s hq => ?_
 refine yr (zt ?_)
 cases h
 exact hq
end Go.Proofs.YtlaodgbkpmdhoaaGreatDoor
set_option linter.unusedVariables false
set_option linter.unusedSimpArgs false
namespace Go.Proofs.YtlaodgbkpmdhoaaGreatDoor
open Go Go.Ab
set_option maxHeartbeats 4000000 in
theorem drossref03_cp_con {D : Prop} (r1 : Row) (r2 : Row) (h : drossref03_cp r1 = some r2) : Con D Tryz.prog 134 [(encRow r1)] (encRow r2) := by
 refine zP Tryz.call134 Tryz.func134 rfl Tryz.ntmps134 fun X w hT => ?_
 simp only [drossref03_cp] at h
 refine zs (zr ?_)
 refine zU (zl (zn (zs (zd ?_))))
 obtain ⟨h3, h⟩ := ite_some h
 refine yU ?_
 refine yd (zn (zq ?_))
 cases h
 exact zT Tryz.results134
end Go.Proofs.YtlaodgbkpmdhoaaGreatDoor
set_option linter.unusedVariables false
set_option linter.unusedSimpArgs false
namespace Go.Proofs.YtlaodgbkpmdhoaaGreatDoor
open Go Go.Ab
set_option maxRecDepth 20000 in
set_option maxHeartbeats 4000000 in
theorem drossref03_With_con {D : Prop} (t1 : Table) (r2 : List Row) (r3 : Table) (h : drossref03_With t1 r2 = some r3) : Con D Tryz.prog 96 [(encTable t1), (.slc (List.map encRow r2))] (encTable r3) := by
 refine zP Tryz.call96 Tryz.func96 rfl Tryz.ntmps96 fun X w hT => ?_
 simp only [drossref03_With] at h
 refine zs (zr ?_)
 refine zU (zl (zn (zs (zd ?_))))
 obtain ⟨h4, h⟩ := ite_some h
 refine yU ?_
 refine yd (zn (zs (zs (zr ?_))))
 refine zU (zl (zn (zb ?_)))
 obtain ⟨o5, h6, h⟩ := zB h
 refine zO (fun (s : List Row × Int) => ⟨[(1, .p (.slc (List.map encRow r2))), (4, .loc 4 1 0 0), (5, .loc 5 1 0 0), (6, .p (.int .i64 s.2))], [(4, .arr 41 3 1 [.agg [.p (.str []), .nils, .nils]]), (5, .arr 41 3 1 [.agg [.p (.str t1.Name), .own 9 1 0 (t1.Attrs).length, .own 28 1 0 s.1.length]]), (9, .arr 9 1 1 (List.map AV.p (List.map PV.str t1.Attrs))), (28, .arr 55 2 1 (List.map AV.p (List.map encRow s.1)))]⟩) (fun (o7 : List Row) => tE (cX Tryz.f96 X w D hT) (.exit 0) ⟨[(4, .loc 4 1 0 0), (5, .loc 5 1 0 0)], [(4, .arr 41 3 1 [.agg [.p (.str []), .nils, .nils]]), (5, .arr 41 3 1 [.agg [.p (.str t1.Name), .own 9 1 0 (t1.Attrs).length, .own 28 1 0 o7.length]]), (9, .arr 9 1 1 (List.map AV.p (List.map PV.str t1.Attrs))), (28, .arr 55 2 1 (List.map AV.p (List.map encRow o7)))]⟩) h6 ?_ ?_
 clear h h4 h6
 intro s x h
 obtain ⟨o8, i9⟩ := s
 simp only [drossref03_With_l1] at h
 dsimp only
 refine zs (zs (zr ?_))
 refine zU (zl (zn ?_))
 rcases zI h with ⟨h10, h⟩ | ⟨h10, h⟩
 refine zi (zk (zn (zs (zb (zd ?_)))))
 obtain ⟨x11, h12, h12a, h12b, h⟩ := zX h
 refine yU ?_
 obtain ⟨r13, h14, h⟩ := zB h
 refine yc (drossref03_cp_con x11 _ h14) ?_
 obtain ⟨h15, h⟩ := ite_some h
 refine yU ?_
 refine yd (yn (zn (zr ?_)))
 refine zU (zl ?_)
 cases h
 exact ⟨rfl, zE⟩
 refine zj (zx (ze ?_))
 cases h
 exact ⟨rfl, zE⟩
 try simp only at h
 refine zA (yh (zn (zs (zr ?_))))
 refine zU (zl (zn (zq ?_)))
 cases h
 exact zT Tryz.results96
end Go.Proofs.YtlaodgbkpmdhoaaGreatDoor
set_option linter.unusedVariables false
set_option linter.unusedSimpArgs false
namespace Go.Proofs.YtlaodgbkpmdhoaaGreatDoor
open Go Go.Ab
set_option maxRecDepth 20000 in
set_option maxHeartbeats 4000000 in
theorem drossref03_Delete_con {D : Prop} (t1 : Table) (i2 : Int) (r3 : Table × Int) (h : drossref03_Delete t1 i2 = some r3) : Con D Tryz.prog 38 [(encTable t1), (.int .i64 i2)] (.tup [(encTable r3.1), (.int .i64 r3.2)]) := by
 refine zP Tryz.call38 Tryz.func38 rfl Tryz.ntmps38 fun X w hT => ?_
 simp only [drossref03_Delete] at h
 refine zs (zr ?_)
 refine zU (zl (zn (zs (zs (zr ?_)))))
 refine zU ?_
 obtain ⟨r4, h5, h⟩ := zB h
 refine zc (drossref03_Valid_con t1 _ h5) ?_
 refine zU (zl (zn (zs (zr ?_))))
 refine zU (zl (zn ?_))
 rcases zI h with ⟨h6, h⟩ | ⟨h6, h⟩
 refine zi (zs (zr ?_))
 refine zU (zl (zn (zq (zt ?_))))
 cases h
 exact zT Tryz.results38
 refine zj (zk (zn (zs (zr ?_))))
 refine zU ?_
 obtain ⟨r7, h8, h⟩ := zB h
 refine zc (drossref03_Find_con t1 i2 _ h8) ?_
 refine zU (zl (zn (zs (zs (zr ?_)))))
 refine zU (zl (zn ?_))
 rcases zI h with ⟨h9, h⟩ | ⟨h9, h⟩
 refine zj (zk (zn (zs ?_)))
 refine zdl 13 ?_
 obtain ⟨h10, h⟩ := ite_some h
 obtain ⟨h11, h⟩ := ite_some h
 obtain ⟨h12, h⟩ := ite_some h
 obtain ⟨h13, h⟩ := ite_some h
 obtain ⟨h14, h⟩ := ite_some h
 obtain ⟨h15, h⟩ := ite_some h
 refine yU ?_
 refine ydl ?_
 refine zM ⟨[(4, .loc 4 1 0 0), (24, .p (encTable t1)), (36, .p (.slc (List.map encRow ((t1.Rows.take (r7.1.toNat)) ++ ((t1.Rows.drop (IntKind.i64.wrap (r7.1 + 1)).toNat).take (t1.Rows.length - (IntKind.i64.wrap (r7.1 + 1)).toNat))))))], [(4, .arr 41 3 1 [.agg [.p (.str []), .nils, .nils]])]⟩ ?_
 obtain ⟨r16, h17, h⟩ := zB h
 refine zc (drossref03_With_con t1 ((t1.Rows.take (r7.1.toNat)) ++ ((t1.Rows.drop (IntKind.i64.wrap (r7.1 + 1)).toNat).take (t1.Rows.length - (IntKind.i64.wrap (r7.1 + 1)).toNat))) _ h17) ?_
 refine zU (zl (zn (zq ?_)))
 cases h
 exact zT Tryz.results38
 refine zi (zs (zr ?_))
 refine zU (zl (zn (zq (zt ?_))))
 cases h
 exact zT Tryz.results38
end Go.Proofs.YtlaodgbkpmdhoaaGreatDoor
set_option linter.unusedVariables false
set_option linter.unusedSimpArgs false
namespace Go.Proofs.YtlaodgbkpmdhoaaGreatDoor
open Go Go.Ab
set_option maxHeartbeats 4000000 in
theorem slices_Index_int64_con {D : Prop} (s1 : List Int) (v2 : Int) (r3 : Int) (h : slices_Index_int64 s1 v2 = some r3) : Con D Tryz.prog 97 [(.slc (List.map (PV.int .i64) s1)), (.int .i64 v2)] (.int .i64 r3) := by
 refine zP Tryz.call97 Tryz.func97 rfl Tryz.ntmps97 fun X w hT => ?_
 simp only [slices_Index_int64] at h
 refine zs (zr ?_)
 refine zU (zl (zn (zs (zs (zr ?_)))))
 refine zU (zl (zn (zb ?_)))
 obtain ⟨o4, h5, h⟩ := zB h
 refine zO (fun (s : Int) => ⟨[(0, .p (.slc (List.map (PV.int .i64) s1))), (1, .p (.int .i64 v2)), (7, .p (.int .i64 (s1.length : Int))), (8, .p (.int .i64 s))], []⟩) (fun (o : (Unit) ⊕ (Int)) => match o with | .inl o6 => tE (cX Tryz.f97 X w D hT) (.exit 0) ⟨[], []⟩ | .inr o7 => tR Tryz.prog Tryz.f97 (.int .i64 o7)) h5 ?_ ?_
 clear h h5
 intro t8 x h
 simp only [slices_Index_int64_l1] at h
 refine zs (zr ?_)
 refine zU (zl (zn (zs ?_)))
 rcases zI h with ⟨h9, h⟩ | ⟨h9, h⟩
 refine zi (zk (zn (zs (zb (zs (zr ?_))))))
 refine zU (zl (zn (zs (zr ?_))))
 obtain ⟨x10, h11, h11a, h11b, h⟩ := zX h
 refine zU (zl (zn ?_))
 rcases zI h with ⟨h12, h⟩ | ⟨h12, h⟩
 refine zi (zs (zr ?_))
 refine zU (zl (zn (zq (yr (zt ?_)))))
 cases h
 exact ⟨rfl, zT Tryz.results97⟩
 refine zj (zk (yn (zn (zr ?_))))
 refine zU (zl ?_)
 cases h
 exact ⟨rfl, zE⟩
 refine zj (zx (ze ?_))
 cases h
 exact ⟨rfl, zE⟩
 rcases o4 with ⟨⟩ | r13
 try simp only at h
 refine zA (yh (zn (zs (zr ?_))))
 refine zU (zl (zn (zq ?_)))
 cases h
 exact zT Tryz.results97
 try simp only at h
 refine zZ fun s hq => ?_
 refine yr (zt ?_)
 cases h
 exact hq
end Go.Proofs.YtlaodgbkpmdhoaaGreatDoor
set_option linter.unusedVariables false
set_option linter.unusedSimpArgs false
namespace Go.Proofs.YtlaodgbkpmdhoaaGreatDoor
open Go Go.Ab
set_option maxHeartbeats 4000000 in
theorem slices_Contains_int64_con {D : Prop} (s1 : List Int) (v2 : Int) (r3 : Bool) (h : slices_Contains_int64 s1 v2 = some r3) : Con D Tryz.prog 41 [(.slc (List.map (PV.int .i64) s1)), (.int .i64 v2)] (.bool r3) := by
 refine zP Tryz.call41 Tryz.func41 rfl Tryz.ntmps41 fun X w hT => ?_
 simp only [slices_Contains_int64] at h
 refine zs (zr ?_)
 refine zU (zl (zn (zs (zr ?_))))
 refine zU ?_
 obtain ⟨r4, h5, h⟩ := zB h
 refine zc (slices_Index_int64_con s1 v2 _ h5) ?_
 refine zU (zl (zn (zq ?_)))
 cases h
 exact zT Tryz.results41
end Go.Proofs.YtlaodgbkpmdhoaaGreatDoor
set_option linter.unusedVariables false
set_option linter.unusedSimpArgs false
namespace Go.Proofs.YtlaodgbkpmdhoaaGreatDoor
open Go Go.Ab
set_option maxHeartbeats 4000000 in
theorem drosslaw18_DenialFewer_1_con {D : Prop} (l1 : List Int) (c2 : Int) (r3 : Bool) (h : drosslaw18_DenialFewer_1 l1 c2 = some r3) : Con D Tryz.prog 40 [(.slc (List.map (PV.int .i64) l1)), .imm [.int .i64 c2]] (.bool r3) := by
 refine zP Tryz.call40 Tryz.func40 rfl Tryz.ntmps40 fun X w hT => ?_
 simp only [drosslaw18_DenialFewer_1] at h
 refine zs (zr ?_)
 refine zU (zl (zn (zs (zr ?_))))
 refine zU ?_
 obtain ⟨r4, h5, h⟩ := zB h
 refine zc (slices_Contains_int64_con l1 c2 _ h5) ?_
 refine zU (zl (zn (zq ?_)))
 cases h
 exact zT Tryz.results40
end Go.Proofs.YtlaodgbkpmdhoaaGreatDoor
set_option linter.unusedVariables false
set_option linter.unusedSimpArgs false
namespace Go.Proofs.YtlaodgbkpmdhoaaGreatDoor
open Go Go.Ab
set_option maxHeartbeats 4000000 in
theorem slices_IndexFunc_Lint64_con {D : Prop} (s1 : List (List Int)) (f2 : (List Int) → Option (Bool)) (f2_k : FuncId) (f2_cs : List PV) (f2_h : ∀ (y3 : List Int) (r4 : Bool), f2 y3 = some r4 → Con D Tryz.prog f2_k ((.slc (List.map (PV.int .i64) y3)) :: f2_cs) (.bool r4)) (r5 : Int) (h : slices_IndexFunc_Lint64 s1 f2 = some r5) : Con D Tryz.prog 93 [(.slc (List.map (encL (PV.int .i64)) s1)), .func (.func f2_k) f2_cs] (.int .i64 r5) := by
 refine zP Tryz.call93 Tryz.func93 rfl Tryz.ntmps93 fun X w hT => ?_
 simp only [slices_IndexFunc_Lint64] at h
 refine zs (zr ?_)
 refine zU (zl (zn (zs (zs (zr ?_)))))
 refine zU (zl (zn (zb ?_)))
 obtain ⟨o6, h7, h⟩ := zB h
 refine zO (fun (s : Int) => ⟨[(0, .p (.slc (List.map (encL (PV.int .i64)) s1))), (1, .p (.func (.func f2_k) f2_cs)), (7, .p (.int .i64 (s1.length : Int))), (8, .p (.int .i64 s))], []⟩) (fun (o : (Unit) ⊕ (Int)) => match o with | .inl o8 => tE (cX Tryz.f93 X w D hT) (.exit 0) ⟨[], []⟩ | .inr o9 => tR Tryz.prog Tryz.f93 (.int .i64 o9)) h7 ?_ ?_
 clear h h7
 intro t10 x h
 simp only [slices_IndexFunc_Lint64_l1] at h
 refine zs (zr ?_)
 refine zU (zl (zn (zs ?_)))
 rcases zI h with ⟨h11, h⟩ | ⟨h11, h⟩
 refine zi (zk (zn (zs (zb (zs (zr ?_))))))
 refine zU (zl (zn (zs (zr ?_))))
 obtain ⟨x12, h13, h13a, h13b, h⟩ := zX h
 refine zU ?_
 obtain ⟨r14, h15, h⟩ := zB h
 refine zc (f2_h x12 _ h15) ?_
 refine zl (zn ?_)
 rcases zI h with ⟨h16, h⟩ | ⟨h16, h⟩
 refine zi (zs (zr ?_))
 refine zU (zl (zn (zq (yr (zt ?_)))))
 cases h
 exact ⟨rfl, zT Tryz.results93⟩
 refine zj (zk (yn (zn (zr ?_))))
 refine zU (zl ?_)
 cases h
 exact ⟨rfl, zE⟩
 refine zj (zx (ze ?_))
 cases h
 exact ⟨rfl, zE⟩
 rcases o6 with ⟨⟩ | r17
 try simp only at h
 refine zA (yh (zn (zs (zr ?_))))
 refine zU (zl (zn (zq ?_)))
 cases h
 exact zT Tryz.results93
 try simp only at h
 refine zZ fun s hq => ?_
 refine yr (zt ?_)
 cases h
 exact hq
end Go.Proofs.YtlaodgbkpmdhoaaGreatDoor
set_option linter.unusedVariables false
set_option linter.unusedSimpArgs false
namespace Go.Proofs.YtlaodgbkpmdhoaaGreatDoor
open Go Go.Ab
set_option maxRecDepth 20000 in
set_option maxHeartbeats 4000000 in
theorem drosslaw18_DenialFewer_con (x1 : Drossref03_Recipe) (r2 : Drossref18_Recipe) (i3 : Int) (r4 : Bool) (h : drosslaw18_DenialFewer x1 r2 i3 = some r4) : Con False Tryz.prog 9 [(encDrossref03_Recipe x1), (encDrossref18_Recipe r2), (.int .u8 i3)] (.bool r4) := by
 refine zP Tryz.call9 Tryz.func9 rfl Tryz.ntmps9 fun X w hT => ?_
 simp only [drosslaw18_DenialFewer] at h
 refine zs (zr ?_)
 refine zU (zl (zn (zs (zr ?_))))
 refine zU ?_
 obtain ⟨r5, h6, h⟩ := zB h
 refine zc (drossref03_Table_con x1 7 _ h6) ?_
 refine zU (zl (zn (zs (zr ?_))))
 refine zU ?_
 obtain ⟨r7, h8, h⟩ := zB h
 refine zc (drossref18_Of_con (r5.1.Attrs.length : Int) r2 _ h8) ?_
 refine zU (zl (zn (zs ?_)))
 obtain ⟨t9, h10, h⟩ := zB h
 refine zJ (fun (o11 : Bool) => tE (cX Tryz.f9 X w False hT) .normal ⟨[(2, .p (.int .u8 i3)), (7, .loc 7 1 0 0), (9, .loc 9 1 0 0), (47, .p (.bool o11))], [(7, .arr 41 3 1 [.p (encTable r5.1)]), (9, .arr 24 2 1 [.p (encDenial r7.1)])]⟩) t9 ?_ ?_
 replace h := h10
 clear h10
 refine zr ?_
 obtain ⟨r12, h13, h⟩ := zB h
 refine zc (drosslaw18_awake_con  _ h13) ?_
 refine zU ?_
 rcases zI h with ⟨h14, h⟩ | ⟨h14, h⟩
 refine zw 34 false ?_
 refine zg ?_
 refine zg ?_
 refine zU ?_
 rcases zI h with ⟨h15, h⟩ | ⟨h15, h⟩
 refine zw 38 false ?_
 refine zg ?_
 refine zg ?_
 refine zU ?_
 rcases zI h with ⟨h16, h⟩ | ⟨h16, h⟩
 replace h := h.symm
 refine zw 42 false ?_
 refine zg ?_
 refine zg ?_
 refine zg ?_
 refine zg ?_
 refine zU (zl ?_)
 cases h
 exact ⟨rfl, zE⟩
 refine zw 42 true ?_
 refine zh ?_
 refine zU (zl ?_)
 cases h
 exact ⟨rfl, zE⟩
 refine zw 38 true ?_
 refine zh ?_
 refine zU ?_
 refine zh ?_
 refine zU (zl ?_)
 cases h
 exact ⟨rfl, zE⟩
 refine zw 34 true ?_
 refine zh ?_
 refine zU ?_
 refine zh ?_
 refine zU ?_
 refine zh ?_
 refine zU (zl ?_)
 cases h
 exact ⟨rfl, zE⟩
 try simp only at h
 refine zA (zn ?_)
 rcases zI h with ⟨h17, h⟩ | ⟨h17, h⟩
 refine zi (zs (zr ?_))
 obtain ⟨r18, h19, h⟩ := zB h
 refine zc (drosslaw18_awake_con  _ h19) ?_
 refine zU (zl (zn (zq (zt ?_))))
 cases h
 exact zT Tryz.results9
 have h17F := Bool.eq_false_iff.2 h17
 refine zj (zk (zn (zs (zd ?_))))
 obtain ⟨h20, h⟩ := ite_none h
 obtain ⟨x21, h22, h22a, h22b, h⟩ := zX h
 refine yU ?_
 refine yd (zn (zs (zr ?_)))
 refine zU ?_
 obtain ⟨r23, h24, h⟩ := zB h
 refine zc (drossref03_Delete_con r5.1 x21.ID _ h24) ?_
 refine zU (zl (zn ?_))
 obtain ⟨o25, h26, h⟩ := zB h
 refine zJ (fun (o27 : List (List Int) × Int) => tE (cX Tryz.f9 X w False hT) .normal ⟨[(9, .loc 9 1 0 0), (11, .loc 11 1 0 0), (12, .loc 12 1 0 0), (14, .own 200100 1 0 o27.1.length), (15, .p (.int .i64 o27.2))], [(9, .arr 24 2 1 [.p (encDenial r7.1)]), (11, .arr 2 1 1 [.p (.int .i64 x21.ID)]), (12, .arr 41 3 1 [.p (encTable r23.1)]), (200100, .arr 57 1 1 (List.map AV.p (List.map (encL (PV.int .i64)) o27.1)))]⟩) o25 ?_ ?_
 replace h := h26
 clear h26
 refine zr ?_
 refine zU ?_
 refine zM ⟨[(9, .loc 9 1 0 0), (11, .loc 11 1 0 0), (12, .loc 12 1 0 0), (67, .p (encTable r5.1)), (68, .p (encDenial r7.1))], [(9, .arr 24 2 1 [.p (encDenial r7.1)]), (11, .arr 2 1 1 [.p (.int .i64 x21.ID)]), (12, .arr 41 3 1 [.p (encTable r23.1)])]⟩ ?_
 refine AL_inline (avs := [.p (encTable r5.1), .p (encDenial r7.1)]) 92 rfl (guard_none rfl) rfl Tryz.func29 rfl Tryz.call29 Tryz.ntmps29 (by simp) (by simp only [go_sem, seval, h17F]; all_goals rfl) ?_
 intro i28 w29 h30
 show AWp _ _ _ ⟨[(0, .p (encTable r5.1)), (1, .p (encDenial r7.1))], [(9, .arr 24 2 1 [.p (encDenial r7.1)]), (11, .arr 2 1 1 [.p (.int .i64 x21.ID)]), (12, .arr 41 3 1 [.p (encTable r23.1)])]⟩
 refine zs (zr ?_)
 refine zU (zl (zn (zs (zs (zr ?_)))))
 refine zU ?_
 obtain ⟨r31, h32, h⟩ := zB h
 refine zc (denial_checked_con r5.1 r7.1 _ h32) ?_
 refine zU (zl (zn (zs (zr ?_))))
 refine zU (zl (zn ?_))
 rcases zI h with ⟨h33, h⟩ | ⟨h33, h⟩
 refine zi (zs (zr ?_))
 refine zU (zl (zn (zq (zt ?_))))
 refine inlQ_ret (by simp only [Tryz.results29]; simp only [go_sem, seval, h17F, h33]; exact rfl) ?_
 refine zU (zl ?_)
 cases h
 exact ⟨rfl, zE⟩
 have h33F := Bool.eq_false_iff.2 h33
 refine zj (zk (zn (zs (zr ?_))))
 refine zU (zl (zn (zs (zr ?_))))
 refine zU (zl (zn ?_))
 obtain ⟨o34, h35, h⟩ := zB h
 refine zJ (fun (o36 : List (List Int) × Bool) => tE ⟨Tryz.prog, 26, 92, X, [(9, .arr 24 2 1 [.p (encDenial r7.1)]), (11, .arr 2 1 1 [.p (.int .i64 x21.ID)]), (12, .arr 41 3 1 [.p (encTable r23.1)])], i28, w29, False, h30⟩ .normal ⟨[(8, .loc 100 1 0 0), (9, .p (.bool o36.2))], [(9, .arr 24 2 1 [.p (encDenial r7.1)]), (11, .arr 2 1 1 [.p (.int .i64 x21.ID)]), (12, .arr 41 3 1 [.p (encTable r23.1)]), (100, .arr 52 1 1 [.own 200100 1 0 o36.1.length]), (200100, .arr 57 1 1 (List.map AV.p (List.map (encL (PV.int .i64)) o36.1)))]⟩) o34 ?_ ?_
 replace h := h35
 clear h35
 refine zr ?_
 refine zU ?_
 refine zM ⟨[(8, .loc 100 1 0 0), (17, .p (encTable r5.1)), (18, .p (encDenial r7.1)), (19, .func (.func 83) [.loc 99 1 0 0, .loc 100 1 0 0])], [(9, .arr 24 2 1 [.p (encDenial r7.1)]), (11, .arr 2 1 1 [.p (.int .i64 x21.ID)]), (12, .arr 41 3 1 [.p (encTable r23.1)]), (99, .arr 134 1 1 [.mapo 108 1]), (100, .arr 52 1 1 [.own 200100 1 0 0]), (108, .map 1 [] []), (200100, .arr 57 1 1 [])]⟩ ?_
 obtain ⟨m37, h38, h⟩ := zB h
 replace h38 := Option.some.inj h38
 refine AL_le (st' := ⟨[(8, .loc 100 1 0 0), (17, .p (encTable r5.1)), (18, .p (encDenial r7.1)), (19, .func (.func 83) [.loc 99 1 0 0, .loc 100 1 0 0])], [(9, .arr 24 2 1 [.p (encDenial r7.1)]), (11, .arr 2 1 1 [.p (.int .i64 x21.ID)]), (12, .arr 41 3 1 [.p (encTable r23.1)]), (99, .arr 134 1 1 [.mapo 108 1]), (100, .arr 52 1 1 [.own 200100 1 0 0]), (108, .map 1 (List.map AV.p (encK encArr3_int64 m37)) (List.map AV.p (encW PV.bool m37))), (200100, .arr 57 1 1 [])]⟩) (by simp only [go_sem, seval, h17F, h33F, ← h38]; all_goals ((repeat' refine And.intro ?_ ?_) <;> first | rfl | (simp; done) | (simp; rfl) | (simp [*]; done) | (simp [*]; rfl))) ?_
 clear h38
 refine zM ⟨[(8, .loc 100 1 0 0), (17, .p (encTable r5.1)), (18, .p (encDenial r7.1)), (19, .func (.func 83) [.loc 99 1 0 0, .loc 100 1 0 0])], [(9, .arr 24 2 1 [.p (encDenial r7.1)]), (11, .arr 2 1 1 [.p (.int .i64 x21.ID)]), (12, .arr 41 3 1 [.p (encTable r23.1)]), (99, .arr 134 1 1 [.mapo 108 1]), (100, .arr 52 1 1 [.own 200100 1 0 0]), (108, .map 1 (List.map AV.p (encK encArr3_int64 m37)) (List.map AV.p (encW PV.bool m37))), (200100, .arr 57 1 1 [])]⟩ ?_
 refine AL_inline (avs := [.p (encTable r5.1), .p (encDenial r7.1), .nils, .func (.func 83) [.loc 99 1 0 0, .loc 100 1 0 0]]) 118 rfl (guard_none rfl) rfl Tryz.func82 rfl Tryz.call82 Tryz.ntmps82 (by simp) (by simp only [go_sem, seval, h17F, h33F]; all_goals rfl) ?_
 intro i39 w40 h41
 obtain ⟨l42, h43, h⟩ := zB h
 replace h43 := Option.some.inj h43
 refine awp_le (st' := ⟨[(0, .p (encTable r5.1)), (1, .p (encDenial r7.1)), (2, .p (.slc (List.map encRow l42))), (3, .func (.func 83) [.loc 99 1 0 0, .loc 100 1 0 0])], [(9, .arr 24 2 1 [.p (encDenial r7.1)]), (11, .arr 2 1 1 [.p (.int .i64 x21.ID)]), (12, .arr 41 3 1 [.p (encTable r23.1)]), (99, .arr 134 1 1 [.mapo 108 1]), (100, .arr 52 1 1 [.own 200100 1 0 0]), (108, .map 1 (List.map AV.p (encK encArr3_int64 m37)) (List.map AV.p (encW PV.bool m37))), (200100, .arr 57 1 1 [])]⟩) (by simp only [go_sem, seval, h17F, h33F, ← h43]; all_goals ((repeat' refine And.intro ?_ ?_) <;> first | rfl | (simp; done) | (simp; rfl) | (simp [*]; done) | (simp [*]; rfl))) ?_
 clear h43
 refine zs (zr ?_)
 refine zU (zl (zn (zs (zs (zr ?_)))))
 refine zU (zl (zn ?_))
 rcases zI h with ⟨h44, h⟩ | ⟨h44, h⟩
 refine zi (zs (zr ?_))
 refine zU ?_
 obtain ⟨r45, h46, h⟩ := zB h
 refine zc (denial_satisfied_con l42 r7.1.Atoms _ h46) ?_
 refine zU ?_
 rcases zI h with ⟨h47, h⟩ | ⟨h47, h⟩
 refine zw 21 false ?_
 refine zg ?_
 refine zg ?_
 refine zM ⟨[(21, .p (.bool false)), (22, .func (.func 83) [.loc 99 1 0 0, .loc 100 1 0 0]), (23, .p (.slc (List.map encRow l42)))], [(9, .arr 24 2 1 [.p (encDenial r7.1)]), (11, .arr 2 1 1 [.p (.int .i64 x21.ID)]), (12, .arr 41 3 1 [.p (encTable r23.1)]), (99, .arr 134 1 1 [.mapo 108 1]), (100, .arr 52 1 1 [.own 200100 1 0 0]), (108, .map 1 (List.map AV.p (encK encArr3_int64 m37)) (List.map AV.p (encW PV.bool m37))), (200100, .arr 57 1 1 [])]⟩ ?_
 refine AL_inline (avs := [.p (.slc (List.map encRow l42)), .loc 99 1 0 0, .loc 100 1 0 0]) 165 rfl (guard_true' rfl rfl (by exact rfl) (by exact rfl)) rfl Tryz.func83 rfl Tryz.call83 Tryz.ntmps83 (by simp) (by simp only [go_sem, seval, h17F, h33F, h44, h47]; all_goals rfl) ?_
 intro i48 w49 h50
 show AWp _ _ _ ⟨[(0, .p (.slc (List.map encRow l42))), (1, .loc 99 1 0 0), (2, .loc 100 1 0 0)], [(9, .arr 24 2 1 [.p (encDenial r7.1)]), (11, .arr 2 1 1 [.p (.int .i64 x21.ID)]), (12, .arr 41 3 1 [.p (encTable r23.1)]), (99, .arr 134 1 1 [.mapo 108 1]), (100, .arr 52 1 1 [.own 200100 1 0 0]), (108, .map 1 (List.map AV.p (encK encArr3_int64 m37)) (List.map AV.p (encW PV.bool m37))), (200100, .arr 57 1 1 [])]⟩
 refine zs (zr ?_)
 refine zU (zl (zn (zs (zr ?_))))
 refine zU (zl (zn (zs (zs (zr ?_)))))
 refine zU (zl (zn (zb ?_)))
 obtain ⟨l51, h52, h⟩ := zB h
 refine zO (fun (s : List Int × Int) => ⟨[(1, .loc 99 1 0 0), (2, .loc 100 1 0 0), (5, .own 184 1 0 s.1.length), (9, .p (.slc (List.map encRow l42))), (10, .p (.int .i64 (l42.length : Int))), (11, .p (.int .i64 s.2))], [(9, .arr 24 2 1 [.p (encDenial r7.1)]), (11, .arr 2 1 1 [.p (.int .i64 x21.ID)]), (12, .arr 41 3 1 [.p (encTable r23.1)]), (99, .arr 134 1 1 [.mapo 108 1]), (100, .arr 52 1 1 [.own 200100 1 0 0]), (108, .map 1 (List.map AV.p (encK encArr3_int64 m37)) (List.map AV.p (encW PV.bool m37))), (184, .arr 2 1 1 (List.map AV.p (List.map (PV.int .i64) s.1))), (200100, .arr 57 1 1 (List.map AV.p (List.map (encL (PV.int .i64)) [])))]⟩) (fun (o53 : List Int) => tE ⟨Tryz.prog, 39, 165, X, [(9, .arr 24 2 1 [.p (encDenial r7.1)]), (11, .arr 2 1 1 [.p (.int .i64 x21.ID)]), (12, .arr 41 3 1 [.p (encTable r23.1)]), (99, .arr 134 1 1 [.mapo 108 1]), (100, .arr 52 1 1 [.own 200100 1 0 0]), (108, .map 1 (List.map AV.p (encK encArr3_int64 m37)) (List.map AV.p (encW PV.bool m37))), (200100, .arr 57 1 1 [])], i48, w49, False, h50⟩ (.exit 0) ⟨[(1, .loc 99 1 0 0), (2, .loc 100 1 0 0), (5, .own 184 1 0 o53.length)], [(9, .arr 24 2 1 [.p (encDenial r7.1)]), (11, .arr 2 1 1 [.p (.int .i64 x21.ID)]), (12, .arr 41 3 1 [.p (encTable r23.1)]), (99, .arr 134 1 1 [.mapo 108 1]), (100, .arr 52 1 1 [.own 200100 1 0 0]), (108, .map 1 (List.map AV.p (encK encArr3_int64 m37)) (List.map AV.p (encW PV.bool m37))), (184, .arr 2 1 1 (List.map AV.p (List.map (PV.int .i64) o53))), (200100, .arr 57 1 1 (List.map AV.p (List.map (encL (PV.int .i64)) [])))]⟩) h52 ?_ ?_
 clear h h6 h8 h17 h17F h20 h22 h22a h22b h24 h32 h33 h33F h44 h46 h47 h52
 intro s x h
 obtain ⟨l54, t55⟩ := s
 simp only [drosslaw18_DenialFewer_l241] at h
 dsimp only
 refine zs (zr ?_)
 refine zU (zl (zn (zs ?_)))
 rcases zI h with ⟨h56, h⟩ | ⟨h56, h⟩
 refine zi (zk (zn (zs (zb (zs (zr ?_))))))
 obtain ⟨x57, h58, h58a, h58b, h⟩ := zX h
 refine zU (zl (zn (zr ?_)))
 obtain ⟨h59, h⟩ := ite_some h
 refine zU (zl (yn (zn (zr ?_))))
 refine zU (zl ?_)
 cases h
 exact ⟨rfl, zE⟩
 refine zj (zx (ze ?_))
 cases h
 exact ⟨rfl, zE⟩
 try simp only at h
 refine zA (yh (zn (zs (zr ?_))))
 refine zU ?_
 refine zM ⟨[(1, .loc 99 1 0 0), (2, .loc 100 1 0 0), (5, .own 184 1 0 l51.length), (21, .own 184 1 0 l51.length)], [(9, .arr 24 2 1 [.p (encDenial r7.1)]), (11, .arr 2 1 1 [.p (.int .i64 x21.ID)]), (12, .arr 41 3 1 [.p (encTable r23.1)]), (99, .arr 134 1 1 [.mapo 108 1]), (100, .arr 52 1 1 [.own 200100 1 0 0]), (108, .map 1 (List.map AV.p (encK encArr3_int64 m37)) (List.map AV.p (encW PV.bool m37))), (184, .arr 2 1 1 (List.map AV.p (List.map (PV.int .i64) l51))), (200100, .arr 57 1 1 (List.map AV.p (List.map (encL (PV.int .i64)) [])))]⟩ ?_
 obtain ⟨l60, h61, h⟩ := zB h
 refine zSI srt84 h61 ?_
 have h62 := srtIF_len h61
 refine zM ⟨[(1, .loc 99 1 0 0), (2, .loc 100 1 0 0), (5, .own 184 1 0 l60.length), (22, .p (.tup []))], [(9, .arr 24 2 1 [.p (encDenial r7.1)]), (11, .arr 2 1 1 [.p (.int .i64 x21.ID)]), (12, .arr 41 3 1 [.p (encTable r23.1)]), (99, .arr 134 1 1 [.mapo 108 1]), (100, .arr 52 1 1 [.own 200100 1 0 0]), (108, .map 1 (List.map AV.p (encK encArr3_int64 m37)) (List.map AV.p (encW PV.bool m37))), (184, .arr 2 1 1 (List.map AV.p (List.map (PV.int .i64) l60))), (200100, .arr 57 1 1 (List.map AV.p (List.map (encL (PV.int .i64)) [])))]⟩ ?_
 clear h62
 refine zl (zn (zs (zr ?_)))
 refine zU (zl (zn (zs (zr ?_))))
 refine zM ⟨[(1, .loc 99 1 0 0), (2, .loc 100 1 0 0), (5, .p (.slc (List.map (PV.int .i64) l60))), (8, .loc 173 1 0 0)], [(9, .arr 24 2 1 [.p (encDenial r7.1)]), (11, .arr 2 1 1 [.p (.int .i64 x21.ID)]), (12, .arr 41 3 1 [.p (encTable r23.1)]), (99, .arr 134 1 1 [.mapo 108 1]), (100, .arr 52 1 1 [.own 200100 1 0 0]), (108, .map 1 (List.map AV.p (encK encArr3_int64 m37)) (List.map AV.p (encW PV.bool m37))), (173, .arr 137 3 1 [.p (.agg [.int .i64 0, .int .i64 0, .int .i64 0])]), (200100, .arr 57 1 1 (List.map AV.p (List.map (encL (PV.int .i64)) [])))]⟩ ?_
 refine zCpa 173 0 0 0 l60 Tryz.underlying137 Tryz.underlying57 ?_
 refine zl (zn (zs (zs (zr ?_))))
 refine zU (zl (zn ?_))
 rcases zI h with ⟨h63, h⟩ | ⟨h63, h⟩
 refine zj (zk (zn (zs (zr ?_))))
 refine zU (zl (zn (zq ?_)))
 refine inlQ_ret (by simp only [Tryz.results83]; simp only [go_sem, seval, h17F, h33F, h44, h47, h63]; exact rfl) ?_
 refine zU (zl (zn (zq (zt ?_))))
 refine inlQ_ret (by simp only [Tryz.results82]; simp only [go_sem, seval, h17F, h33F, h44, h47, h63]; exact rfl) ?_
 refine zU (zl ?_)
 cases h
 exact ⟨rfl, zE⟩
 have h63F := Bool.eq_false_iff.2 h63
 refine zi (zs (zr ?_))
 refine zU (zl (zn (zr ?_)))
 have h64 : roomB 1 24 = true := by decide
 refine zU (zl (zn (zs (zr ?_))))
 refine zU (zl (zn (zq ?_)))
 refine inlQ_ret (by simp only [Tryz.results83]; simp only [go_sem, seval, h17F, h33F, h44, h47, h63F]; exact rfl) ?_
 refine zU (zl (zn (zq (zt ?_))))
 refine inlQ_ret (by simp only [Tryz.results82]; simp only [go_sem, seval, h17F, h33F, h44, h47, h63F]; exact rfl) ?_
 refine zU (zl ?_)
 cases h
 exact ⟨rfl, zE⟩
 have h47F := Bool.eq_false_iff.2 h47
 refine zw 21 true ?_
 refine zh ?_
 refine zU (zl (zn (zq (zt ?_))))
 refine inlQ_ret (by simp only [Tryz.results82]; simp only [go_sem, seval, h17F, h33F, h44, h47F]; exact rfl) ?_
 refine zU (zl ?_)
 cases h
 exact ⟨rfl, zE⟩
 have h44F := Bool.eq_false_iff.2 h44
 refine zj (zk (zn (zs (zs (zr ?_)))))
 refine zU (zl (zn (zb ?_)))
 obtain ⟨o65, h66, h⟩ := zB h
 refine zO (fun (s : (List (Arr3_int64 × Bool)) × List (List Int) × Int) => ⟨[(2, .p (.slc (List.map encRow l42))), (3, .func (.func 83) [.loc 99 1 0 0, .loc 100 1 0 0]), (4, .loc 122 1 0 0), (5, .loc 123 1 0 0), (27, .p (.slc (List.map encRow r5.1.Rows))), (28, .p (.int .i64 (r5.1.Rows.length : Int))), (29, .p (.int .i64 s.2.2))], [(9, .arr 24 2 1 [.p (encDenial r7.1)]), (11, .arr 2 1 1 [.p (.int .i64 x21.ID)]), (12, .arr 41 3 1 [.p (encTable r23.1)]), (99, .arr 134 1 1 [.mapo 108 1]), (100, .arr 52 1 1 [.own 200100 2 0 s.2.1.length]), (108, .map 1 (List.map AV.p (encK encArr3_int64 s.1)) (List.map AV.p (encW PV.bool s.1))), (122, .arr 41 3 1 [.p (encTable r5.1)]), (123, .arr 24 2 1 [.p (encDenial r7.1)]), (200100, .arr 57 1 2 (List.map AV.p (List.map (encL (PV.int .i64)) s.2.1)))]⟩) (fun (o : ((List (Arr3_int64 × Bool)) × List (List Int)) ⊕ ((List (Arr3_int64 × Bool)) × List (List Int))) => match o with | .inl o67 => tE ⟨Tryz.prog, 47, 118, X, [(9, .arr 24 2 1 [.p (encDenial r7.1)]), (11, .arr 2 1 1 [.p (.int .i64 x21.ID)]), (12, .arr 41 3 1 [.p (encTable r23.1)]), (99, .arr 134 1 1 [.mapo 108 1]), (100, .arr 52 1 1 [.own 200100 1 0 0]), (108, .map 1 (List.map AV.p (encK encArr3_int64 m37)) (List.map AV.p (encW PV.bool m37))), (200100, .arr 57 1 1 [])], i39, w40, False, h41⟩ (.exit 0) ⟨[], [(9, .arr 24 2 1 [.p (encDenial r7.1)]), (11, .arr 2 1 1 [.p (.int .i64 x21.ID)]), (12, .arr 41 3 1 [.p (encTable r23.1)]), (99, .arr 134 1 1 [.mapo 108 1]), (100, .arr 52 1 1 [.own 200100 2 0 o67.2.length]), (108, .map 1 (List.map AV.p (encK encArr3_int64 o67.1)) (List.map AV.p (encW PV.bool o67.1))), (200100, .arr 57 1 2 (List.map AV.p (List.map (encL (PV.int .i64)) o67.2)))]⟩ | .inr o68 => tE ⟨Tryz.prog, 47, 118, X, [(9, .arr 24 2 1 [.p (encDenial r7.1)]), (11, .arr 2 1 1 [.p (.int .i64 x21.ID)]), (12, .arr 41 3 1 [.p (encTable r23.1)]), (99, .arr 134 1 1 [.mapo 108 1]), (100, .arr 52 1 1 [.own 200100 1 0 0]), (108, .map 1 (List.map AV.p (encK encArr3_int64 m37)) (List.map AV.p (encW PV.bool m37))), (200100, .arr 57 1 1 [])], i39, w40, False, h41⟩ .ret ⟨[(8, .p (.bool false))], [(9, .arr 24 2 1 [.p (encDenial r7.1)]), (11, .arr 2 1 1 [.p (.int .i64 x21.ID)]), (12, .arr 41 3 1 [.p (encTable r23.1)]), (99, .arr 134 1 1 [.mapo 108 1]), (100, .arr 52 1 1 [.own 200100 2 0 o68.2.length]), (108, .map 1 (List.map AV.p (encK encArr3_int64 o68.1)) (List.map AV.p (encW PV.bool o68.1))), (200100, .arr 57 1 2 (List.map AV.p (List.map (encL (PV.int .i64)) o68.2)))]⟩) h66 ?_ ?_
 clear h h6 h8 h17 h17F h20 h22 h22a h22b h24 h32 h33 h33F h44 h44F h66
 intro s x h
 obtain ⟨f69, f70, t71⟩ := s
 simp only [drosslaw18_DenialFewer_l320] at h
 dsimp only
 refine zs (zr ?_)
 refine zU (zl (zn (zs ?_)))
 rcases zI h with ⟨h72, h⟩ | ⟨h72, h⟩
 have h72T := eq_true h72
 refine zi (zk (zn (zs (zb (zs (zr ?_))))))
 obtain ⟨x73, h74, h74a, h74b, h⟩ := zX h
 refine zU (zl (zn (zs (zs (zr ?_)))))
 refine zU ?_
 obtain ⟨r75, h76, h⟩ := zB h
 refine zc (slices_ContainsFunc_Row_con l42 (fun (y77 : Row) => denial_visit_1 y77 x73) 125 [.imm [.int .i64 x73.ID, .slc (List.map encValue x73.Values)]] (fun y77 r h => denial_visit_1_con y77 x73 r h) _ h76) ?_
 refine zl (zn ?_)
 rcases zI h with ⟨h78, h⟩ | ⟨h78, h⟩
 refine zi (zx (ze (yh (zn (zr ?_)))))
 refine zU (zl ?_)
 cases h
 exact ⟨rfl, zE⟩
 have h78F := Bool.eq_false_iff.2 h78
 refine zj (zk (zn (zs ?_)))
 refine zdl 8 ?_
 refine yU ?_
 obtain ⟨h79, h⟩ := ite_some h
 refine yK cln126 157 encRow l42 _ rfl ⟨by unfold maxLen; omega, by omega⟩ ?_
 have h80 := @take_cut PV
 obtain ⟨h81, h⟩ := ite_some h
 refine yU ?_
 refine ydlS ?_
 refine zM ⟨[(2, .p (.slc (List.map encRow l42))), (3, .func (.func 83) [.loc 99 1 0 0, .loc 100 1 0 0]), (4, .loc 122 1 0 0), (5, .loc 123 1 0 0), (27, .p (.slc (List.map encRow r5.1.Rows))), (28, .p (.int .i64 (r5.1.Rows.length : Int))), (29, .p (.int .i64 t71)), (36, .p (encTable r5.1)), (37, .p (encDenial r7.1)), (42, .p (.slc (List.map encRow (l42 ++ [x73])))), (43, .func (.func 83) [.loc 99 1 0 0, .loc 100 1 0 0])], [(9, .arr 24 2 1 [.p (encDenial r7.1)]), (11, .arr 2 1 1 [.p (.int .i64 x21.ID)]), (12, .arr 41 3 1 [.p (encTable r23.1)]), (99, .arr 134 1 1 [.mapo 108 1]), (100, .arr 52 1 1 [.own 200100 2 0 f70.length]), (108, .map 1 (List.map AV.p (encK encArr3_int64 f69)) (List.map AV.p (encW PV.bool f69))), (122, .arr 41 3 1 [.p (encTable r5.1)]), (123, .arr 24 2 1 [.p (encDenial r7.1)]), (200100, .arr 57 1 2 (List.map AV.p (List.map (encL (PV.int .i64)) f70)))]⟩ ?_
 refine AL_inline (avs := [.p (encTable r5.1), .p (encDenial r7.1), .p (.slc (List.map encRow (l42 ++ [x73]))), .func (.func 83) [.loc 99 1 0 0, .loc 100 1 0 0]]) 204 rfl (guard_none rfl) rfl Tryz.func82 rfl Tryz.call82 Tryz.ntmps82 (by simp) (by simp only [go_sem, seval, h72T, h78F]; all_goals rfl) ?_
 intro i82 w83 h84
 obtain ⟨l85, h86, h⟩ := zB h
 replace h86 := Option.some.inj h86
 refine awp_le (st' := ⟨[(0, .p (encTable r5.1)), (1, .p (encDenial r7.1)), (2, .p (.slc (List.map encRow l85))), (3, .func (.func 83) [.loc 99 1 0 0, .loc 100 1 0 0])], [(9, .arr 24 2 1 [.p (encDenial r7.1)]), (11, .arr 2 1 1 [.p (.int .i64 x21.ID)]), (12, .arr 41 3 1 [.p (encTable r23.1)]), (99, .arr 134 1 1 [.mapo 108 1]), (100, .arr 52 1 1 [.own 200100 2 0 f70.length]), (108, .map 1 (List.map AV.p (encK encArr3_int64 f69)) (List.map AV.p (encW PV.bool f69))), (122, .arr 41 3 1 [.p (encTable r5.1)]), (123, .arr 24 2 1 [.p (encDenial r7.1)]), (200100, .arr 57 1 2 (List.map AV.p (List.map (encL (PV.int .i64)) f70)))]⟩) (by simp only [go_sem, seval, h72T, h78F, ← h86]; all_goals ((repeat' refine And.intro ?_ ?_) <;> first | rfl | (simp; done) | (simp; rfl) | (simp [*]; done) | (simp [*]; rfl))) ?_
 clear h86
 refine zs (zr ?_)
 refine zU (zl (zn (zs (zs (zr ?_)))))
 refine zU (zl (zn ?_))
 rcases zI h with ⟨h87, h⟩ | ⟨h87, h⟩
 refine zi (zs (zr ?_))
 refine zU ?_
 obtain ⟨r88, h89, h⟩ := zB h
 refine zc (denial_satisfied_con l85 r7.1.Atoms _ h89) ?_
 refine zU ?_
 rcases zI h with ⟨h90, h⟩ | ⟨h90, h⟩
 refine zw 21 false ?_
 refine zg ?_
 refine zg ?_
 refine zM ⟨[(21, .p (.bool false)), (22, .func (.func 83) [.loc 99 1 0 0, .loc 100 1 0 0]), (23, .p (.slc (List.map encRow l85)))], [(9, .arr 24 2 1 [.p (encDenial r7.1)]), (11, .arr 2 1 1 [.p (.int .i64 x21.ID)]), (12, .arr 41 3 1 [.p (encTable r23.1)]), (99, .arr 134 1 1 [.mapo 108 1]), (100, .arr 52 1 1 [.own 200100 2 0 f70.length]), (108, .map 1 (List.map AV.p (encK encArr3_int64 f69)) (List.map AV.p (encW PV.bool f69))), (122, .arr 41 3 1 [.p (encTable r5.1)]), (123, .arr 24 2 1 [.p (encDenial r7.1)]), (200100, .arr 57 1 2 (List.map AV.p (List.map (encL (PV.int .i64)) f70)))]⟩ ?_
 refine AL_inline (avs := [.p (.slc (List.map encRow l85)), .loc 99 1 0 0, .loc 100 1 0 0]) 251 rfl (guard_true' rfl rfl (by exact rfl) (by exact rfl)) rfl Tryz.func83 rfl Tryz.call83 Tryz.ntmps83 (by simp) (by simp only [go_sem, seval, h72T, h78F, h87, h90]; all_goals rfl) ?_
 intro i91 w92 h93
 show AWp _ _ _ ⟨[(0, .p (.slc (List.map encRow l85))), (1, .loc 99 1 0 0), (2, .loc 100 1 0 0)], [(9, .arr 24 2 1 [.p (encDenial r7.1)]), (11, .arr 2 1 1 [.p (.int .i64 x21.ID)]), (12, .arr 41 3 1 [.p (encTable r23.1)]), (99, .arr 134 1 1 [.mapo 108 1]), (100, .arr 52 1 1 [.own 200100 2 0 f70.length]), (108, .map 1 (List.map AV.p (encK encArr3_int64 f69)) (List.map AV.p (encW PV.bool f69))), (122, .arr 41 3 1 [.p (encTable r5.1)]), (123, .arr 24 2 1 [.p (encDenial r7.1)]), (200100, .arr 57 1 2 (List.map AV.p (List.map (encL (PV.int .i64)) f70)))]⟩
 refine zs (zr ?_)
 refine zU (zl (zn (zs (zr ?_))))
 refine zU (zl (zn (zs (zs (zr ?_)))))
 refine zU (zl (zn (zb ?_)))
 obtain ⟨l94, h95, h⟩ := zB h
 refine zO (fun (s : List Int × Int) => ⟨[(1, .loc 99 1 0 0), (2, .loc 100 1 0 0), (5, .own 270 1 0 s.1.length), (9, .p (.slc (List.map encRow l85))), (10, .p (.int .i64 (l85.length : Int))), (11, .p (.int .i64 s.2))], [(9, .arr 24 2 1 [.p (encDenial r7.1)]), (11, .arr 2 1 1 [.p (.int .i64 x21.ID)]), (12, .arr 41 3 1 [.p (encTable r23.1)]), (99, .arr 134 1 1 [.mapo 108 1]), (100, .arr 52 1 1 [.own 200100 2 0 f70.length]), (108, .map 1 (List.map AV.p (encK encArr3_int64 f69)) (List.map AV.p (encW PV.bool f69))), (122, .arr 41 3 1 [.p (encTable r5.1)]), (123, .arr 24 2 1 [.p (encDenial r7.1)]), (270, .arr 2 1 1 (List.map AV.p (List.map (PV.int .i64) s.1))), (200100, .arr 57 1 2 (List.map AV.p (List.map (encL (PV.int .i64)) f70)))]⟩) (fun (o96 : List Int) => tE ⟨Tryz.prog, 39, 251, X, [(9, .arr 24 2 1 [.p (encDenial r7.1)]), (11, .arr 2 1 1 [.p (.int .i64 x21.ID)]), (12, .arr 41 3 1 [.p (encTable r23.1)]), (99, .arr 134 1 1 [.mapo 108 1]), (100, .arr 52 1 1 [.own 200100 2 0 f70.length]), (108, .map 1 (List.map AV.p (encK encArr3_int64 f69)) (List.map AV.p (encW PV.bool f69))), (122, .arr 41 3 1 [.p (encTable r5.1)]), (123, .arr 24 2 1 [.p (encDenial r7.1)]), (200100, .arr 57 1 2 (List.map AV.p (List.map (encL (PV.int .i64)) f70)))], i91, w92, False, h93⟩ (.exit 0) ⟨[(1, .loc 99 1 0 0), (2, .loc 100 1 0 0), (5, .own 270 1 0 o96.length)], [(9, .arr 24 2 1 [.p (encDenial r7.1)]), (11, .arr 2 1 1 [.p (.int .i64 x21.ID)]), (12, .arr 41 3 1 [.p (encTable r23.1)]), (99, .arr 134 1 1 [.mapo 108 1]), (100, .arr 52 1 1 [.own 200100 2 0 f70.length]), (108, .map 1 (List.map AV.p (encK encArr3_int64 f69)) (List.map AV.p (encW PV.bool f69))), (122, .arr 41 3 1 [.p (encTable r5.1)]), (123, .arr 24 2 1 [.p (encDenial r7.1)]), (270, .arr 2 1 1 (List.map AV.p (List.map (PV.int .i64) o96))), (200100, .arr 57 1 2 (List.map AV.p (List.map (encL (PV.int .i64)) f70)))]⟩) h95 ?_ ?_
 clear h h72 h72T h74 h74a h74b h76 h78 h78F h79 h80 h81 h87 h89 h90 h95
 intro s x h
 obtain ⟨l97, t98⟩ := s
 simp only [drosslaw18_DenialFewer_l294] at h
 dsimp only
 refine zs (zr ?_)
 refine zU (zl (zn (zs ?_)))
 rcases zI h with ⟨h99, h⟩ | ⟨h99, h⟩
 refine zi (zk (zn (zs (zb (zs (zr ?_))))))
 obtain ⟨x100, h101, h101a, h101b, h⟩ := zX h
 refine zU (zl (zn (zr ?_)))
 obtain ⟨h102, h⟩ := ite_some h
 refine zU (zl (yn (zn (zr ?_))))
 refine zU (zl ?_)
 cases h
 exact ⟨rfl, zE⟩
 refine zj (zx (ze ?_))
 cases h
 exact ⟨rfl, zE⟩
 try simp only at h
 refine zA (yh (zn (zs (zr ?_))))
 refine zU ?_
 refine zM ⟨[(1, .loc 99 1 0 0), (2, .loc 100 1 0 0), (5, .own 270 1 0 l94.length), (21, .own 270 1 0 l94.length)], [(9, .arr 24 2 1 [.p (encDenial r7.1)]), (11, .arr 2 1 1 [.p (.int .i64 x21.ID)]), (12, .arr 41 3 1 [.p (encTable r23.1)]), (99, .arr 134 1 1 [.mapo 108 1]), (100, .arr 52 1 1 [.own 200100 2 0 f70.length]), (108, .map 1 (List.map AV.p (encK encArr3_int64 f69)) (List.map AV.p (encW PV.bool f69))), (122, .arr 41 3 1 [.p (encTable r5.1)]), (123, .arr 24 2 1 [.p (encDenial r7.1)]), (270, .arr 2 1 1 (List.map AV.p (List.map (PV.int .i64) l94))), (200100, .arr 57 1 2 (List.map AV.p (List.map (encL (PV.int .i64)) f70)))]⟩ ?_
 obtain ⟨l103, h104, h⟩ := zB h
 refine zSI srt84 h104 ?_
 have h105 := srtIF_len h104
 refine zM ⟨[(1, .loc 99 1 0 0), (2, .loc 100 1 0 0), (5, .own 270 1 0 l103.length), (22, .p (.tup []))], [(9, .arr 24 2 1 [.p (encDenial r7.1)]), (11, .arr 2 1 1 [.p (.int .i64 x21.ID)]), (12, .arr 41 3 1 [.p (encTable r23.1)]), (99, .arr 134 1 1 [.mapo 108 1]), (100, .arr 52 1 1 [.own 200100 2 0 f70.length]), (108, .map 1 (List.map AV.p (encK encArr3_int64 f69)) (List.map AV.p (encW PV.bool f69))), (122, .arr 41 3 1 [.p (encTable r5.1)]), (123, .arr 24 2 1 [.p (encDenial r7.1)]), (270, .arr 2 1 1 (List.map AV.p (List.map (PV.int .i64) l103))), (200100, .arr 57 1 2 (List.map AV.p (List.map (encL (PV.int .i64)) f70)))]⟩ ?_
 clear h105
 refine zl (zn (zs (zr ?_)))
 refine zU (zl (zn (zs (zr ?_))))
 refine zM ⟨[(1, .loc 99 1 0 0), (2, .loc 100 1 0 0), (5, .p (.slc (List.map (PV.int .i64) l103))), (8, .loc 259 1 0 0)], [(9, .arr 24 2 1 [.p (encDenial r7.1)]), (11, .arr 2 1 1 [.p (.int .i64 x21.ID)]), (12, .arr 41 3 1 [.p (encTable r23.1)]), (99, .arr 134 1 1 [.mapo 108 1]), (100, .arr 52 1 1 [.own 200100 2 0 f70.length]), (108, .map 1 (List.map AV.p (encK encArr3_int64 f69)) (List.map AV.p (encW PV.bool f69))), (122, .arr 41 3 1 [.p (encTable r5.1)]), (123, .arr 24 2 1 [.p (encDenial r7.1)]), (259, .arr 137 3 1 [.p (.agg [.int .i64 0, .int .i64 0, .int .i64 0])]), (200100, .arr 57 1 2 (List.map AV.p (List.map (encL (PV.int .i64)) f70)))]⟩ ?_
 refine zCpa 259 0 0 0 l103 Tryz.underlying137 Tryz.underlying57 ?_
 refine zl (zn (zs (zs (zr ?_))))
 refine zU (zl (zn ?_))
 rcases zI h with ⟨h106, h⟩ | ⟨h106, h⟩
 refine zj (zk (zn (zs (zr ?_))))
 refine zU (zl (zn (zq ?_)))
 refine inlQ_ret (by simp only [Tryz.results83]; simp only [go_sem, seval, h72T, h78F, h87, h90, h106]; exact rfl) ?_
 refine zU (zl (zn (zq (zt ?_))))
 refine inlQ_ret (by simp only [Tryz.results82]; simp only [go_sem, seval, h72T, h78F, h87, h90, h106]; exact rfl) ?_
 refine zU (zl (zn ?_))
 rcases zI h with ⟨h107, h⟩ | ⟨h107, h⟩
 refine zj (zk (yn (zn (zr ?_))))
 refine zU (zl ?_)
 cases h
 exact ⟨rfl, zE⟩
 refine zi (zs (zr ?_))
 refine zU (zl (zn (zq (yr (zt ?_)))))
 cases h
 exact ⟨rfl, zE⟩
 have h106F := Bool.eq_false_iff.2 h106
 refine zi (zs (zr ?_))
 refine zU (zl (zn (zr ?_)))
 obtain ⟨h108, h⟩ := ite_some h
 refine zU (zl (zn (zs (zr ?_))))
 refine zU (zl (zn (zq ?_)))
 refine inlQ_ret (by simp only [Tryz.results83]; simp only [go_sem, seval, h72T, h78F, h87, h90, h106F]; exact rfl) ?_
 refine zU (zl (zn (zq (zt ?_))))
 refine inlQ_ret (by simp only [Tryz.results82]; simp only [go_sem, seval, h72T, h78F, h87, h90, h106F]; exact rfl) ?_
 refine zU (zl (zn ?_))
 rcases zI h with ⟨h109, h⟩ | ⟨h109, h⟩
 refine zj (zk (yn (zn (zr ?_))))
 refine zU (zl ?_)
 cases h
 exact ⟨rfl, zE⟩
 refine zi (zs (zr ?_))
 refine zU (zl (zn (zq (yr (zt ?_)))))
 cases h
 exact ⟨rfl, zE⟩
 have h90F := Bool.eq_false_iff.2 h90
 refine zw 21 true ?_
 refine zh ?_
 refine zU (zl (zn (zq (zt ?_))))
 refine inlQ_ret (by simp only [Tryz.results82]; simp only [go_sem, seval, h72T, h78F, h87, h90F]; exact rfl) ?_
 refine zU (zl (zn ?_))
 refine zj (zk (yn (zn (zr ?_))))
 refine zU (zl ?_)
 cases h
 exact ⟨rfl, zE⟩
 have h87F := Bool.eq_false_iff.2 h87
 refine zj (zk (zn (zs (zs (zr ?_)))))
 refine zU (zl (zn (zb ?_)))
 obtain ⟨o110, h111, h⟩ := zB h
 refine zO (fun (s : (List (Arr3_int64 × Bool)) × List (List Int) × Int) => ⟨[(2, .p (.slc (List.map encRow l85))), (3, .func (.func 83) [.loc 99 1 0 0, .loc 100 1 0 0]), (4, .loc 208 1 0 0), (5, .loc 209 1 0 0), (27, .p (.slc (List.map encRow r5.1.Rows))), (28, .p (.int .i64 (r5.1.Rows.length : Int))), (29, .p (.int .i64 s.2.2))], [(9, .arr 24 2 1 [.p (encDenial r7.1)]), (11, .arr 2 1 1 [.p (.int .i64 x21.ID)]), (12, .arr 41 3 1 [.p (encTable r23.1)]), (99, .arr 134 1 1 [.mapo 108 1]), (100, .arr 52 1 1 [.own 200100 3 0 s.2.1.length]), (108, .map 1 (List.map AV.p (encK encArr3_int64 s.1)) (List.map AV.p (encW PV.bool s.1))), (122, .arr 41 3 1 [.p (encTable r5.1)]), (123, .arr 24 2 1 [.p (encDenial r7.1)]), (208, .arr 41 3 1 [.p (encTable r5.1)]), (209, .arr 24 2 1 [.p (encDenial r7.1)]), (200100, .arr 57 1 3 (List.map AV.p (List.map (encL (PV.int .i64)) s.2.1)))]⟩) (fun (o : ((List (Arr3_int64 × Bool)) × List (List Int)) ⊕ ((List (Arr3_int64 × Bool)) × List (List Int))) => match o with | .inl o112 => tE ⟨Tryz.prog, 47, 204, X, [(9, .arr 24 2 1 [.p (encDenial r7.1)]), (11, .arr 2 1 1 [.p (.int .i64 x21.ID)]), (12, .arr 41 3 1 [.p (encTable r23.1)]), (99, .arr 134 1 1 [.mapo 108 1]), (100, .arr 52 1 1 [.own 200100 2 0 f70.length]), (108, .map 1 (List.map AV.p (encK encArr3_int64 f69)) (List.map AV.p (encW PV.bool f69))), (122, .arr 41 3 1 [.p (encTable r5.1)]), (123, .arr 24 2 1 [.p (encDenial r7.1)]), (200100, .arr 57 1 2 (List.map AV.p (List.map (encL (PV.int .i64)) f70)))], i82, w83, False, h84⟩ (.exit 0) ⟨[], [(9, .arr 24 2 1 [.p (encDenial r7.1)]), (11, .arr 2 1 1 [.p (.int .i64 x21.ID)]), (12, .arr 41 3 1 [.p (encTable r23.1)]), (99, .arr 134 1 1 [.mapo 108 1]), (100, .arr 52 1 1 [.own 200100 3 0 o112.2.length]), (108, .map 1 (List.map AV.p (encK encArr3_int64 o112.1)) (List.map AV.p (encW PV.bool o112.1))), (122, .arr 41 3 1 [.p (encTable r5.1)]), (123, .arr 24 2 1 [.p (encDenial r7.1)]), (200100, .arr 57 1 3 (List.map AV.p (List.map (encL (PV.int .i64)) o112.2)))]⟩ | .inr o113 => tE ⟨Tryz.prog, 47, 204, X, [(9, .arr 24 2 1 [.p (encDenial r7.1)]), (11, .arr 2 1 1 [.p (.int .i64 x21.ID)]), (12, .arr 41 3 1 [.p (encTable r23.1)]), (99, .arr 134 1 1 [.mapo 108 1]), (100, .arr 52 1 1 [.own 200100 2 0 f70.length]), (108, .map 1 (List.map AV.p (encK encArr3_int64 f69)) (List.map AV.p (encW PV.bool f69))), (122, .arr 41 3 1 [.p (encTable r5.1)]), (123, .arr 24 2 1 [.p (encDenial r7.1)]), (200100, .arr 57 1 2 (List.map AV.p (List.map (encL (PV.int .i64)) f70)))], i82, w83, False, h84⟩ .ret ⟨[(8, .p (.bool false))], [(9, .arr 24 2 1 [.p (encDenial r7.1)]), (11, .arr 2 1 1 [.p (.int .i64 x21.ID)]), (12, .arr 41 3 1 [.p (encTable r23.1)]), (99, .arr 134 1 1 [.mapo 108 1]), (100, .arr 52 1 1 [.own 200100 3 0 o113.2.length]), (108, .map 1 (List.map AV.p (encK encArr3_int64 o113.1)) (List.map AV.p (encW PV.bool o113.1))), (122, .arr 41 3 1 [.p (encTable r5.1)]), (123, .arr 24 2 1 [.p (encDenial r7.1)]), (200100, .arr 57 1 3 (List.map AV.p (List.map (encL (PV.int .i64)) o113.2)))]⟩) h111 ?_ ?_
 clear h h72 h72T h74 h74a h74b h76 h78 h78F h79 h80 h81 h87 h87F h111
 intro s x h
 obtain ⟨f114, f115, t116⟩ := s
 simp only [drosslaw18_DenialFewer_l319] at h
 dsimp only
 refine zs (zr ?_)
 refine zU (zl (zn (zs ?_)))
 rcases zI h with ⟨h117, h⟩ | ⟨h117, h⟩
 have h117T := eq_true h117
 refine zi (zk (zn (zs (zb (zs (zr ?_))))))
 obtain ⟨x118, h119, h119a, h119b, h⟩ := zX h
 refine zU (zl (zn (zs (zs (zr ?_)))))
 refine zU ?_
 obtain ⟨r120, h121, h⟩ := zB h
 refine zc (slices_ContainsFunc_Row_con l85 (fun (y122 : Row) => denial_visit_1 y122 x118) 125 [.imm [.int .i64 x118.ID, .slc (List.map encValue x118.Values)]] (fun y122 r h => denial_visit_1_con y122 x118 r h) _ h121) ?_
 refine zl (zn ?_)
 rcases zI h with ⟨h123, h⟩ | ⟨h123, h⟩
 refine zi (zx (ze (yh (zn (zr ?_)))))
 refine zU (zl ?_)
 cases h
 exact ⟨rfl, zE⟩
 have h123F := Bool.eq_false_iff.2 h123
 refine zj (zk (zn (zs ?_)))
 refine zdl 8 ?_
 refine yU ?_
 obtain ⟨h124, h⟩ := ite_some h
 refine yK cln126 243 encRow l85 _ rfl ⟨by unfold maxLen; omega, by omega⟩ ?_
 have h125 := @take_cut PV
 obtain ⟨h126, h⟩ := ite_some h
 refine yU ?_
 refine ydlS ?_
 refine zM ⟨[(2, .p (.slc (List.map encRow l85))), (3, .func (.func 83) [.loc 99 1 0 0, .loc 100 1 0 0]), (4, .loc 208 1 0 0), (5, .loc 209 1 0 0), (27, .p (.slc (List.map encRow r5.1.Rows))), (28, .p (.int .i64 (r5.1.Rows.length : Int))), (29, .p (.int .i64 t116)), (36, .p (encTable r5.1)), (37, .p (encDenial r7.1)), (42, .p (.slc (List.map encRow (l85 ++ [x118])))), (43, .func (.func 83) [.loc 99 1 0 0, .loc 100 1 0 0])], [(9, .arr 24 2 1 [.p (encDenial r7.1)]), (11, .arr 2 1 1 [.p (.int .i64 x21.ID)]), (12, .arr 41 3 1 [.p (encTable r23.1)]), (99, .arr 134 1 1 [.mapo 108 1]), (100, .arr 52 1 1 [.own 200100 3 0 f115.length]), (108, .map 1 (List.map AV.p (encK encArr3_int64 f114)) (List.map AV.p (encW PV.bool f114))), (122, .arr 41 3 1 [.p (encTable r5.1)]), (123, .arr 24 2 1 [.p (encDenial r7.1)]), (208, .arr 41 3 1 [.p (encTable r5.1)]), (209, .arr 24 2 1 [.p (encDenial r7.1)]), (200100, .arr 57 1 3 (List.map AV.p (List.map (encL (PV.int .i64)) f115)))]⟩ ?_
 refine AL_inline (avs := [.p (encTable r5.1), .p (encDenial r7.1), .p (.slc (List.map encRow (l85 ++ [x118]))), .func (.func 83) [.loc 99 1 0 0, .loc 100 1 0 0]]) 290 rfl (guard_none rfl) rfl Tryz.func82 rfl Tryz.call82 Tryz.ntmps82 (by simp) (by simp only [go_sem, seval, h117T, h123F]; all_goals rfl) ?_
 intro i127 w128 h129
 obtain ⟨l130, h131, h⟩ := zB h
 replace h131 := Option.some.inj h131
 refine awp_le (st' := ⟨[(0, .p (encTable r5.1)), (1, .p (encDenial r7.1)), (2, .p (.slc (List.map encRow l130))), (3, .func (.func 83) [.loc 99 1 0 0, .loc 100 1 0 0])], [(9, .arr 24 2 1 [.p (encDenial r7.1)]), (11, .arr 2 1 1 [.p (.int .i64 x21.ID)]), (12, .arr 41 3 1 [.p (encTable r23.1)]), (99, .arr 134 1 1 [.mapo 108 1]), (100, .arr 52 1 1 [.own 200100 3 0 f115.length]), (108, .map 1 (List.map AV.p (encK encArr3_int64 f114)) (List.map AV.p (encW PV.bool f114))), (122, .arr 41 3 1 [.p (encTable r5.1)]), (123, .arr 24 2 1 [.p (encDenial r7.1)]), (208, .arr 41 3 1 [.p (encTable r5.1)]), (209, .arr 24 2 1 [.p (encDenial r7.1)]), (200100, .arr 57 1 3 (List.map AV.p (List.map (encL (PV.int .i64)) f115)))]⟩) (by simp only [go_sem, seval, h117T, h123F, ← h131]; all_goals ((repeat' refine And.intro ?_ ?_) <;> first | rfl | (simp; done) | (simp; rfl) | (simp [*]; done) | (simp [*]; rfl))) ?_
 clear h131
 refine zs (zr ?_)
 refine zU (zl (zn (zs (zs (zr ?_)))))
 refine zU (zl (zn ?_))
 rcases zI h with ⟨h132, h⟩ | ⟨h132, h⟩
 refine zi (zs (zr ?_))
 refine zU ?_
 obtain ⟨r133, h134, h⟩ := zB h
 refine zc (denial_satisfied_con l130 r7.1.Atoms _ h134) ?_
 refine zU ?_
 rcases zI h with ⟨h135, h⟩ | ⟨h135, h⟩
 refine zw 21 false ?_
 refine zg ?_
 refine zg ?_
 refine zM ⟨[(21, .p (.bool false)), (22, .func (.func 83) [.loc 99 1 0 0, .loc 100 1 0 0]), (23, .p (.slc (List.map encRow l130)))], [(9, .arr 24 2 1 [.p (encDenial r7.1)]), (11, .arr 2 1 1 [.p (.int .i64 x21.ID)]), (12, .arr 41 3 1 [.p (encTable r23.1)]), (99, .arr 134 1 1 [.mapo 108 1]), (100, .arr 52 1 1 [.own 200100 3 0 f115.length]), (108, .map 1 (List.map AV.p (encK encArr3_int64 f114)) (List.map AV.p (encW PV.bool f114))), (122, .arr 41 3 1 [.p (encTable r5.1)]), (123, .arr 24 2 1 [.p (encDenial r7.1)]), (208, .arr 41 3 1 [.p (encTable r5.1)]), (209, .arr 24 2 1 [.p (encDenial r7.1)]), (200100, .arr 57 1 3 (List.map AV.p (List.map (encL (PV.int .i64)) f115)))]⟩ ?_
 refine AL_inline (avs := [.p (.slc (List.map encRow l130)), .loc 99 1 0 0, .loc 100 1 0 0]) 337 rfl (guard_true' rfl rfl (by exact rfl) (by exact rfl)) rfl Tryz.func83 rfl Tryz.call83 Tryz.ntmps83 (by simp) (by simp only [go_sem, seval, h117T, h123F, h132, h135]; all_goals rfl) ?_
 intro i136 w137 h138
 show AWp _ _ _ ⟨[(0, .p (.slc (List.map encRow l130))), (1, .loc 99 1 0 0), (2, .loc 100 1 0 0)], [(9, .arr 24 2 1 [.p (encDenial r7.1)]), (11, .arr 2 1 1 [.p (.int .i64 x21.ID)]), (12, .arr 41 3 1 [.p (encTable r23.1)]), (99, .arr 134 1 1 [.mapo 108 1]), (100, .arr 52 1 1 [.own 200100 3 0 f115.length]), (108, .map 1 (List.map AV.p (encK encArr3_int64 f114)) (List.map AV.p (encW PV.bool f114))), (122, .arr 41 3 1 [.p (encTable r5.1)]), (123, .arr 24 2 1 [.p (encDenial r7.1)]), (208, .arr 41 3 1 [.p (encTable r5.1)]), (209, .arr 24 2 1 [.p (encDenial r7.1)]), (200100, .arr 57 1 3 (List.map AV.p (List.map (encL (PV.int .i64)) f115)))]⟩
 refine zs (zr ?_)
 refine zU (zl (zn (zs (zr ?_))))
 refine zU (zl (zn (zs (zs (zr ?_)))))
 refine zU (zl (zn (zb ?_)))
 obtain ⟨l139, h140, h⟩ := zB h
 refine zO (fun (s : List Int × Int) => ⟨[(1, .loc 99 1 0 0), (2, .loc 100 1 0 0), (5, .own 356 1 0 s.1.length), (9, .p (.slc (List.map encRow l130))), (10, .p (.int .i64 (l130.length : Int))), (11, .p (.int .i64 s.2))], [(9, .arr 24 2 1 [.p (encDenial r7.1)]), (11, .arr 2 1 1 [.p (.int .i64 x21.ID)]), (12, .arr 41 3 1 [.p (encTable r23.1)]), (99, .arr 134 1 1 [.mapo 108 1]), (100, .arr 52 1 1 [.own 200100 3 0 f115.length]), (108, .map 1 (List.map AV.p (encK encArr3_int64 f114)) (List.map AV.p (encW PV.bool f114))), (122, .arr 41 3 1 [.p (encTable r5.1)]), (123, .arr 24 2 1 [.p (encDenial r7.1)]), (208, .arr 41 3 1 [.p (encTable r5.1)]), (209, .arr 24 2 1 [.p (encDenial r7.1)]), (356, .arr 2 1 1 (List.map AV.p (List.map (PV.int .i64) s.1))), (200100, .arr 57 1 3 (List.map AV.p (List.map (encL (PV.int .i64)) f115)))]⟩) (fun (o141 : List Int) => tE ⟨Tryz.prog, 39, 337, X, [(9, .arr 24 2 1 [.p (encDenial r7.1)]), (11, .arr 2 1 1 [.p (.int .i64 x21.ID)]), (12, .arr 41 3 1 [.p (encTable r23.1)]), (99, .arr 134 1 1 [.mapo 108 1]), (100, .arr 52 1 1 [.own 200100 3 0 f115.length]), (108, .map 1 (List.map AV.p (encK encArr3_int64 f114)) (List.map AV.p (encW PV.bool f114))), (122, .arr 41 3 1 [.p (encTable r5.1)]), (123, .arr 24 2 1 [.p (encDenial r7.1)]), (208, .arr 41 3 1 [.p (encTable r5.1)]), (209, .arr 24 2 1 [.p (encDenial r7.1)]), (200100, .arr 57 1 3 (List.map AV.p (List.map (encL (PV.int .i64)) f115)))], i136, w137, False, h138⟩ (.exit 0) ⟨[(1, .loc 99 1 0 0), (2, .loc 100 1 0 0), (5, .own 356 1 0 o141.length)], [(9, .arr 24 2 1 [.p (encDenial r7.1)]), (11, .arr 2 1 1 [.p (.int .i64 x21.ID)]), (12, .arr 41 3 1 [.p (encTable r23.1)]), (99, .arr 134 1 1 [.mapo 108 1]), (100, .arr 52 1 1 [.own 200100 3 0 f115.length]), (108, .map 1 (List.map AV.p (encK encArr3_int64 f114)) (List.map AV.p (encW PV.bool f114))), (122, .arr 41 3 1 [.p (encTable r5.1)]), (123, .arr 24 2 1 [.p (encDenial r7.1)]), (208, .arr 41 3 1 [.p (encTable r5.1)]), (209, .arr 24 2 1 [.p (encDenial r7.1)]), (356, .arr 2 1 1 (List.map AV.p (List.map (PV.int .i64) o141))), (200100, .arr 57 1 3 (List.map AV.p (List.map (encL (PV.int .i64)) f115)))]⟩) h140 ?_ ?_
 clear h h117 h117T h119 h119a h119b h121 h123 h123F h124 h125 h126 h132 h134 h135 h140
 intro s x h
 obtain ⟨l142, t143⟩ := s
 simp only [drosslaw18_DenialFewer_l311] at h
 dsimp only
 refine zs (zr ?_)
 refine zU (zl (zn (zs ?_)))
 rcases zI h with ⟨h144, h⟩ | ⟨h144, h⟩
 refine zi (zk (zn (zs (zb (zs (zr ?_))))))
 obtain ⟨x145, h146, h146a, h146b, h⟩ := zX h
 refine zU (zl (zn (zr ?_)))
 obtain ⟨h147, h⟩ := ite_some h
 refine zU (zl (yn (zn (zr ?_))))
 refine zU (zl ?_)
 cases h
 exact ⟨rfl, zE⟩
 refine zj (zx (ze ?_))
 cases h
 exact ⟨rfl, zE⟩
 try simp only at h
 refine zA (yh (zn (zs (zr ?_))))
 refine zU ?_
 refine zM ⟨[(1, .loc 99 1 0 0), (2, .loc 100 1 0 0), (5, .own 356 1 0 l139.length), (21, .own 356 1 0 l139.length)], [(9, .arr 24 2 1 [.p (encDenial r7.1)]), (11, .arr 2 1 1 [.p (.int .i64 x21.ID)]), (12, .arr 41 3 1 [.p (encTable r23.1)]), (99, .arr 134 1 1 [.mapo 108 1]), (100, .arr 52 1 1 [.own 200100 3 0 f115.length]), (108, .map 1 (List.map AV.p (encK encArr3_int64 f114)) (List.map AV.p (encW PV.bool f114))), (122, .arr 41 3 1 [.p (encTable r5.1)]), (123, .arr 24 2 1 [.p (encDenial r7.1)]), (208, .arr 41 3 1 [.p (encTable r5.1)]), (209, .arr 24 2 1 [.p (encDenial r7.1)]), (356, .arr 2 1 1 (List.map AV.p (List.map (PV.int .i64) l139))), (200100, .arr 57 1 3 (List.map AV.p (List.map (encL (PV.int .i64)) f115)))]⟩ ?_
 obtain ⟨l148, h149, h⟩ := zB h
 refine zSI srt84 h149 ?_
 have h150 := srtIF_len h149
 refine zM ⟨[(1, .loc 99 1 0 0), (2, .loc 100 1 0 0), (5, .own 356 1 0 l148.length), (22, .p (.tup []))], [(9, .arr 24 2 1 [.p (encDenial r7.1)]), (11, .arr 2 1 1 [.p (.int .i64 x21.ID)]), (12, .arr 41 3 1 [.p (encTable r23.1)]), (99, .arr 134 1 1 [.mapo 108 1]), (100, .arr 52 1 1 [.own 200100 3 0 f115.length]), (108, .map 1 (List.map AV.p (encK encArr3_int64 f114)) (List.map AV.p (encW PV.bool f114))), (122, .arr 41 3 1 [.p (encTable r5.1)]), (123, .arr 24 2 1 [.p (encDenial r7.1)]), (208, .arr 41 3 1 [.p (encTable r5.1)]), (209, .arr 24 2 1 [.p (encDenial r7.1)]), (356, .arr 2 1 1 (List.map AV.p (List.map (PV.int .i64) l148))), (200100, .arr 57 1 3 (List.map AV.p (List.map (encL (PV.int .i64)) f115)))]⟩ ?_
 clear h150
 refine zl (zn (zs (zr ?_)))
 refine zU (zl (zn (zs (zr ?_))))
 refine zM ⟨[(1, .loc 99 1 0 0), (2, .loc 100 1 0 0), (5, .p (.slc (List.map (PV.int .i64) l148))), (8, .loc 345 1 0 0)], [(9, .arr 24 2 1 [.p (encDenial r7.1)]), (11, .arr 2 1 1 [.p (.int .i64 x21.ID)]), (12, .arr 41 3 1 [.p (encTable r23.1)]), (99, .arr 134 1 1 [.mapo 108 1]), (100, .arr 52 1 1 [.own 200100 3 0 f115.length]), (108, .map 1 (List.map AV.p (encK encArr3_int64 f114)) (List.map AV.p (encW PV.bool f114))), (122, .arr 41 3 1 [.p (encTable r5.1)]), (123, .arr 24 2 1 [.p (encDenial r7.1)]), (208, .arr 41 3 1 [.p (encTable r5.1)]), (209, .arr 24 2 1 [.p (encDenial r7.1)]), (345, .arr 137 3 1 [.p (.agg [.int .i64 0, .int .i64 0, .int .i64 0])]), (200100, .arr 57 1 3 (List.map AV.p (List.map (encL (PV.int .i64)) f115)))]⟩ ?_
 refine zCpa 345 0 0 0 l148 Tryz.underlying137 Tryz.underlying57 ?_
 refine zl (zn (zs (zs (zr ?_))))
 refine zU (zl (zn ?_))
 rcases zI h with ⟨h151, h⟩ | ⟨h151, h⟩
 refine zj (zk (zn (zs (zr ?_))))
 refine zU (zl (zn (zq ?_)))
 refine inlQ_ret (by simp only [Tryz.results83]; simp only [go_sem, seval, h117T, h123F, h132, h135, h151]; exact rfl) ?_
 refine zU (zl (zn (zq (zt ?_))))
 refine inlQ_ret (by simp only [Tryz.results82]; simp only [go_sem, seval, h117T, h123F, h132, h135, h151]; exact rfl) ?_
 refine zU (zl (zn ?_))
 rcases zI h with ⟨h152, h⟩ | ⟨h152, h⟩
 refine zj (zk (yn (zn (zr ?_))))
 refine zU (zl ?_)
 cases h
 exact ⟨rfl, zE⟩
 refine zi (zs (zr ?_))
 refine zU (zl (zn (zq (yr (zt ?_)))))
 cases h
 exact ⟨rfl, zE⟩
 have h151F := Bool.eq_false_iff.2 h151
 refine zi (zs (zr ?_))
 refine zU (zl (zn (zr ?_)))
 obtain ⟨h153, h⟩ := ite_some h
 refine zU (zl (zn (zs (zr ?_))))
 refine zU (zl (zn (zq ?_)))
 refine inlQ_ret (by simp only [Tryz.results83]; simp only [go_sem, seval, h117T, h123F, h132, h135, h151F]; exact rfl) ?_
 refine zU (zl (zn (zq (zt ?_))))
 refine inlQ_ret (by simp only [Tryz.results82]; simp only [go_sem, seval, h117T, h123F, h132, h135, h151F]; exact rfl) ?_
 refine zU (zl (zn ?_))
 rcases zI h with ⟨h154, h⟩ | ⟨h154, h⟩
 refine zj (zk (yn (zn (zr ?_))))
 refine zU (zl ?_)
 cases h
 exact ⟨rfl, zE⟩
 refine zi (zs (zr ?_))
 refine zU (zl (zn (zq (yr (zt ?_)))))
 cases h
 exact ⟨rfl, zE⟩
 have h135F := Bool.eq_false_iff.2 h135
 refine zw 21 true ?_
 refine zh ?_
 refine zU (zl (zn (zq (zt ?_))))
 refine inlQ_ret (by simp only [Tryz.results82]; simp only [go_sem, seval, h117T, h123F, h132, h135F]; exact rfl) ?_
 refine zU (zl (zn ?_))
 refine zj (zk (yn (zn (zr ?_))))
 refine zU (zl ?_)
 cases h
 exact ⟨rfl, zE⟩
 have h132F := Bool.eq_false_iff.2 h132
 refine zj (zk (zn (zs (zs (zr ?_)))))
 refine zU (zl (zn (zb ?_)))
 obtain ⟨o155, h156, h⟩ := zB h
 refine zO (fun (s : (List (Arr3_int64 × Bool)) × List (List Int) × Int) => ⟨[(2, .p (.slc (List.map encRow l130))), (3, .func (.func 83) [.loc 99 1 0 0, .loc 100 1 0 0]), (4, .loc 294 1 0 0), (5, .loc 295 1 0 0), (27, .p (.slc (List.map encRow r5.1.Rows))), (28, .p (.int .i64 (r5.1.Rows.length : Int))), (29, .p (.int .i64 s.2.2))], [(9, .arr 24 2 1 [.p (encDenial r7.1)]), (11, .arr 2 1 1 [.p (.int .i64 x21.ID)]), (12, .arr 41 3 1 [.p (encTable r23.1)]), (99, .arr 134 1 1 [.mapo 108 1]), (100, .arr 52 1 1 [.own 200100 4 0 s.2.1.length]), (108, .map 1 (List.map AV.p (encK encArr3_int64 s.1)) (List.map AV.p (encW PV.bool s.1))), (122, .arr 41 3 1 [.p (encTable r5.1)]), (123, .arr 24 2 1 [.p (encDenial r7.1)]), (208, .arr 41 3 1 [.p (encTable r5.1)]), (209, .arr 24 2 1 [.p (encDenial r7.1)]), (294, .arr 41 3 1 [.p (encTable r5.1)]), (295, .arr 24 2 1 [.p (encDenial r7.1)]), (200100, .arr 57 1 4 (List.map AV.p (List.map (encL (PV.int .i64)) s.2.1)))]⟩) (fun (o : ((List (Arr3_int64 × Bool)) × List (List Int)) ⊕ ((List (Arr3_int64 × Bool)) × List (List Int))) => match o with | .inl o157 => tE ⟨Tryz.prog, 47, 290, X, [(9, .arr 24 2 1 [.p (encDenial r7.1)]), (11, .arr 2 1 1 [.p (.int .i64 x21.ID)]), (12, .arr 41 3 1 [.p (encTable r23.1)]), (99, .arr 134 1 1 [.mapo 108 1]), (100, .arr 52 1 1 [.own 200100 3 0 f115.length]), (108, .map 1 (List.map AV.p (encK encArr3_int64 f114)) (List.map AV.p (encW PV.bool f114))), (122, .arr 41 3 1 [.p (encTable r5.1)]), (123, .arr 24 2 1 [.p (encDenial r7.1)]), (208, .arr 41 3 1 [.p (encTable r5.1)]), (209, .arr 24 2 1 [.p (encDenial r7.1)]), (200100, .arr 57 1 3 (List.map AV.p (List.map (encL (PV.int .i64)) f115)))], i127, w128, False, h129⟩ (.exit 0) ⟨[], [(9, .arr 24 2 1 [.p (encDenial r7.1)]), (11, .arr 2 1 1 [.p (.int .i64 x21.ID)]), (12, .arr 41 3 1 [.p (encTable r23.1)]), (99, .arr 134 1 1 [.mapo 108 1]), (100, .arr 52 1 1 [.own 200100 4 0 o157.2.length]), (108, .map 1 (List.map AV.p (encK encArr3_int64 o157.1)) (List.map AV.p (encW PV.bool o157.1))), (122, .arr 41 3 1 [.p (encTable r5.1)]), (123, .arr 24 2 1 [.p (encDenial r7.1)]), (208, .arr 41 3 1 [.p (encTable r5.1)]), (209, .arr 24 2 1 [.p (encDenial r7.1)]), (200100, .arr 57 1 4 (List.map AV.p (List.map (encL (PV.int .i64)) o157.2)))]⟩ | .inr o158 => tE ⟨Tryz.prog, 47, 290, X, [(9, .arr 24 2 1 [.p (encDenial r7.1)]), (11, .arr 2 1 1 [.p (.int .i64 x21.ID)]), (12, .arr 41 3 1 [.p (encTable r23.1)]), (99, .arr 134 1 1 [.mapo 108 1]), (100, .arr 52 1 1 [.own 200100 3 0 f115.length]), (108, .map 1 (List.map AV.p (encK encArr3_int64 f114)) (List.map AV.p (encW PV.bool f114))), (122, .arr 41 3 1 [.p (encTable r5.1)]), (123, .arr 24 2 1 [.p (encDenial r7.1)]), (208, .arr 41 3 1 [.p (encTable r5.1)]), (209, .arr 24 2 1 [.p (encDenial r7.1)]), (200100, .arr 57 1 3 (List.map AV.p (List.map (encL (PV.int .i64)) f115)))], i127, w128, False, h129⟩ .ret ⟨[(8, .p (.bool false))], [(9, .arr 24 2 1 [.p (encDenial r7.1)]), (11, .arr 2 1 1 [.p (.int .i64 x21.ID)]), (12, .arr 41 3 1 [.p (encTable r23.1)]), (99, .arr 134 1 1 [.mapo 108 1]), (100, .arr 52 1 1 [.own 200100 4 0 o158.2.length]), (108, .map 1 (List.map AV.p (encK encArr3_int64 o158.1)) (List.map AV.p (encW PV.bool o158.1))), (122, .arr 41 3 1 [.p (encTable r5.1)]), (123, .arr 24 2 1 [.p (encDenial r7.1)]), (208, .arr 41 3 1 [.p (encTable r5.1)]), (209, .arr 24 2 1 [.p (encDenial r7.1)]), (200100, .arr 57 1 4 (List.map AV.p (List.map (encL (PV.int .i64)) o158.2)))]⟩) h156 ?_ ?_
 clear h h117 h117T h119 h119a h119b h121 h123 h123F h124 h125 h126 h132 h132F h156
 intro s x h
 obtain ⟨f159, f160, t161⟩ := s
 simp only [drosslaw18_DenialFewer_l318] at h
 dsimp only
 refine zs (zr ?_)
 refine zU (zl (zn (zs ?_)))
 rcases zI h with ⟨h162, h⟩ | ⟨h162, h⟩
 have h162T := eq_true h162
 refine zi (zk (zn (zs (zb (zs (zr ?_))))))
 obtain ⟨x163, h164, h164a, h164b, h⟩ := zX h
 refine zU (zl (zn (zs (zs (zr ?_)))))
 refine zU ?_
 obtain ⟨r165, h166, h⟩ := zB h
 refine zc (slices_ContainsFunc_Row_con l130 (fun (y167 : Row) => denial_visit_1 y167 x163) 125 [.imm [.int .i64 x163.ID, .slc (List.map encValue x163.Values)]] (fun y167 r h => denial_visit_1_con y167 x163 r h) _ h166) ?_
 refine zl (zn ?_)
 rcases zI h with ⟨h168, h⟩ | ⟨h168, h⟩
 refine zi (zx (ze (yh (zn (zr ?_)))))
 refine zU (zl ?_)
 cases h
 exact ⟨rfl, zE⟩
 have h168F := Bool.eq_false_iff.2 h168
 refine zj (zk (zn (zs ?_)))
 refine zdl 8 ?_
 refine yU ?_
 obtain ⟨h169, h⟩ := ite_some h
 refine yK cln126 329 encRow l130 _ rfl ⟨by unfold maxLen; omega, by omega⟩ ?_
 have h170 := @take_cut PV
 obtain ⟨h171, h⟩ := ite_some h
 refine yU ?_
 refine ydlS ?_
 refine zM ⟨[(2, .p (.slc (List.map encRow l130))), (3, .func (.func 83) [.loc 99 1 0 0, .loc 100 1 0 0]), (4, .loc 294 1 0 0), (5, .loc 295 1 0 0), (27, .p (.slc (List.map encRow r5.1.Rows))), (28, .p (.int .i64 (r5.1.Rows.length : Int))), (29, .p (.int .i64 t161)), (36, .p (encTable r5.1)), (37, .p (encDenial r7.1)), (42, .p (.slc (List.map encRow (l130 ++ [x163])))), (43, .func (.func 83) [.loc 99 1 0 0, .loc 100 1 0 0])], [(9, .arr 24 2 1 [.p (encDenial r7.1)]), (11, .arr 2 1 1 [.p (.int .i64 x21.ID)]), (12, .arr 41 3 1 [.p (encTable r23.1)]), (99, .arr 134 1 1 [.mapo 108 1]), (100, .arr 52 1 1 [.own 200100 4 0 f160.length]), (108, .map 1 (List.map AV.p (encK encArr3_int64 f159)) (List.map AV.p (encW PV.bool f159))), (122, .arr 41 3 1 [.p (encTable r5.1)]), (123, .arr 24 2 1 [.p (encDenial r7.1)]), (208, .arr 41 3 1 [.p (encTable r5.1)]), (209, .arr 24 2 1 [.p (encDenial r7.1)]), (294, .arr 41 3 1 [.p (encTable r5.1)]), (295, .arr 24 2 1 [.p (encDenial r7.1)]), (200100, .arr 57 1 4 (List.map AV.p (List.map (encL (PV.int .i64)) f160)))]⟩ ?_
 refine AL_inline (avs := [.p (encTable r5.1), .p (encDenial r7.1), .p (.slc (List.map encRow (l130 ++ [x163]))), .func (.func 83) [.loc 99 1 0 0, .loc 100 1 0 0]]) 376 rfl (guard_none rfl) rfl Tryz.func82 rfl Tryz.call82 Tryz.ntmps82 (by simp) (by simp only [go_sem, seval, h162T, h168F]; all_goals rfl) ?_
 intro i172 w173 h174
 obtain ⟨l175, h176, h⟩ := zB h
 replace h176 := Option.some.inj h176
 refine awp_le (st' := ⟨[(0, .p (encTable r5.1)), (1, .p (encDenial r7.1)), (2, .p (.slc (List.map encRow l175))), (3, .func (.func 83) [.loc 99 1 0 0, .loc 100 1 0 0])], [(9, .arr 24 2 1 [.p (encDenial r7.1)]), (11, .arr 2 1 1 [.p (.int .i64 x21.ID)]), (12, .arr 41 3 1 [.p (encTable r23.1)]), (99, .arr 134 1 1 [.mapo 108 1]), (100, .arr 52 1 1 [.own 200100 4 0 f160.length]), (108, .map 1 (List.map AV.p (encK encArr3_int64 f159)) (List.map AV.p (encW PV.bool f159))), (122, .arr 41 3 1 [.p (encTable r5.1)]), (123, .arr 24 2 1 [.p (encDenial r7.1)]), (208, .arr 41 3 1 [.p (encTable r5.1)]), (209, .arr 24 2 1 [.p (encDenial r7.1)]), (294, .arr 41 3 1 [.p (encTable r5.1)]), (295, .arr 24 2 1 [.p (encDenial r7.1)]), (200100, .arr 57 1 4 (List.map AV.p (List.map (encL (PV.int .i64)) f160)))]⟩) (by simp only [go_sem, seval, h162T, h168F, ← h176]; all_goals ((repeat' refine And.intro ?_ ?_) <;> first | rfl | (simp; done) | (simp; rfl) | (simp [*]; done) | (simp [*]; rfl))) ?_
 clear h176
 refine zs (zr ?_)
 refine zU (zl (zn (zs (zs (zr ?_)))))
 refine zU (zl (zn ?_))
 rcases zI h with ⟨h177, h⟩ | ⟨h177, h⟩
 refine zi (zs (zr ?_))
 refine zU ?_
 obtain ⟨r178, h179, h⟩ := zB h
 refine zc (denial_satisfied_con l175 r7.1.Atoms _ h179) ?_
 refine zU ?_
 rcases zI h with ⟨h180, h⟩ | ⟨h180, h⟩
 refine zw 21 false ?_
 refine zg ?_
 refine zg ?_
 refine zM ⟨[(21, .p (.bool false)), (22, .func (.func 83) [.loc 99 1 0 0, .loc 100 1 0 0]), (23, .p (.slc (List.map encRow l175)))], [(9, .arr 24 2 1 [.p (encDenial r7.1)]), (11, .arr 2 1 1 [.p (.int .i64 x21.ID)]), (12, .arr 41 3 1 [.p (encTable r23.1)]), (99, .arr 134 1 1 [.mapo 108 1]), (100, .arr 52 1 1 [.own 200100 4 0 f160.length]), (108, .map 1 (List.map AV.p (encK encArr3_int64 f159)) (List.map AV.p (encW PV.bool f159))), (122, .arr 41 3 1 [.p (encTable r5.1)]), (123, .arr 24 2 1 [.p (encDenial r7.1)]), (208, .arr 41 3 1 [.p (encTable r5.1)]), (209, .arr 24 2 1 [.p (encDenial r7.1)]), (294, .arr 41 3 1 [.p (encTable r5.1)]), (295, .arr 24 2 1 [.p (encDenial r7.1)]), (200100, .arr 57 1 4 (List.map AV.p (List.map (encL (PV.int .i64)) f160)))]⟩ ?_
 refine AL_inline (avs := [.p (.slc (List.map encRow l175)), .loc 99 1 0 0, .loc 100 1 0 0]) 423 rfl (guard_true' rfl rfl (by exact rfl) (by exact rfl)) rfl Tryz.func83 rfl Tryz.call83 Tryz.ntmps83 (by simp) (by simp only [go_sem, seval, h162T, h168F, h177, h180]; all_goals rfl) ?_
 intro i181 w182 h183
 show AWp _ _ _ ⟨[(0, .p (.slc (List.map encRow l175))), (1, .loc 99 1 0 0), (2, .loc 100 1 0 0)], [(9, .arr 24 2 1 [.p (encDenial r7.1)]), (11, .arr 2 1 1 [.p (.int .i64 x21.ID)]), (12, .arr 41 3 1 [.p (encTable r23.1)]), (99, .arr 134 1 1 [.mapo 108 1]), (100, .arr 52 1 1 [.own 200100 4 0 f160.length]), (108, .map 1 (List.map AV.p (encK encArr3_int64 f159)) (List.map AV.p (encW PV.bool f159))), (122, .arr 41 3 1 [.p (encTable r5.1)]), (123, .arr 24 2 1 [.p (encDenial r7.1)]), (208, .arr 41 3 1 [.p (encTable r5.1)]), (209, .arr 24 2 1 [.p (encDenial r7.1)]), (294, .arr 41 3 1 [.p (encTable r5.1)]), (295, .arr 24 2 1 [.p (encDenial r7.1)]), (200100, .arr 57 1 4 (List.map AV.p (List.map (encL (PV.int .i64)) f160)))]⟩
 refine zs (zr ?_)
 refine zU (zl (zn (zs (zr ?_))))
 refine zU (zl (zn (zs (zs (zr ?_)))))
 refine zU (zl (zn (zb ?_)))
 obtain ⟨l184, h185, h⟩ := zB h
 refine zO (fun (s : List Int × Int) => ⟨[(1, .loc 99 1 0 0), (2, .loc 100 1 0 0), (5, .own 442 1 0 s.1.length), (9, .p (.slc (List.map encRow l175))), (10, .p (.int .i64 (l175.length : Int))), (11, .p (.int .i64 s.2))], [(9, .arr 24 2 1 [.p (encDenial r7.1)]), (11, .arr 2 1 1 [.p (.int .i64 x21.ID)]), (12, .arr 41 3 1 [.p (encTable r23.1)]), (99, .arr 134 1 1 [.mapo 108 1]), (100, .arr 52 1 1 [.own 200100 4 0 f160.length]), (108, .map 1 (List.map AV.p (encK encArr3_int64 f159)) (List.map AV.p (encW PV.bool f159))), (122, .arr 41 3 1 [.p (encTable r5.1)]), (123, .arr 24 2 1 [.p (encDenial r7.1)]), (208, .arr 41 3 1 [.p (encTable r5.1)]), (209, .arr 24 2 1 [.p (encDenial r7.1)]), (294, .arr 41 3 1 [.p (encTable r5.1)]), (295, .arr 24 2 1 [.p (encDenial r7.1)]), (442, .arr 2 1 1 (List.map AV.p (List.map (PV.int .i64) s.1))), (200100, .arr 57 1 4 (List.map AV.p (List.map (encL (PV.int .i64)) f160)))]⟩) (fun (o186 : List Int) => tE ⟨Tryz.prog, 39, 423, X, [(9, .arr 24 2 1 [.p (encDenial r7.1)]), (11, .arr 2 1 1 [.p (.int .i64 x21.ID)]), (12, .arr 41 3 1 [.p (encTable r23.1)]), (99, .arr 134 1 1 [.mapo 108 1]), (100, .arr 52 1 1 [.own 200100 4 0 f160.length]), (108, .map 1 (List.map AV.p (encK encArr3_int64 f159)) (List.map AV.p (encW PV.bool f159))), (122, .arr 41 3 1 [.p (encTable r5.1)]), (123, .arr 24 2 1 [.p (encDenial r7.1)]), (208, .arr 41 3 1 [.p (encTable r5.1)]), (209, .arr 24 2 1 [.p (encDenial r7.1)]), (294, .arr 41 3 1 [.p (encTable r5.1)]), (295, .arr 24 2 1 [.p (encDenial r7.1)]), (200100, .arr 57 1 4 (List.map AV.p (List.map (encL (PV.int .i64)) f160)))], i181, w182, False, h183⟩ (.exit 0) ⟨[(1, .loc 99 1 0 0), (2, .loc 100 1 0 0), (5, .own 442 1 0 o186.length)], [(9, .arr 24 2 1 [.p (encDenial r7.1)]), (11, .arr 2 1 1 [.p (.int .i64 x21.ID)]), (12, .arr 41 3 1 [.p (encTable r23.1)]), (99, .arr 134 1 1 [.mapo 108 1]), (100, .arr 52 1 1 [.own 200100 4 0 f160.length]), (108, .map 1 (List.map AV.p (encK encArr3_int64 f159)) (List.map AV.p (encW PV.bool f159))), (122, .arr 41 3 1 [.p (encTable r5.1)]), (123, .arr 24 2 1 [.p (encDenial r7.1)]), (208, .arr 41 3 1 [.p (encTable r5.1)]), (209, .arr 24 2 1 [.p (encDenial r7.1)]), (294, .arr 41 3 1 [.p (encTable r5.1)]), (295, .arr 24 2 1 [.p (encDenial r7.1)]), (442, .arr 2 1 1 (List.map AV.p (List.map (PV.int .i64) o186))), (200100, .arr 57 1 4 (List.map AV.p (List.map (encL (PV.int .i64)) f160)))]⟩) h185 ?_ ?_
 clear h h162 h162T h164 h164a h164b h166 h168 h168F h169 h170 h171 h177 h179 h180 h185
 intro s x h
 obtain ⟨l187, t188⟩ := s
 simp only [drosslaw18_DenialFewer_l316] at h
 dsimp only
 refine zs (zr ?_)
 refine zU (zl (zn (zs ?_)))
 rcases zI h with ⟨h189, h⟩ | ⟨h189, h⟩
 refine zi (zk (zn (zs (zb (zs (zr ?_))))))
 obtain ⟨x190, h191, h191a, h191b, h⟩ := zX h
 refine zU (zl (zn (zr ?_)))
 obtain ⟨h192, h⟩ := ite_some h
 refine zU (zl (yn (zn (zr ?_))))
 refine zU (zl ?_)
 cases h
 exact ⟨rfl, zE⟩
 refine zj (zx (ze ?_))
 cases h
 exact ⟨rfl, zE⟩
 try simp only at h
 refine zA (yh (zn (zs (zr ?_))))
 refine zU ?_
 refine zM ⟨[(1, .loc 99 1 0 0), (2, .loc 100 1 0 0), (5, .own 442 1 0 l184.length), (21, .own 442 1 0 l184.length)], [(9, .arr 24 2 1 [.p (encDenial r7.1)]), (11, .arr 2 1 1 [.p (.int .i64 x21.ID)]), (12, .arr 41 3 1 [.p (encTable r23.1)]), (99, .arr 134 1 1 [.mapo 108 1]), (100, .arr 52 1 1 [.own 200100 4 0 f160.length]), (108, .map 1 (List.map AV.p (encK encArr3_int64 f159)) (List.map AV.p (encW PV.bool f159))), (122, .arr 41 3 1 [.p (encTable r5.1)]), (123, .arr 24 2 1 [.p (encDenial r7.1)]), (208, .arr 41 3 1 [.p (encTable r5.1)]), (209, .arr 24 2 1 [.p (encDenial r7.1)]), (294, .arr 41 3 1 [.p (encTable r5.1)]), (295, .arr 24 2 1 [.p (encDenial r7.1)]), (442, .arr 2 1 1 (List.map AV.p (List.map (PV.int .i64) l184))), (200100, .arr 57 1 4 (List.map AV.p (List.map (encL (PV.int .i64)) f160)))]⟩ ?_
 obtain ⟨l193, h194, h⟩ := zB h
 refine zSI srt84 h194 ?_
 have h195 := srtIF_len h194
 refine zM ⟨[(1, .loc 99 1 0 0), (2, .loc 100 1 0 0), (5, .own 442 1 0 l193.length), (22, .p (.tup []))], [(9, .arr 24 2 1 [.p (encDenial r7.1)]), (11, .arr 2 1 1 [.p (.int .i64 x21.ID)]), (12, .arr 41 3 1 [.p (encTable r23.1)]), (99, .arr 134 1 1 [.mapo 108 1]), (100, .arr 52 1 1 [.own 200100 4 0 f160.length]), (108, .map 1 (List.map AV.p (encK encArr3_int64 f159)) (List.map AV.p (encW PV.bool f159))), (122, .arr 41 3 1 [.p (encTable r5.1)]), (123, .arr 24 2 1 [.p (encDenial r7.1)]), (208, .arr 41 3 1 [.p (encTable r5.1)]), (209, .arr 24 2 1 [.p (encDenial r7.1)]), (294, .arr 41 3 1 [.p (encTable r5.1)]), (295, .arr 24 2 1 [.p (encDenial r7.1)]), (442, .arr 2 1 1 (List.map AV.p (List.map (PV.int .i64) l193))), (200100, .arr 57 1 4 (List.map AV.p (List.map (encL (PV.int .i64)) f160)))]⟩ ?_
 clear h195
 refine zl (zn (zs (zr ?_)))
 refine zU (zl (zn (zs (zr ?_))))
 refine zM ⟨[(1, .loc 99 1 0 0), (2, .loc 100 1 0 0), (5, .p (.slc (List.map (PV.int .i64) l193))), (8, .loc 431 1 0 0)], [(9, .arr 24 2 1 [.p (encDenial r7.1)]), (11, .arr 2 1 1 [.p (.int .i64 x21.ID)]), (12, .arr 41 3 1 [.p (encTable r23.1)]), (99, .arr 134 1 1 [.mapo 108 1]), (100, .arr 52 1 1 [.own 200100 4 0 f160.length]), (108, .map 1 (List.map AV.p (encK encArr3_int64 f159)) (List.map AV.p (encW PV.bool f159))), (122, .arr 41 3 1 [.p (encTable r5.1)]), (123, .arr 24 2 1 [.p (encDenial r7.1)]), (208, .arr 41 3 1 [.p (encTable r5.1)]), (209, .arr 24 2 1 [.p (encDenial r7.1)]), (294, .arr 41 3 1 [.p (encTable r5.1)]), (295, .arr 24 2 1 [.p (encDenial r7.1)]), (431, .arr 137 3 1 [.p (.agg [.int .i64 0, .int .i64 0, .int .i64 0])]), (200100, .arr 57 1 4 (List.map AV.p (List.map (encL (PV.int .i64)) f160)))]⟩ ?_
 refine zCpa 431 0 0 0 l193 Tryz.underlying137 Tryz.underlying57 ?_
 refine zl (zn (zs (zs (zr ?_))))
 refine zU (zl (zn ?_))
 rcases zI h with ⟨h196, h⟩ | ⟨h196, h⟩
 refine zj (zk (zn (zs (zr ?_))))
 refine zU (zl (zn (zq ?_)))
 refine inlQ_ret (by simp only [Tryz.results83]; simp only [go_sem, seval, h162T, h168F, h177, h180, h196]; exact rfl) ?_
 refine zU (zl (zn (zq (zt ?_))))
 refine inlQ_ret (by simp only [Tryz.results82]; simp only [go_sem, seval, h162T, h168F, h177, h180, h196]; exact rfl) ?_
 refine zU (zl (zn ?_))
 rcases zI h with ⟨h197, h⟩ | ⟨h197, h⟩
 refine zj (zk (yn (zn (zr ?_))))
 refine zU (zl ?_)
 cases h
 exact ⟨rfl, zE⟩
 refine zi (zs (zr ?_))
 refine zU (zl (zn (zq (yr (zt ?_)))))
 cases h
 exact ⟨rfl, zE⟩
 have h196F := Bool.eq_false_iff.2 h196
 refine zi (zs (zr ?_))
 refine zU (zl (zn (zr ?_)))
 obtain ⟨h198, h⟩ := ite_some h
 refine zU (zl (zn (zs (zr ?_))))
 refine zU (zl (zn (zq ?_)))
 refine inlQ_ret (by simp only [Tryz.results83]; simp only [go_sem, seval, h162T, h168F, h177, h180, h196F]; exact rfl) ?_
 refine zU (zl (zn (zq (zt ?_))))
 refine inlQ_ret (by simp only [Tryz.results82]; simp only [go_sem, seval, h162T, h168F, h177, h180, h196F]; exact rfl) ?_
 refine zU (zl (zn ?_))
 rcases zI h with ⟨h199, h⟩ | ⟨h199, h⟩
 refine zj (zk (yn (zn (zr ?_))))
 refine zU (zl ?_)
 cases h
 exact ⟨rfl, zE⟩
 refine zi (zs (zr ?_))
 refine zU (zl (zn (zq (yr (zt ?_)))))
 cases h
 exact ⟨rfl, zE⟩
 have h180F := Bool.eq_false_iff.2 h180
 refine zw 21 true ?_
 refine zh ?_
 refine zU (zl (zn (zq (zt ?_))))
 refine inlQ_ret (by simp only [Tryz.results82]; simp only [go_sem, seval, h162T, h168F, h177, h180F]; exact rfl) ?_
 refine zU (zl (zn ?_))
 refine zj (zk (yn (zn (zr ?_))))
 refine zU (zl ?_)
 cases h
 exact ⟨rfl, zE⟩
 have h177F := Bool.eq_false_iff.2 h177
 refine zj (zk (zn (zs (zs (zr ?_)))))
 refine zU (zl (zn (zb ?_)))
 obtain ⟨o200, h201, h⟩ := zB h
 refine zO (fun (s : Int) => ⟨[(2, .p (.slc (List.map encRow l175))), (3, .func (.func 83) [.loc 99 1 0 0, .loc 100 1 0 0]), (4, .loc 380 1 0 0), (5, .loc 381 1 0 0), (27, .p (.slc (List.map encRow r5.1.Rows))), (28, .p (.int .i64 (r5.1.Rows.length : Int))), (29, .p (.int .i64 s))], [(9, .arr 24 2 1 [.p (encDenial r7.1)]), (11, .arr 2 1 1 [.p (.int .i64 x21.ID)]), (12, .arr 41 3 1 [.p (encTable r23.1)]), (99, .arr 134 1 1 [.mapo 108 1]), (100, .arr 52 1 1 [.own 200100 4 0 f160.length]), (108, .map 1 (List.map AV.p (encK encArr3_int64 f159)) (List.map AV.p (encW PV.bool f159))), (122, .arr 41 3 1 [.p (encTable r5.1)]), (123, .arr 24 2 1 [.p (encDenial r7.1)]), (208, .arr 41 3 1 [.p (encTable r5.1)]), (209, .arr 24 2 1 [.p (encDenial r7.1)]), (294, .arr 41 3 1 [.p (encTable r5.1)]), (295, .arr 24 2 1 [.p (encDenial r7.1)]), (380, .arr 41 3 1 [.p (encTable r5.1)]), (381, .arr 24 2 1 [.p (encDenial r7.1)]), (200100, .arr 57 1 4 (List.map AV.p (List.map (encL (PV.int .i64)) f160)))]⟩) (fun (o202 : Unit) => tE ⟨Tryz.prog, 47, 376, X, [(9, .arr 24 2 1 [.p (encDenial r7.1)]), (11, .arr 2 1 1 [.p (.int .i64 x21.ID)]), (12, .arr 41 3 1 [.p (encTable r23.1)]), (99, .arr 134 1 1 [.mapo 108 1]), (100, .arr 52 1 1 [.own 200100 4 0 f160.length]), (108, .map 1 (List.map AV.p (encK encArr3_int64 f159)) (List.map AV.p (encW PV.bool f159))), (122, .arr 41 3 1 [.p (encTable r5.1)]), (123, .arr 24 2 1 [.p (encDenial r7.1)]), (208, .arr 41 3 1 [.p (encTable r5.1)]), (209, .arr 24 2 1 [.p (encDenial r7.1)]), (294, .arr 41 3 1 [.p (encTable r5.1)]), (295, .arr 24 2 1 [.p (encDenial r7.1)]), (200100, .arr 57 1 4 (List.map AV.p (List.map (encL (PV.int .i64)) f160)))], i172, w173, False, h174⟩ (.exit 0) ⟨[], [(9, .arr 24 2 1 [.p (encDenial r7.1)]), (11, .arr 2 1 1 [.p (.int .i64 x21.ID)]), (12, .arr 41 3 1 [.p (encTable r23.1)]), (99, .arr 134 1 1 [.mapo 108 1]), (100, .arr 52 1 1 [.own 200100 4 0 f160.length]), (108, .map 1 (List.map AV.p (encK encArr3_int64 f159)) (List.map AV.p (encW PV.bool f159))), (122, .arr 41 3 1 [.p (encTable r5.1)]), (123, .arr 24 2 1 [.p (encDenial r7.1)]), (208, .arr 41 3 1 [.p (encTable r5.1)]), (209, .arr 24 2 1 [.p (encDenial r7.1)]), (294, .arr 41 3 1 [.p (encTable r5.1)]), (295, .arr 24 2 1 [.p (encDenial r7.1)]), (200100, .arr 57 1 4 (List.map AV.p (List.map (encL (PV.int .i64)) f160)))]⟩) h201 ?_ ?_
 clear h h162 h162T h164 h164a h164b h166 h168 h168F h169 h170 h171 h177 h177F h201
 intro t203 x h
 simp only [drosslaw18_DenialFewer_l317] at h
 refine zs (zr ?_)
 refine zU (zl (zn (zs ?_)))
 rcases zI h with ⟨h204, h⟩ | ⟨h204, h⟩
 refine zi (zk (zn (zs (zb (zs (zr ?_))))))
 obtain ⟨x205, h206, h206a, h206b, h⟩ := zX h
 refine zU (zl (zn (zs (zs (zr ?_)))))
 refine zU ?_
 obtain ⟨r207, h208, h⟩ := zB h
 refine zc (slices_ContainsFunc_Row_con l175 (fun (y209 : Row) => denial_visit_1 y209 x205) 125 [.imm [.int .i64 x205.ID, .slc (List.map encValue x205.Values)]] (fun y209 r h => denial_visit_1_con y209 x205 r h) _ h208) ?_
 refine zl (zn ?_)
 rcases zI h with ⟨h210, h⟩ | ⟨h210, h⟩
 refine zi (zx (ze (yh (zn (zr ?_)))))
 refine zU (zl ?_)
 cases h
 exact ⟨rfl, zE⟩
 cases h
 refine zj (zx (ze ?_))
 cases h
 exact ⟨rfl, zE⟩
 cases o200
 try simp only at h
 refine zA (yh (zn (zs (zr ?_))))
 refine zU (zl (zn (zq ?_)))
 refine inlQ_ret (by simp only [Tryz.results82]; simp only [go_sem, seval, h162T, h168F, h177F]; exact rfl) ?_
 refine zU (zl (zn ?_))
 refine zj (zk (yn (zn (zr ?_))))
 refine zU (zl ?_)
 cases h
 exact ⟨rfl, zE⟩
 have h162T := eq_false h162
 refine zj (zx (ze ?_))
 cases h
 exact ⟨rfl, zE⟩
 rcases o155 with ⟨b211, b212⟩ | ⟨b213, b214⟩
 try simp only at h
 refine zA (yh (zn (zs (zr ?_))))
 refine zU (zl (zn (zq ?_)))
 refine inlQ_ret (by simp only [Tryz.results82]; simp only [go_sem, seval, h117T, h123F, h132F]; exact rfl) ?_
 refine zU (zl (zn ?_))
 refine zj (zk (yn (zn (zr ?_))))
 refine zU (zl ?_)
 cases h
 exact ⟨rfl, zE⟩
 try simp only at h
 refine zA (yr (zt ?_))
 refine inlQ_ret (by simp only [Tryz.results82]; simp only [go_sem, seval, h117T, h123F, h132F]; exact rfl) ?_
 refine zU (zl (zn ?_))
 refine zi (zs (zr ?_))
 refine zU (zl (zn (zq (yr (zt ?_)))))
 cases h
 exact ⟨rfl, zE⟩
 have h117T := eq_false h117
 refine zj (zx (ze ?_))
 cases h
 exact ⟨rfl, zE⟩
 rcases o110 with ⟨b215, b216⟩ | ⟨b217, b218⟩
 try simp only at h
 refine zA (yh (zn (zs (zr ?_))))
 refine zU (zl (zn (zq ?_)))
 refine inlQ_ret (by simp only [Tryz.results82]; simp only [go_sem, seval, h72T, h78F, h87F]; exact rfl) ?_
 refine zU (zl (zn ?_))
 refine zj (zk (yn (zn (zr ?_))))
 refine zU (zl ?_)
 cases h
 exact ⟨rfl, zE⟩
 try simp only at h
 refine zA (yr (zt ?_))
 refine inlQ_ret (by simp only [Tryz.results82]; simp only [go_sem, seval, h72T, h78F, h87F]; exact rfl) ?_
 refine zU (zl (zn ?_))
 refine zi (zs (zr ?_))
 refine zU (zl (zn (zq (yr (zt ?_)))))
 cases h
 exact ⟨rfl, zE⟩
 have h72T := eq_false h72
 refine zj (zx (ze ?_))
 cases h
 exact ⟨rfl, zE⟩
 rcases o65 with ⟨b219, b220⟩ | ⟨b221, b222⟩
 try simp only at h
 refine zA (yh (zn (zs (zr ?_))))
 refine zU (zl (zn (zq ?_)))
 refine inlQ_ret (by simp only [Tryz.results82]; simp only [go_sem, seval, h17F, h33F, h44F]; exact rfl) ?_
 refine zU (zl ?_)
 cases h
 exact ⟨rfl, zE⟩
 try simp only at h
 refine zA (yr (zt ?_))
 refine inlQ_ret (by simp only [Tryz.results82]; simp only [go_sem, seval, h17F, h33F, h44F]; exact rfl) ?_
 refine zU (zl ?_)
 cases h
 exact ⟨rfl, zE⟩
 obtain ⟨o223, a224⟩ := o34
 try simp only at h
 refine zA (zn (zs (zs (zr ?_))))
 refine zU (zl (zn ?_))
 rcases zI h with ⟨h225, h⟩ | ⟨h225, h⟩
 refine zj (zk (zn (zs (zr ?_))))
 refine zU ?_
 refine zM ⟨[(8, .loc 100 1 0 0), (23, .own 200100 1 0 o223.length)], [(9, .arr 24 2 1 [.p (encDenial r7.1)]), (11, .arr 2 1 1 [.p (.int .i64 x21.ID)]), (12, .arr 41 3 1 [.p (encTable r23.1)]), (100, .arr 52 1 1 [.own 200100 1 0 o223.length]), (200100, .arr 57 1 1 (List.map AV.p (List.map (encL (PV.int .i64)) o223)))]⟩ ?_
 obtain ⟨l226, h227, h⟩ := zB h
 refine zSF srt85 (encL (PV.int .i64)) (fun (y228 : List Int) (y229 : List Int) => slices_Compare_int64 y228 y229) h227 (fun y228 y229 r h => slices_Compare_int64_con y228 y229 r h) ?_
 have h230 := srtF_len h227
 refine zM ⟨[(8, .loc 100 1 0 0), (24, .p (.tup []))], [(9, .arr 24 2 1 [.p (encDenial r7.1)]), (11, .arr 2 1 1 [.p (.int .i64 x21.ID)]), (12, .arr 41 3 1 [.p (encTable r23.1)]), (100, .arr 52 1 1 [.own 200100 1 0 l226.length]), (200100, .arr 57 1 1 (List.map AV.p (List.map (encL (PV.int .i64)) l226)))]⟩ ?_
 clear h230
 refine zl (zn (zs (zr ?_)))
 refine zU (zl (zn (zq ?_)))
 refine inlQ_ret (by simp only [Tryz.results29]; simp only [go_sem, seval, h17F, h33F, h225]; exact rfl) ?_
 refine zU (zl ?_)
 cases h
 exact ⟨rfl, zE⟩
 have h225F := Bool.eq_false_iff.2 h225
 refine zi (zs (zr ?_))
 refine zU (zl (zn (zq (zt ?_))))
 refine inlQ_ret (by simp only [Tryz.results29]; simp only [go_sem, seval, h17F, h33F, h225F]; exact rfl) ?_
 refine zMt ⟨[(9, .loc 9 1 0 0), (11, .loc 11 1 0 0), (12, .loc 12 1 0 0), (69, .tup [.nils, .p (.int .i64 3)])], [(9, .arr 24 2 1 [.p (encDenial r7.1)]), (11, .arr 2 1 1 [.p (.int .i64 x21.ID)]), (12, .arr 41 3 1 [.p (encTable r23.1)])]⟩ ?_
 refine zU (zl ?_)
 cases h
 exact ⟨rfl, zE⟩
 obtain ⟨b231, e232⟩ := o25
 try simp only at h
 refine zA (zn ?_)
 obtain ⟨o233, h234, h⟩ := zB h
 refine zJ (fun (o235 : List (List Int) × Int) => tE (cX Tryz.f9 X w False hT) .normal ⟨[(11, .loc 11 1 0 0), (14, .own 200100 1 0 b231.length), (15, .p (.int .i64 e232)), (16, .own 200470 1 0 o235.1.length), (17, .p (.int .i64 o235.2))], [(11, .arr 2 1 1 [.p (.int .i64 x21.ID)]), (200100, .arr 57 1 1 (List.map AV.p (List.map (encL (PV.int .i64)) b231))), (200470, .arr 57 1 1 (List.map AV.p (List.map (encL (PV.int .i64)) o235.1)))]⟩) o233 ?_ ?_
 replace h := h234
 clear h234
 refine zr ?_
 refine zU ?_
 refine zM ⟨[(11, .loc 11 1 0 0), (14, .own 200100 1 0 b231.length), (15, .p (.int .i64 e232)), (73, .p (encTable r23.1)), (74, .p (encDenial r7.1))], [(11, .arr 2 1 1 [.p (.int .i64 x21.ID)]), (200100, .arr 57 1 1 (List.map AV.p (List.map (encL (PV.int .i64)) b231)))]⟩ ?_
 refine AL_inline (avs := [.p (encTable r23.1), .p (encDenial r7.1)]) 462 rfl (guard_none rfl) rfl Tryz.func29 rfl Tryz.call29 Tryz.ntmps29 (by simp) (by simp only [go_sem, seval, h17F]; all_goals rfl) ?_
 intro i236 w237 h238
 show AWp _ _ _ ⟨[(0, .p (encTable r23.1)), (1, .p (encDenial r7.1))], [(11, .arr 2 1 1 [.p (.int .i64 x21.ID)]), (200100, .arr 57 1 1 (List.map AV.p (List.map (encL (PV.int .i64)) b231)))]⟩
 refine zs (zr ?_)
 refine zU (zl (zn (zs (zs (zr ?_)))))
 refine zU ?_
 obtain ⟨r239, h240, h⟩ := zB h
 refine zc (denial_checked_con r23.1 r7.1 _ h240) ?_
 refine zU (zl (zn (zs (zr ?_))))
 refine zU (zl (zn ?_))
 rcases zI h with ⟨h241, h⟩ | ⟨h241, h⟩
 refine zi (zs (zr ?_))
 refine zU (zl (zn (zq (zt ?_))))
 refine inlQ_ret (by simp only [Tryz.results29]; simp only [go_sem, seval, h17F, h241]; exact rfl) ?_
 refine zMt ⟨[(11, .loc 11 1 0 0), (14, .own 200100 1 0 b231.length), (15, .p (.int .i64 e232)), (75, .tup [.nils, .p (.int .i64 r239)])], [(11, .arr 2 1 1 [.p (.int .i64 x21.ID)]), (200100, .arr 57 1 1 (List.map AV.p (List.map (encL (PV.int .i64)) b231)))]⟩ ?_
 refine zU (zl ?_)
 cases h
 exact ⟨rfl, zE⟩
 have h241F := Bool.eq_false_iff.2 h241
 refine zj (zk (zn (zs (zr ?_))))
 refine zU (zl (zn (zs (zr ?_))))
 refine zU (zl (zn ?_))
 obtain ⟨o242, h243, h⟩ := zB h
 refine zJ (fun (o244 : List (List Int) × Bool) => tE ⟨Tryz.prog, 26, 462, X, [(11, .arr 2 1 1 [.p (.int .i64 x21.ID)]), (200100, .arr 57 1 1 (List.map AV.p (List.map (encL (PV.int .i64)) b231)))], i236, w237, False, h238⟩ .normal ⟨[(8, .loc 470 1 0 0), (9, .p (.bool o244.2))], [(11, .arr 2 1 1 [.p (.int .i64 x21.ID)]), (470, .arr 52 1 1 [.own 200470 1 0 o244.1.length]), (200100, .arr 57 1 1 (List.map AV.p (List.map (encL (PV.int .i64)) b231))), (200470, .arr 57 1 1 (List.map AV.p (List.map (encL (PV.int .i64)) o244.1)))]⟩) o242 ?_ ?_
 replace h := h243
 clear h243
 refine zr ?_
 refine zU ?_
 refine zM ⟨[(8, .loc 470 1 0 0), (17, .p (encTable r23.1)), (18, .p (encDenial r7.1)), (19, .func (.func 83) [.loc 469 1 0 0, .loc 470 1 0 0])], [(11, .arr 2 1 1 [.p (.int .i64 x21.ID)]), (469, .arr 134 1 1 [.mapo 478 1]), (470, .arr 52 1 1 [.own 200470 1 0 0]), (478, .map 1 [] []), (200100, .arr 57 1 1 (List.map AV.p (List.map (encL (PV.int .i64)) b231))), (200470, .arr 57 1 1 [])]⟩ ?_
 obtain ⟨m245, h246, h⟩ := zB h
 replace h246 := Option.some.inj h246
 refine AL_le (st' := ⟨[(8, .loc 470 1 0 0), (17, .p (encTable r23.1)), (18, .p (encDenial r7.1)), (19, .func (.func 83) [.loc 469 1 0 0, .loc 470 1 0 0])], [(11, .arr 2 1 1 [.p (.int .i64 x21.ID)]), (469, .arr 134 1 1 [.mapo 478 1]), (470, .arr 52 1 1 [.own 200470 1 0 0]), (478, .map 1 (List.map AV.p (encK encArr3_int64 m245)) (List.map AV.p (encW PV.bool m245))), (200100, .arr 57 1 1 (List.map AV.p (List.map (encL (PV.int .i64)) b231))), (200470, .arr 57 1 1 [])]⟩) (by simp only [go_sem, seval, h17F, h241F, ← h246]; all_goals ((repeat' refine And.intro ?_ ?_) <;> first | rfl | (simp; done) | (simp; rfl) | (simp [*]; done) | (simp [*]; rfl))) ?_
 clear h246
 refine zM ⟨[(8, .loc 470 1 0 0), (17, .p (encTable r23.1)), (18, .p (encDenial r7.1)), (19, .func (.func 83) [.loc 469 1 0 0, .loc 470 1 0 0])], [(11, .arr 2 1 1 [.p (.int .i64 x21.ID)]), (469, .arr 134 1 1 [.mapo 478 1]), (470, .arr 52 1 1 [.own 200470 1 0 0]), (478, .map 1 (List.map AV.p (encK encArr3_int64 m245)) (List.map AV.p (encW PV.bool m245))), (200100, .arr 57 1 1 (List.map AV.p (List.map (encL (PV.int .i64)) b231))), (200470, .arr 57 1 1 [])]⟩ ?_
 refine AL_inline (avs := [.p (encTable r23.1), .p (encDenial r7.1), .nils, .func (.func 83) [.loc 469 1 0 0, .loc 470 1 0 0]]) 488 rfl (guard_none rfl) rfl Tryz.func82 rfl Tryz.call82 Tryz.ntmps82 (by simp) (by simp only [go_sem, seval, h17F, h241F]; all_goals rfl) ?_
 intro i247 w248 h249
 obtain ⟨l250, h251, h⟩ := zB h
 replace h251 := Option.some.inj h251
 refine awp_le (st' := ⟨[(0, .p (encTable r23.1)), (1, .p (encDenial r7.1)), (2, .p (.slc (List.map encRow l250))), (3, .func (.func 83) [.loc 469 1 0 0, .loc 470 1 0 0])], [(11, .arr 2 1 1 [.p (.int .i64 x21.ID)]), (469, .arr 134 1 1 [.mapo 478 1]), (470, .arr 52 1 1 [.own 200470 1 0 0]), (478, .map 1 (List.map AV.p (encK encArr3_int64 m245)) (List.map AV.p (encW PV.bool m245))), (200100, .arr 57 1 1 (List.map AV.p (List.map (encL (PV.int .i64)) b231))), (200470, .arr 57 1 1 [])]⟩) (by simp only [go_sem, seval, h17F, h241F, ← h251]; all_goals ((repeat' refine And.intro ?_ ?_) <;> first | rfl | (simp; done) | (simp; rfl) | (simp [*]; done) | (simp [*]; rfl))) ?_
 clear h251
 refine zs (zr ?_)
 refine zU (zl (zn (zs (zs (zr ?_)))))
 refine zU (zl (zn ?_))
 rcases zI h with ⟨h252, h⟩ | ⟨h252, h⟩
 refine zi (zs (zr ?_))
 refine zU ?_
 obtain ⟨r253, h254, h⟩ := zB h
 refine zc (denial_satisfied_con l250 r7.1.Atoms _ h254) ?_
 refine zU ?_
 rcases zI h with ⟨h255, h⟩ | ⟨h255, h⟩
 refine zw 21 false ?_
 refine zg ?_
 refine zg ?_
 refine zM ⟨[(21, .p (.bool false)), (22, .func (.func 83) [.loc 469 1 0 0, .loc 470 1 0 0]), (23, .p (.slc (List.map encRow l250)))], [(11, .arr 2 1 1 [.p (.int .i64 x21.ID)]), (469, .arr 134 1 1 [.mapo 478 1]), (470, .arr 52 1 1 [.own 200470 1 0 0]), (478, .map 1 (List.map AV.p (encK encArr3_int64 m245)) (List.map AV.p (encW PV.bool m245))), (200100, .arr 57 1 1 (List.map AV.p (List.map (encL (PV.int .i64)) b231))), (200470, .arr 57 1 1 [])]⟩ ?_
 refine AL_inline (avs := [.p (.slc (List.map encRow l250)), .loc 469 1 0 0, .loc 470 1 0 0]) 535 rfl (guard_true' rfl rfl (by exact rfl) (by exact rfl)) rfl Tryz.func83 rfl Tryz.call83 Tryz.ntmps83 (by simp) (by simp only [go_sem, seval, h17F, h241F, h252, h255]; all_goals rfl) ?_
 intro i256 w257 h258
 show AWp _ _ _ ⟨[(0, .p (.slc (List.map encRow l250))), (1, .loc 469 1 0 0), (2, .loc 470 1 0 0)], [(11, .arr 2 1 1 [.p (.int .i64 x21.ID)]), (469, .arr 134 1 1 [.mapo 478 1]), (470, .arr 52 1 1 [.own 200470 1 0 0]), (478, .map 1 (List.map AV.p (encK encArr3_int64 m245)) (List.map AV.p (encW PV.bool m245))), (200100, .arr 57 1 1 (List.map AV.p (List.map (encL (PV.int .i64)) b231))), (200470, .arr 57 1 1 [])]⟩
 refine zs (zr ?_)
 refine zU (zl (zn (zs (zr ?_))))
 refine zU (zl (zn (zs (zs (zr ?_)))))
 refine zU (zl (zn (zb ?_)))
 obtain ⟨l259, h260, h⟩ := zB h
 refine zO (fun (s : List Int × Int) => ⟨[(1, .loc 469 1 0 0), (2, .loc 470 1 0 0), (5, .own 554 1 0 s.1.length), (9, .p (.slc (List.map encRow l250))), (10, .p (.int .i64 (l250.length : Int))), (11, .p (.int .i64 s.2))], [(11, .arr 2 1 1 [.p (.int .i64 x21.ID)]), (469, .arr 134 1 1 [.mapo 478 1]), (470, .arr 52 1 1 [.own 200470 1 0 0]), (478, .map 1 (List.map AV.p (encK encArr3_int64 m245)) (List.map AV.p (encW PV.bool m245))), (554, .arr 2 1 1 (List.map AV.p (List.map (PV.int .i64) s.1))), (200100, .arr 57 1 1 (List.map AV.p (List.map (encL (PV.int .i64)) b231))), (200470, .arr 57 1 1 (List.map AV.p (List.map (encL (PV.int .i64)) [])))]⟩) (fun (o261 : List Int) => tE ⟨Tryz.prog, 39, 535, X, [(11, .arr 2 1 1 [.p (.int .i64 x21.ID)]), (469, .arr 134 1 1 [.mapo 478 1]), (470, .arr 52 1 1 [.own 200470 1 0 0]), (478, .map 1 (List.map AV.p (encK encArr3_int64 m245)) (List.map AV.p (encW PV.bool m245))), (200100, .arr 57 1 1 (List.map AV.p (List.map (encL (PV.int .i64)) b231))), (200470, .arr 57 1 1 [])], i256, w257, False, h258⟩ (.exit 0) ⟨[(1, .loc 469 1 0 0), (2, .loc 470 1 0 0), (5, .own 554 1 0 o261.length)], [(11, .arr 2 1 1 [.p (.int .i64 x21.ID)]), (469, .arr 134 1 1 [.mapo 478 1]), (470, .arr 52 1 1 [.own 200470 1 0 0]), (478, .map 1 (List.map AV.p (encK encArr3_int64 m245)) (List.map AV.p (encW PV.bool m245))), (554, .arr 2 1 1 (List.map AV.p (List.map (PV.int .i64) o261))), (200100, .arr 57 1 1 (List.map AV.p (List.map (encL (PV.int .i64)) b231))), (200470, .arr 57 1 1 (List.map AV.p (List.map (encL (PV.int .i64)) [])))]⟩) h260 ?_ ?_
 clear h h6 h8 h17 h17F h20 h22 h22a h22b h24 h240 h241 h241F h252 h254 h255 h260
 intro s x h
 obtain ⟨l262, t263⟩ := s
 simp only [drosslaw18_DenialFewer_l561] at h
 dsimp only
 refine zs (zr ?_)
 refine zU (zl (zn (zs ?_)))
 rcases zI h with ⟨h264, h⟩ | ⟨h264, h⟩
 refine zi (zk (zn (zs (zb (zs (zr ?_))))))
 obtain ⟨x265, h266, h266a, h266b, h⟩ := zX h
 refine zU (zl (zn (zr ?_)))
 obtain ⟨h267, h⟩ := ite_some h
 refine zU (zl (yn (zn (zr ?_))))
 refine zU (zl ?_)
 cases h
 exact ⟨rfl, zE⟩
 refine zj (zx (ze ?_))
 cases h
 exact ⟨rfl, zE⟩
 try simp only at h
 refine zA (yh (zn (zs (zr ?_))))
 refine zU ?_
 refine zM ⟨[(1, .loc 469 1 0 0), (2, .loc 470 1 0 0), (5, .own 554 1 0 l259.length), (21, .own 554 1 0 l259.length)], [(11, .arr 2 1 1 [.p (.int .i64 x21.ID)]), (469, .arr 134 1 1 [.mapo 478 1]), (470, .arr 52 1 1 [.own 200470 1 0 0]), (478, .map 1 (List.map AV.p (encK encArr3_int64 m245)) (List.map AV.p (encW PV.bool m245))), (554, .arr 2 1 1 (List.map AV.p (List.map (PV.int .i64) l259))), (200100, .arr 57 1 1 (List.map AV.p (List.map (encL (PV.int .i64)) b231))), (200470, .arr 57 1 1 (List.map AV.p (List.map (encL (PV.int .i64)) [])))]⟩ ?_
 obtain ⟨l268, h269, h⟩ := zB h
 refine zSI srt84 h269 ?_
 have h270 := srtIF_len h269
 refine zM ⟨[(1, .loc 469 1 0 0), (2, .loc 470 1 0 0), (5, .own 554 1 0 l268.length), (22, .p (.tup []))], [(11, .arr 2 1 1 [.p (.int .i64 x21.ID)]), (469, .arr 134 1 1 [.mapo 478 1]), (470, .arr 52 1 1 [.own 200470 1 0 0]), (478, .map 1 (List.map AV.p (encK encArr3_int64 m245)) (List.map AV.p (encW PV.bool m245))), (554, .arr 2 1 1 (List.map AV.p (List.map (PV.int .i64) l268))), (200100, .arr 57 1 1 (List.map AV.p (List.map (encL (PV.int .i64)) b231))), (200470, .arr 57 1 1 (List.map AV.p (List.map (encL (PV.int .i64)) [])))]⟩ ?_
 clear h270
 refine zl (zn (zs (zr ?_)))
 refine zU (zl (zn (zs (zr ?_))))
 refine zM ⟨[(1, .loc 469 1 0 0), (2, .loc 470 1 0 0), (5, .p (.slc (List.map (PV.int .i64) l268))), (8, .loc 543 1 0 0)], [(11, .arr 2 1 1 [.p (.int .i64 x21.ID)]), (469, .arr 134 1 1 [.mapo 478 1]), (470, .arr 52 1 1 [.own 200470 1 0 0]), (478, .map 1 (List.map AV.p (encK encArr3_int64 m245)) (List.map AV.p (encW PV.bool m245))), (543, .arr 137 3 1 [.p (.agg [.int .i64 0, .int .i64 0, .int .i64 0])]), (200100, .arr 57 1 1 (List.map AV.p (List.map (encL (PV.int .i64)) b231))), (200470, .arr 57 1 1 (List.map AV.p (List.map (encL (PV.int .i64)) [])))]⟩ ?_
 refine zCpa 543 0 0 0 l268 Tryz.underlying137 Tryz.underlying57 ?_
 refine zl (zn (zs (zs (zr ?_))))
 refine zU (zl (zn ?_))
 rcases zI h with ⟨h271, h⟩ | ⟨h271, h⟩
 refine zj (zk (zn (zs (zr ?_))))
 refine zU (zl (zn (zq ?_)))
 refine inlQ_ret (by simp only [Tryz.results83]; simp only [go_sem, seval, h17F, h241F, h252, h255, h271]; exact rfl) ?_
 refine zU (zl (zn (zq (zt ?_))))
 refine inlQ_ret (by simp only [Tryz.results82]; simp only [go_sem, seval, h17F, h241F, h252, h255, h271]; exact rfl) ?_
 refine zU (zl ?_)
 cases h
 exact ⟨rfl, zE⟩
 have h271F := Bool.eq_false_iff.2 h271
 refine zi (zs (zr ?_))
 refine zU (zl (zn (zr ?_)))
 have h272 : roomB 1 24 = true := by decide
 refine zU (zl (zn (zs (zr ?_))))
 refine zU (zl (zn (zq ?_)))
 refine inlQ_ret (by simp only [Tryz.results83]; simp only [go_sem, seval, h17F, h241F, h252, h255, h271F]; exact rfl) ?_
 refine zU (zl (zn (zq (zt ?_))))
 refine inlQ_ret (by simp only [Tryz.results82]; simp only [go_sem, seval, h17F, h241F, h252, h255, h271F]; exact rfl) ?_
 refine zU (zl ?_)
 cases h
 exact ⟨rfl, zE⟩
 have h255F := Bool.eq_false_iff.2 h255
 refine zw 21 true ?_
 refine zh ?_
 refine zU (zl (zn (zq (zt ?_))))
 refine inlQ_ret (by simp only [Tryz.results82]; simp only [go_sem, seval, h17F, h241F, h252, h255F]; exact rfl) ?_
 refine zU (zl ?_)
 cases h
 exact ⟨rfl, zE⟩
 have h252F := Bool.eq_false_iff.2 h252
 refine zj (zk (zn (zs (zs (zr ?_)))))
 refine zU (zl (zn (zb ?_)))
 obtain ⟨o273, h274, h⟩ := zB h
 refine zO (fun (s : (List (Arr3_int64 × Bool)) × List (List Int) × Int) => ⟨[(2, .p (.slc (List.map encRow l250))), (3, .func (.func 83) [.loc 469 1 0 0, .loc 470 1 0 0]), (4, .loc 492 1 0 0), (5, .loc 493 1 0 0), (27, .p (.slc (List.map encRow r23.1.Rows))), (28, .p (.int .i64 (r23.1.Rows.length : Int))), (29, .p (.int .i64 s.2.2))], [(11, .arr 2 1 1 [.p (.int .i64 x21.ID)]), (469, .arr 134 1 1 [.mapo 478 1]), (470, .arr 52 1 1 [.own 200470 2 0 s.2.1.length]), (478, .map 1 (List.map AV.p (encK encArr3_int64 s.1)) (List.map AV.p (encW PV.bool s.1))), (492, .arr 41 3 1 [.p (encTable r23.1)]), (493, .arr 24 2 1 [.p (encDenial r7.1)]), (200100, .arr 57 1 1 (List.map AV.p (List.map (encL (PV.int .i64)) b231))), (200470, .arr 57 1 2 (List.map AV.p (List.map (encL (PV.int .i64)) s.2.1)))]⟩) (fun (o : ((List (Arr3_int64 × Bool)) × List (List Int)) ⊕ ((List (Arr3_int64 × Bool)) × List (List Int))) => match o with | .inl o275 => tE ⟨Tryz.prog, 47, 488, X, [(11, .arr 2 1 1 [.p (.int .i64 x21.ID)]), (469, .arr 134 1 1 [.mapo 478 1]), (470, .arr 52 1 1 [.own 200470 1 0 0]), (478, .map 1 (List.map AV.p (encK encArr3_int64 m245)) (List.map AV.p (encW PV.bool m245))), (200100, .arr 57 1 1 (List.map AV.p (List.map (encL (PV.int .i64)) b231))), (200470, .arr 57 1 1 [])], i247, w248, False, h249⟩ (.exit 0) ⟨[], [(11, .arr 2 1 1 [.p (.int .i64 x21.ID)]), (469, .arr 134 1 1 [.mapo 478 1]), (470, .arr 52 1 1 [.own 200470 2 0 o275.2.length]), (478, .map 1 (List.map AV.p (encK encArr3_int64 o275.1)) (List.map AV.p (encW PV.bool o275.1))), (200100, .arr 57 1 1 (List.map AV.p (List.map (encL (PV.int .i64)) b231))), (200470, .arr 57 1 2 (List.map AV.p (List.map (encL (PV.int .i64)) o275.2)))]⟩ | .inr o276 => tE ⟨Tryz.prog, 47, 488, X, [(11, .arr 2 1 1 [.p (.int .i64 x21.ID)]), (469, .arr 134 1 1 [.mapo 478 1]), (470, .arr 52 1 1 [.own 200470 1 0 0]), (478, .map 1 (List.map AV.p (encK encArr3_int64 m245)) (List.map AV.p (encW PV.bool m245))), (200100, .arr 57 1 1 (List.map AV.p (List.map (encL (PV.int .i64)) b231))), (200470, .arr 57 1 1 [])], i247, w248, False, h249⟩ .ret ⟨[(8, .p (.bool false))], [(11, .arr 2 1 1 [.p (.int .i64 x21.ID)]), (469, .arr 134 1 1 [.mapo 478 1]), (470, .arr 52 1 1 [.own 200470 2 0 o276.2.length]), (478, .map 1 (List.map AV.p (encK encArr3_int64 o276.1)) (List.map AV.p (encW PV.bool o276.1))), (200100, .arr 57 1 1 (List.map AV.p (List.map (encL (PV.int .i64)) b231))), (200470, .arr 57 1 2 (List.map AV.p (List.map (encL (PV.int .i64)) o276.2)))]⟩) h274 ?_ ?_
 clear h h6 h8 h17 h17F h20 h22 h22a h22b h24 h240 h241 h241F h252 h252F h274
 intro s x h
 obtain ⟨f277, f278, t279⟩ := s
 simp only [drosslaw18_DenialFewer_l640] at h
 dsimp only
 refine zs (zr ?_)
 refine zU (zl (zn (zs ?_)))
 rcases zI h with ⟨h280, h⟩ | ⟨h280, h⟩
 have h280T := eq_true h280
 refine zi (zk (zn (zs (zb (zs (zr ?_))))))
 obtain ⟨x281, h282, h282a, h282b, h⟩ := zX h
 refine zU (zl (zn (zs (zs (zr ?_)))))
 refine zU ?_
 obtain ⟨r283, h284, h⟩ := zB h
 refine zc (slices_ContainsFunc_Row_con l250 (fun (y285 : Row) => denial_visit_1 y285 x281) 125 [.imm [.int .i64 x281.ID, .slc (List.map encValue x281.Values)]] (fun y285 r h => denial_visit_1_con y285 x281 r h) _ h284) ?_
 refine zl (zn ?_)
 rcases zI h with ⟨h286, h⟩ | ⟨h286, h⟩
 refine zi (zx (ze (yh (zn (zr ?_)))))
 refine zU (zl ?_)
 cases h
 exact ⟨rfl, zE⟩
 have h286F := Bool.eq_false_iff.2 h286
 refine zj (zk (zn (zs ?_)))
 refine zdl 8 ?_
 refine yU ?_
 obtain ⟨h287, h⟩ := ite_some h
 refine yK cln126 527 encRow l250 _ rfl ⟨by unfold maxLen; omega, by omega⟩ ?_
 have h288 := @take_cut PV
 obtain ⟨h289, h⟩ := ite_some h
 refine yU ?_
 refine ydlS ?_
 refine zM ⟨[(2, .p (.slc (List.map encRow l250))), (3, .func (.func 83) [.loc 469 1 0 0, .loc 470 1 0 0]), (4, .loc 492 1 0 0), (5, .loc 493 1 0 0), (27, .p (.slc (List.map encRow r23.1.Rows))), (28, .p (.int .i64 (r23.1.Rows.length : Int))), (29, .p (.int .i64 t279)), (36, .p (encTable r23.1)), (37, .p (encDenial r7.1)), (42, .p (.slc (List.map encRow (l250 ++ [x281])))), (43, .func (.func 83) [.loc 469 1 0 0, .loc 470 1 0 0])], [(11, .arr 2 1 1 [.p (.int .i64 x21.ID)]), (469, .arr 134 1 1 [.mapo 478 1]), (470, .arr 52 1 1 [.own 200470 2 0 f278.length]), (478, .map 1 (List.map AV.p (encK encArr3_int64 f277)) (List.map AV.p (encW PV.bool f277))), (492, .arr 41 3 1 [.p (encTable r23.1)]), (493, .arr 24 2 1 [.p (encDenial r7.1)]), (200100, .arr 57 1 1 (List.map AV.p (List.map (encL (PV.int .i64)) b231))), (200470, .arr 57 1 2 (List.map AV.p (List.map (encL (PV.int .i64)) f278)))]⟩ ?_
 refine AL_inline (avs := [.p (encTable r23.1), .p (encDenial r7.1), .p (.slc (List.map encRow (l250 ++ [x281]))), .func (.func 83) [.loc 469 1 0 0, .loc 470 1 0 0]]) 574 rfl (guard_none rfl) rfl Tryz.func82 rfl Tryz.call82 Tryz.ntmps82 (by simp) (by simp only [go_sem, seval, h280T, h286F]; all_goals rfl) ?_
 intro i290 w291 h292
 obtain ⟨l293, h294, h⟩ := zB h
 replace h294 := Option.some.inj h294
 refine awp_le (st' := ⟨[(0, .p (encTable r23.1)), (1, .p (encDenial r7.1)), (2, .p (.slc (List.map encRow l293))), (3, .func (.func 83) [.loc 469 1 0 0, .loc 470 1 0 0])], [(11, .arr 2 1 1 [.p (.int .i64 x21.ID)]), (469, .arr 134 1 1 [.mapo 478 1]), (470, .arr 52 1 1 [.own 200470 2 0 f278.length]), (478, .map 1 (List.map AV.p (encK encArr3_int64 f277)) (List.map AV.p (encW PV.bool f277))), (492, .arr 41 3 1 [.p (encTable r23.1)]), (493, .arr 24 2 1 [.p (encDenial r7.1)]), (200100, .arr 57 1 1 (List.map AV.p (List.map (encL (PV.int .i64)) b231))), (200470, .arr 57 1 2 (List.map AV.p (List.map (encL (PV.int .i64)) f278)))]⟩) (by simp only [go_sem, seval, h280T, h286F, ← h294]; all_goals ((repeat' refine And.intro ?_ ?_) <;> first | rfl | (simp; done) | (simp; rfl) | (simp [*]; done) | (simp [*]; rfl))) ?_
 clear h294
 refine zs (zr ?_)
 refine zU (zl (zn (zs (zs (zr ?_)))))
 refine zU (zl (zn ?_))
 rcases zI h with ⟨h295, h⟩ | ⟨h295, h⟩
 refine zi (zs (zr ?_))
 refine zU ?_
 obtain ⟨r296, h297, h⟩ := zB h
 refine zc (denial_satisfied_con l293 r7.1.Atoms _ h297) ?_
 refine zU ?_
 rcases zI h with ⟨h298, h⟩ | ⟨h298, h⟩
 refine zw 21 false ?_
 refine zg ?_
 refine zg ?_
 refine zM ⟨[(21, .p (.bool false)), (22, .func (.func 83) [.loc 469 1 0 0, .loc 470 1 0 0]), (23, .p (.slc (List.map encRow l293)))], [(11, .arr 2 1 1 [.p (.int .i64 x21.ID)]), (469, .arr 134 1 1 [.mapo 478 1]), (470, .arr 52 1 1 [.own 200470 2 0 f278.length]), (478, .map 1 (List.map AV.p (encK encArr3_int64 f277)) (List.map AV.p (encW PV.bool f277))), (492, .arr 41 3 1 [.p (encTable r23.1)]), (493, .arr 24 2 1 [.p (encDenial r7.1)]), (200100, .arr 57 1 1 (List.map AV.p (List.map (encL (PV.int .i64)) b231))), (200470, .arr 57 1 2 (List.map AV.p (List.map (encL (PV.int .i64)) f278)))]⟩ ?_
 refine AL_inline (avs := [.p (.slc (List.map encRow l293)), .loc 469 1 0 0, .loc 470 1 0 0]) 621 rfl (guard_true' rfl rfl (by exact rfl) (by exact rfl)) rfl Tryz.func83 rfl Tryz.call83 Tryz.ntmps83 (by simp) (by simp only [go_sem, seval, h280T, h286F, h295, h298]; all_goals rfl) ?_
 intro i299 w300 h301
 show AWp _ _ _ ⟨[(0, .p (.slc (List.map encRow l293))), (1, .loc 469 1 0 0), (2, .loc 470 1 0 0)], [(11, .arr 2 1 1 [.p (.int .i64 x21.ID)]), (469, .arr 134 1 1 [.mapo 478 1]), (470, .arr 52 1 1 [.own 200470 2 0 f278.length]), (478, .map 1 (List.map AV.p (encK encArr3_int64 f277)) (List.map AV.p (encW PV.bool f277))), (492, .arr 41 3 1 [.p (encTable r23.1)]), (493, .arr 24 2 1 [.p (encDenial r7.1)]), (200100, .arr 57 1 1 (List.map AV.p (List.map (encL (PV.int .i64)) b231))), (200470, .arr 57 1 2 (List.map AV.p (List.map (encL (PV.int .i64)) f278)))]⟩
 refine zs (zr ?_)
 refine zU (zl (zn (zs (zr ?_))))
 refine zU (zl (zn (zs (zs (zr ?_)))))
 refine zU (zl (zn (zb ?_)))
 obtain ⟨l302, h303, h⟩ := zB h
 refine zO (fun (s : List Int × Int) => ⟨[(1, .loc 469 1 0 0), (2, .loc 470 1 0 0), (5, .own 640 1 0 s.1.length), (9, .p (.slc (List.map encRow l293))), (10, .p (.int .i64 (l293.length : Int))), (11, .p (.int .i64 s.2))], [(11, .arr 2 1 1 [.p (.int .i64 x21.ID)]), (469, .arr 134 1 1 [.mapo 478 1]), (470, .arr 52 1 1 [.own 200470 2 0 f278.length]), (478, .map 1 (List.map AV.p (encK encArr3_int64 f277)) (List.map AV.p (encW PV.bool f277))), (492, .arr 41 3 1 [.p (encTable r23.1)]), (493, .arr 24 2 1 [.p (encDenial r7.1)]), (640, .arr 2 1 1 (List.map AV.p (List.map (PV.int .i64) s.1))), (200100, .arr 57 1 1 (List.map AV.p (List.map (encL (PV.int .i64)) b231))), (200470, .arr 57 1 2 (List.map AV.p (List.map (encL (PV.int .i64)) f278)))]⟩) (fun (o304 : List Int) => tE ⟨Tryz.prog, 39, 621, X, [(11, .arr 2 1 1 [.p (.int .i64 x21.ID)]), (469, .arr 134 1 1 [.mapo 478 1]), (470, .arr 52 1 1 [.own 200470 2 0 f278.length]), (478, .map 1 (List.map AV.p (encK encArr3_int64 f277)) (List.map AV.p (encW PV.bool f277))), (492, .arr 41 3 1 [.p (encTable r23.1)]), (493, .arr 24 2 1 [.p (encDenial r7.1)]), (200100, .arr 57 1 1 (List.map AV.p (List.map (encL (PV.int .i64)) b231))), (200470, .arr 57 1 2 (List.map AV.p (List.map (encL (PV.int .i64)) f278)))], i299, w300, False, h301⟩ (.exit 0) ⟨[(1, .loc 469 1 0 0), (2, .loc 470 1 0 0), (5, .own 640 1 0 o304.length)], [(11, .arr 2 1 1 [.p (.int .i64 x21.ID)]), (469, .arr 134 1 1 [.mapo 478 1]), (470, .arr 52 1 1 [.own 200470 2 0 f278.length]), (478, .map 1 (List.map AV.p (encK encArr3_int64 f277)) (List.map AV.p (encW PV.bool f277))), (492, .arr 41 3 1 [.p (encTable r23.1)]), (493, .arr 24 2 1 [.p (encDenial r7.1)]), (640, .arr 2 1 1 (List.map AV.p (List.map (PV.int .i64) o304))), (200100, .arr 57 1 1 (List.map AV.p (List.map (encL (PV.int .i64)) b231))), (200470, .arr 57 1 2 (List.map AV.p (List.map (encL (PV.int .i64)) f278)))]⟩) h303 ?_ ?_
 clear h h280 h280T h282 h282a h282b h284 h286 h286F h287 h288 h289 h295 h297 h298 h303
 intro s x h
 obtain ⟨l305, t306⟩ := s
 simp only [drosslaw18_DenialFewer_l614] at h
 dsimp only
 refine zs (zr ?_)
 refine zU (zl (zn (zs ?_)))
 rcases zI h with ⟨h307, h⟩ | ⟨h307, h⟩
 refine zi (zk (zn (zs (zb (zs (zr ?_))))))
 obtain ⟨x308, h309, h309a, h309b, h⟩ := zX h
 refine zU (zl (zn (zr ?_)))
 obtain ⟨h310, h⟩ := ite_some h
 refine zU (zl (yn (zn (zr ?_))))
 refine zU (zl ?_)
 cases h
 exact ⟨rfl, zE⟩
 refine zj (zx (ze ?_))
 cases h
 exact ⟨rfl, zE⟩
 try simp only at h
 refine zA (yh (zn (zs (zr ?_))))
 refine zU ?_
 refine zM ⟨[(1, .loc 469 1 0 0), (2, .loc 470 1 0 0), (5, .own 640 1 0 l302.length), (21, .own 640 1 0 l302.length)], [(11, .arr 2 1 1 [.p (.int .i64 x21.ID)]), (469, .arr 134 1 1 [.mapo 478 1]), (470, .arr 52 1 1 [.own 200470 2 0 f278.length]), (478, .map 1 (List.map AV.p (encK encArr3_int64 f277)) (List.map AV.p (encW PV.bool f277))), (492, .arr 41 3 1 [.p (encTable r23.1)]), (493, .arr 24 2 1 [.p (encDenial r7.1)]), (640, .arr 2 1 1 (List.map AV.p (List.map (PV.int .i64) l302))), (200100, .arr 57 1 1 (List.map AV.p (List.map (encL (PV.int .i64)) b231))), (200470, .arr 57 1 2 (List.map AV.p (List.map (encL (PV.int .i64)) f278)))]⟩ ?_
 obtain ⟨l311, h312, h⟩ := zB h
 refine zSI srt84 h312 ?_
 have h313 := srtIF_len h312
 refine zM ⟨[(1, .loc 469 1 0 0), (2, .loc 470 1 0 0), (5, .own 640 1 0 l311.length), (22, .p (.tup []))], [(11, .arr 2 1 1 [.p (.int .i64 x21.ID)]), (469, .arr 134 1 1 [.mapo 478 1]), (470, .arr 52 1 1 [.own 200470 2 0 f278.length]), (478, .map 1 (List.map AV.p (encK encArr3_int64 f277)) (List.map AV.p (encW PV.bool f277))), (492, .arr 41 3 1 [.p (encTable r23.1)]), (493, .arr 24 2 1 [.p (encDenial r7.1)]), (640, .arr 2 1 1 (List.map AV.p (List.map (PV.int .i64) l311))), (200100, .arr 57 1 1 (List.map AV.p (List.map (encL (PV.int .i64)) b231))), (200470, .arr 57 1 2 (List.map AV.p (List.map (encL (PV.int .i64)) f278)))]⟩ ?_
 clear h313
 refine zl (zn (zs (zr ?_)))
 refine zU (zl (zn (zs (zr ?_))))
 refine zM ⟨[(1, .loc 469 1 0 0), (2, .loc 470 1 0 0), (5, .p (.slc (List.map (PV.int .i64) l311))), (8, .loc 629 1 0 0)], [(11, .arr 2 1 1 [.p (.int .i64 x21.ID)]), (469, .arr 134 1 1 [.mapo 478 1]), (470, .arr 52 1 1 [.own 200470 2 0 f278.length]), (478, .map 1 (List.map AV.p (encK encArr3_int64 f277)) (List.map AV.p (encW PV.bool f277))), (492, .arr 41 3 1 [.p (encTable r23.1)]), (493, .arr 24 2 1 [.p (encDenial r7.1)]), (629, .arr 137 3 1 [.p (.agg [.int .i64 0, .int .i64 0, .int .i64 0])]), (200100, .arr 57 1 1 (List.map AV.p (List.map (encL (PV.int .i64)) b231))), (200470, .arr 57 1 2 (List.map AV.p (List.map (encL (PV.int .i64)) f278)))]⟩ ?_
 refine zCpa 629 0 0 0 l311 Tryz.underlying137 Tryz.underlying57 ?_
 refine zl (zn (zs (zs (zr ?_))))
 refine zU (zl (zn ?_))
 rcases zI h with ⟨h314, h⟩ | ⟨h314, h⟩
 refine zj (zk (zn (zs (zr ?_))))
 refine zU (zl (zn (zq ?_)))
 refine inlQ_ret (by simp only [Tryz.results83]; simp only [go_sem, seval, h280T, h286F, h295, h298, h314]; exact rfl) ?_
 refine zU (zl (zn (zq (zt ?_))))
 refine inlQ_ret (by simp only [Tryz.results82]; simp only [go_sem, seval, h280T, h286F, h295, h298, h314]; exact rfl) ?_
 refine zU (zl (zn ?_))
 rcases zI h with ⟨h315, h⟩ | ⟨h315, h⟩
 refine zj (zk (yn (zn (zr ?_))))
 refine zU (zl ?_)
 cases h
 exact ⟨rfl, zE⟩
 refine zi (zs (zr ?_))
 refine zU (zl (zn (zq (yr (zt ?_)))))
 cases h
 exact ⟨rfl, zE⟩
 have h314F := Bool.eq_false_iff.2 h314
 refine zi (zs (zr ?_))
 refine zU (zl (zn (zr ?_)))
 obtain ⟨h316, h⟩ := ite_some h
 refine zU (zl (zn (zs (zr ?_))))
 refine zU (zl (zn (zq ?_)))
 refine inlQ_ret (by simp only [Tryz.results83]; simp only [go_sem, seval, h280T, h286F, h295, h298, h314F]; exact rfl) ?_
 refine zU (zl (zn (zq (zt ?_))))
 refine inlQ_ret (by simp only [Tryz.results82]; simp only [go_sem, seval, h280T, h286F, h295, h298, h314F]; exact rfl) ?_
 refine zU (zl (zn ?_))
 rcases zI h with ⟨h317, h⟩ | ⟨h317, h⟩
 refine zj (zk (yn (zn (zr ?_))))
 refine zU (zl ?_)
 cases h
 exact ⟨rfl, zE⟩
 refine zi (zs (zr ?_))
 refine zU (zl (zn (zq (yr (zt ?_)))))
 cases h
 exact ⟨rfl, zE⟩
 have h298F := Bool.eq_false_iff.2 h298
 refine zw 21 true ?_
 refine zh ?_
 refine zU (zl (zn (zq (zt ?_))))
 refine inlQ_ret (by simp only [Tryz.results82]; simp only [go_sem, seval, h280T, h286F, h295, h298F]; exact rfl) ?_
 refine zU (zl (zn ?_))
 refine zj (zk (yn (zn (zr ?_))))
 refine zU (zl ?_)
 cases h
 exact ⟨rfl, zE⟩
 have h295F := Bool.eq_false_iff.2 h295
 refine zj (zk (zn (zs (zs (zr ?_)))))
 refine zU (zl (zn (zb ?_)))
 obtain ⟨o318, h319, h⟩ := zB h
 refine zO (fun (s : (List (Arr3_int64 × Bool)) × List (List Int) × Int) => ⟨[(2, .p (.slc (List.map encRow l293))), (3, .func (.func 83) [.loc 469 1 0 0, .loc 470 1 0 0]), (4, .loc 578 1 0 0), (5, .loc 579 1 0 0), (27, .p (.slc (List.map encRow r23.1.Rows))), (28, .p (.int .i64 (r23.1.Rows.length : Int))), (29, .p (.int .i64 s.2.2))], [(11, .arr 2 1 1 [.p (.int .i64 x21.ID)]), (469, .arr 134 1 1 [.mapo 478 1]), (470, .arr 52 1 1 [.own 200470 3 0 s.2.1.length]), (478, .map 1 (List.map AV.p (encK encArr3_int64 s.1)) (List.map AV.p (encW PV.bool s.1))), (492, .arr 41 3 1 [.p (encTable r23.1)]), (493, .arr 24 2 1 [.p (encDenial r7.1)]), (578, .arr 41 3 1 [.p (encTable r23.1)]), (579, .arr 24 2 1 [.p (encDenial r7.1)]), (200100, .arr 57 1 1 (List.map AV.p (List.map (encL (PV.int .i64)) b231))), (200470, .arr 57 1 3 (List.map AV.p (List.map (encL (PV.int .i64)) s.2.1)))]⟩) (fun (o : ((List (Arr3_int64 × Bool)) × List (List Int)) ⊕ ((List (Arr3_int64 × Bool)) × List (List Int))) => match o with | .inl o320 => tE ⟨Tryz.prog, 47, 574, X, [(11, .arr 2 1 1 [.p (.int .i64 x21.ID)]), (469, .arr 134 1 1 [.mapo 478 1]), (470, .arr 52 1 1 [.own 200470 2 0 f278.length]), (478, .map 1 (List.map AV.p (encK encArr3_int64 f277)) (List.map AV.p (encW PV.bool f277))), (492, .arr 41 3 1 [.p (encTable r23.1)]), (493, .arr 24 2 1 [.p (encDenial r7.1)]), (200100, .arr 57 1 1 (List.map AV.p (List.map (encL (PV.int .i64)) b231))), (200470, .arr 57 1 2 (List.map AV.p (List.map (encL (PV.int .i64)) f278)))], i290, w291, False, h292⟩ (.exit 0) ⟨[], [(11, .arr 2 1 1 [.p (.int .i64 x21.ID)]), (469, .arr 134 1 1 [.mapo 478 1]), (470, .arr 52 1 1 [.own 200470 3 0 o320.2.length]), (478, .map 1 (List.map AV.p (encK encArr3_int64 o320.1)) (List.map AV.p (encW PV.bool o320.1))), (492, .arr 41 3 1 [.p (encTable r23.1)]), (493, .arr 24 2 1 [.p (encDenial r7.1)]), (200100, .arr 57 1 1 (List.map AV.p (List.map (encL (PV.int .i64)) b231))), (200470, .arr 57 1 3 (List.map AV.p (List.map (encL (PV.int .i64)) o320.2)))]⟩ | .inr o321 => tE ⟨Tryz.prog, 47, 574, X, [(11, .arr 2 1 1 [.p (.int .i64 x21.ID)]), (469, .arr 134 1 1 [.mapo 478 1]), (470, .arr 52 1 1 [.own 200470 2 0 f278.length]), (478, .map 1 (List.map AV.p (encK encArr3_int64 f277)) (List.map AV.p (encW PV.bool f277))), (492, .arr 41 3 1 [.p (encTable r23.1)]), (493, .arr 24 2 1 [.p (encDenial r7.1)]), (200100, .arr 57 1 1 (List.map AV.p (List.map (encL (PV.int .i64)) b231))), (200470, .arr 57 1 2 (List.map AV.p (List.map (encL (PV.int .i64)) f278)))], i290, w291, False, h292⟩ .ret ⟨[(8, .p (.bool false))], [(11, .arr 2 1 1 [.p (.int .i64 x21.ID)]), (469, .arr 134 1 1 [.mapo 478 1]), (470, .arr 52 1 1 [.own 200470 3 0 o321.2.length]), (478, .map 1 (List.map AV.p (encK encArr3_int64 o321.1)) (List.map AV.p (encW PV.bool o321.1))), (492, .arr 41 3 1 [.p (encTable r23.1)]), (493, .arr 24 2 1 [.p (encDenial r7.1)]), (200100, .arr 57 1 1 (List.map AV.p (List.map (encL (PV.int .i64)) b231))), (200470, .arr 57 1 3 (List.map AV.p (List.map (encL (PV.int .i64)) o321.2)))]⟩) h319 ?_ ?_
 clear h h280 h280T h282 h282a h282b h284 h286 h286F h287 h288 h289 h295 h295F h319
 intro s x h
 obtain ⟨f322, f323, t324⟩ := s
 simp only [drosslaw18_DenialFewer_l639] at h
 dsimp only
 refine zs (zr ?_)
 refine zU (zl (zn (zs ?_)))
 rcases zI h with ⟨h325, h⟩ | ⟨h325, h⟩
 have h325T := eq_true h325
 refine zi (zk (zn (zs (zb (zs (zr ?_))))))
 obtain ⟨x326, h327, h327a, h327b, h⟩ := zX h
 refine zU (zl (zn (zs (zs (zr ?_)))))
 refine zU ?_
 obtain ⟨r328, h329, h⟩ := zB h
 refine zc (slices_ContainsFunc_Row_con l293 (fun (y330 : Row) => denial_visit_1 y330 x326) 125 [.imm [.int .i64 x326.ID, .slc (List.map encValue x326.Values)]] (fun y330 r h => denial_visit_1_con y330 x326 r h) _ h329) ?_
 refine zl (zn ?_)
 rcases zI h with ⟨h331, h⟩ | ⟨h331, h⟩
 refine zi (zx (ze (yh (zn (zr ?_)))))
 refine zU (zl ?_)
 cases h
 exact ⟨rfl, zE⟩
 have h331F := Bool.eq_false_iff.2 h331
 refine zj (zk (zn (zs ?_)))
 refine zdl 8 ?_
 refine yU ?_
 obtain ⟨h332, h⟩ := ite_some h
 refine yK cln126 613 encRow l293 _ rfl ⟨by unfold maxLen; omega, by omega⟩ ?_
 have h333 := @take_cut PV
 obtain ⟨h334, h⟩ := ite_some h
 refine yU ?_
 refine ydlS ?_
 refine zM ⟨[(2, .p (.slc (List.map encRow l293))), (3, .func (.func 83) [.loc 469 1 0 0, .loc 470 1 0 0]), (4, .loc 578 1 0 0), (5, .loc 579 1 0 0), (27, .p (.slc (List.map encRow r23.1.Rows))), (28, .p (.int .i64 (r23.1.Rows.length : Int))), (29, .p (.int .i64 t324)), (36, .p (encTable r23.1)), (37, .p (encDenial r7.1)), (42, .p (.slc (List.map encRow (l293 ++ [x326])))), (43, .func (.func 83) [.loc 469 1 0 0, .loc 470 1 0 0])], [(11, .arr 2 1 1 [.p (.int .i64 x21.ID)]), (469, .arr 134 1 1 [.mapo 478 1]), (470, .arr 52 1 1 [.own 200470 3 0 f323.length]), (478, .map 1 (List.map AV.p (encK encArr3_int64 f322)) (List.map AV.p (encW PV.bool f322))), (492, .arr 41 3 1 [.p (encTable r23.1)]), (493, .arr 24 2 1 [.p (encDenial r7.1)]), (578, .arr 41 3 1 [.p (encTable r23.1)]), (579, .arr 24 2 1 [.p (encDenial r7.1)]), (200100, .arr 57 1 1 (List.map AV.p (List.map (encL (PV.int .i64)) b231))), (200470, .arr 57 1 3 (List.map AV.p (List.map (encL (PV.int .i64)) f323)))]⟩ ?_
 refine AL_inline (avs := [.p (encTable r23.1), .p (encDenial r7.1), .p (.slc (List.map encRow (l293 ++ [x326]))), .func (.func 83) [.loc 469 1 0 0, .loc 470 1 0 0]]) 660 rfl (guard_none rfl) rfl Tryz.func82 rfl Tryz.call82 Tryz.ntmps82 (by simp) (by simp only [go_sem, seval, h325T, h331F]; all_goals rfl) ?_
 intro i335 w336 h337
 obtain ⟨l338, h339, h⟩ := zB h
 replace h339 := Option.some.inj h339
 refine awp_le (st' := ⟨[(0, .p (encTable r23.1)), (1, .p (encDenial r7.1)), (2, .p (.slc (List.map encRow l338))), (3, .func (.func 83) [.loc 469 1 0 0, .loc 470 1 0 0])], [(11, .arr 2 1 1 [.p (.int .i64 x21.ID)]), (469, .arr 134 1 1 [.mapo 478 1]), (470, .arr 52 1 1 [.own 200470 3 0 f323.length]), (478, .map 1 (List.map AV.p (encK encArr3_int64 f322)) (List.map AV.p (encW PV.bool f322))), (492, .arr 41 3 1 [.p (encTable r23.1)]), (493, .arr 24 2 1 [.p (encDenial r7.1)]), (578, .arr 41 3 1 [.p (encTable r23.1)]), (579, .arr 24 2 1 [.p (encDenial r7.1)]), (200100, .arr 57 1 1 (List.map AV.p (List.map (encL (PV.int .i64)) b231))), (200470, .arr 57 1 3 (List.map AV.p (List.map (encL (PV.int .i64)) f323)))]⟩) (by simp only [go_sem, seval, h325T, h331F, ← h339]; all_goals ((repeat' refine And.intro ?_ ?_) <;> first | rfl | (simp; done) | (simp; rfl) | (simp [*]; done) | (simp [*]; rfl))) ?_
 clear h339
 refine zs (zr ?_)
 refine zU (zl (zn (zs (zs (zr ?_)))))
 refine zU (zl (zn ?_))
 rcases zI h with ⟨h340, h⟩ | ⟨h340, h⟩
 refine zi (zs (zr ?_))
 refine zU ?_
 obtain ⟨r341, h342, h⟩ := zB h
 refine zc (denial_satisfied_con l338 r7.1.Atoms _ h342) ?_
 refine zU ?_
 rcases zI h with ⟨h343, h⟩ | ⟨h343, h⟩
 refine zw 21 false ?_
 refine zg ?_
 refine zg ?_
 refine zM ⟨[(21, .p (.bool false)), (22, .func (.func 83) [.loc 469 1 0 0, .loc 470 1 0 0]), (23, .p (.slc (List.map encRow l338)))], [(11, .arr 2 1 1 [.p (.int .i64 x21.ID)]), (469, .arr 134 1 1 [.mapo 478 1]), (470, .arr 52 1 1 [.own 200470 3 0 f323.length]), (478, .map 1 (List.map AV.p (encK encArr3_int64 f322)) (List.map AV.p (encW PV.bool f322))), (492, .arr 41 3 1 [.p (encTable r23.1)]), (493, .arr 24 2 1 [.p (encDenial r7.1)]), (578, .arr 41 3 1 [.p (encTable r23.1)]), (579, .arr 24 2 1 [.p (encDenial r7.1)]), (200100, .arr 57 1 1 (List.map AV.p (List.map (encL (PV.int .i64)) b231))), (200470, .arr 57 1 3 (List.map AV.p (List.map (encL (PV.int .i64)) f323)))]⟩ ?_
 refine AL_inline (avs := [.p (.slc (List.map encRow l338)), .loc 469 1 0 0, .loc 470 1 0 0]) 707 rfl (guard_true' rfl rfl (by exact rfl) (by exact rfl)) rfl Tryz.func83 rfl Tryz.call83 Tryz.ntmps83 (by simp) (by simp only [go_sem, seval, h325T, h331F, h340, h343]; all_goals rfl) ?_
 intro i344 w345 h346
 show AWp _ _ _ ⟨[(0, .p (.slc (List.map encRow l338))), (1, .loc 469 1 0 0), (2, .loc 470 1 0 0)], [(11, .arr 2 1 1 [.p (.int .i64 x21.ID)]), (469, .arr 134 1 1 [.mapo 478 1]), (470, .arr 52 1 1 [.own 200470 3 0 f323.length]), (478, .map 1 (List.map AV.p (encK encArr3_int64 f322)) (List.map AV.p (encW PV.bool f322))), (492, .arr 41 3 1 [.p (encTable r23.1)]), (493, .arr 24 2 1 [.p (encDenial r7.1)]), (578, .arr 41 3 1 [.p (encTable r23.1)]), (579, .arr 24 2 1 [.p (encDenial r7.1)]), (200100, .arr 57 1 1 (List.map AV.p (List.map (encL (PV.int .i64)) b231))), (200470, .arr 57 1 3 (List.map AV.p (List.map (encL (PV.int .i64)) f323)))]⟩
 refine zs (zr ?_)
 refine zU (zl (zn (zs (zr ?_))))
 refine zU (zl (zn (zs (zs (zr ?_)))))
 refine zU (zl (zn (zb ?_)))
 obtain ⟨l347, h348, h⟩ := zB h
 refine zO (fun (s : List Int × Int) => ⟨[(1, .loc 469 1 0 0), (2, .loc 470 1 0 0), (5, .own 726 1 0 s.1.length), (9, .p (.slc (List.map encRow l338))), (10, .p (.int .i64 (l338.length : Int))), (11, .p (.int .i64 s.2))], [(11, .arr 2 1 1 [.p (.int .i64 x21.ID)]), (469, .arr 134 1 1 [.mapo 478 1]), (470, .arr 52 1 1 [.own 200470 3 0 f323.length]), (478, .map 1 (List.map AV.p (encK encArr3_int64 f322)) (List.map AV.p (encW PV.bool f322))), (492, .arr 41 3 1 [.p (encTable r23.1)]), (493, .arr 24 2 1 [.p (encDenial r7.1)]), (578, .arr 41 3 1 [.p (encTable r23.1)]), (579, .arr 24 2 1 [.p (encDenial r7.1)]), (726, .arr 2 1 1 (List.map AV.p (List.map (PV.int .i64) s.1))), (200100, .arr 57 1 1 (List.map AV.p (List.map (encL (PV.int .i64)) b231))), (200470, .arr 57 1 3 (List.map AV.p (List.map (encL (PV.int .i64)) f323)))]⟩) (fun (o349 : List Int) => tE ⟨Tryz.prog, 39, 707, X, [(11, .arr 2 1 1 [.p (.int .i64 x21.ID)]), (469, .arr 134 1 1 [.mapo 478 1]), (470, .arr 52 1 1 [.own 200470 3 0 f323.length]), (478, .map 1 (List.map AV.p (encK encArr3_int64 f322)) (List.map AV.p (encW PV.bool f322))), (492, .arr 41 3 1 [.p (encTable r23.1)]), (493, .arr 24 2 1 [.p (encDenial r7.1)]), (578, .arr 41 3 1 [.p (encTable r23.1)]), (579, .arr 24 2 1 [.p (encDenial r7.1)]), (200100, .arr 57 1 1 (List.map AV.p (List.map (encL (PV.int .i64)) b231))), (200470, .arr 57 1 3 (List.map AV.p (List.map (encL (PV.int .i64)) f323)))], i344, w345, False, h346⟩ (.exit 0) ⟨[(1, .loc 469 1 0 0), (2, .loc 470 1 0 0), (5, .own 726 1 0 o349.length)], [(11, .arr 2 1 1 [.p (.int .i64 x21.ID)]), (469, .arr 134 1 1 [.mapo 478 1]), (470, .arr 52 1 1 [.own 200470 3 0 f323.length]), (478, .map 1 (List.map AV.p (encK encArr3_int64 f322)) (List.map AV.p (encW PV.bool f322))), (492, .arr 41 3 1 [.p (encTable r23.1)]), (493, .arr 24 2 1 [.p (encDenial r7.1)]), (578, .arr 41 3 1 [.p (encTable r23.1)]), (579, .arr 24 2 1 [.p (encDenial r7.1)]), (726, .arr 2 1 1 (List.map AV.p (List.map (PV.int .i64) o349))), (200100, .arr 57 1 1 (List.map AV.p (List.map (encL (PV.int .i64)) b231))), (200470, .arr 57 1 3 (List.map AV.p (List.map (encL (PV.int .i64)) f323)))]⟩) h348 ?_ ?_
 clear h h325 h325T h327 h327a h327b h329 h331 h331F h332 h333 h334 h340 h342 h343 h348
 intro s x h
 obtain ⟨l350, t351⟩ := s
 simp only [drosslaw18_DenialFewer_l631] at h
 dsimp only
 refine zs (zr ?_)
 refine zU (zl (zn (zs ?_)))
 rcases zI h with ⟨h352, h⟩ | ⟨h352, h⟩
 refine zi (zk (zn (zs (zb (zs (zr ?_))))))
 obtain ⟨x353, h354, h354a, h354b, h⟩ := zX h
 refine zU (zl (zn (zr ?_)))
 obtain ⟨h355, h⟩ := ite_some h
 refine zU (zl (yn (zn (zr ?_))))
 refine zU (zl ?_)
 cases h
 exact ⟨rfl, zE⟩
 refine zj (zx (ze ?_))
 cases h
 exact ⟨rfl, zE⟩
 try simp only at h
 refine zA (yh (zn (zs (zr ?_))))
 refine zU ?_
 refine zM ⟨[(1, .loc 469 1 0 0), (2, .loc 470 1 0 0), (5, .own 726 1 0 l347.length), (21, .own 726 1 0 l347.length)], [(11, .arr 2 1 1 [.p (.int .i64 x21.ID)]), (469, .arr 134 1 1 [.mapo 478 1]), (470, .arr 52 1 1 [.own 200470 3 0 f323.length]), (478, .map 1 (List.map AV.p (encK encArr3_int64 f322)) (List.map AV.p (encW PV.bool f322))), (492, .arr 41 3 1 [.p (encTable r23.1)]), (493, .arr 24 2 1 [.p (encDenial r7.1)]), (578, .arr 41 3 1 [.p (encTable r23.1)]), (579, .arr 24 2 1 [.p (encDenial r7.1)]), (726, .arr 2 1 1 (List.map AV.p (List.map (PV.int .i64) l347))), (200100, .arr 57 1 1 (List.map AV.p (List.map (encL (PV.int .i64)) b231))), (200470, .arr 57 1 3 (List.map AV.p (List.map (encL (PV.int .i64)) f323)))]⟩ ?_
 obtain ⟨l356, h357, h⟩ := zB h
 refine zSI srt84 h357 ?_
 have h358 := srtIF_len h357
 refine zM ⟨[(1, .loc 469 1 0 0), (2, .loc 470 1 0 0), (5, .own 726 1 0 l356.length), (22, .p (.tup []))], [(11, .arr 2 1 1 [.p (.int .i64 x21.ID)]), (469, .arr 134 1 1 [.mapo 478 1]), (470, .arr 52 1 1 [.own 200470 3 0 f323.length]), (478, .map 1 (List.map AV.p (encK encArr3_int64 f322)) (List.map AV.p (encW PV.bool f322))), (492, .arr 41 3 1 [.p (encTable r23.1)]), (493, .arr 24 2 1 [.p (encDenial r7.1)]), (578, .arr 41 3 1 [.p (encTable r23.1)]), (579, .arr 24 2 1 [.p (encDenial r7.1)]), (726, .arr 2 1 1 (List.map AV.p (List.map (PV.int .i64) l356))), (200100, .arr 57 1 1 (List.map AV.p (List.map (encL (PV.int .i64)) b231))), (200470, .arr 57 1 3 (List.map AV.p (List.map (encL (PV.int .i64)) f323)))]⟩ ?_
 clear h358
 refine zl (zn (zs (zr ?_)))
 refine zU (zl (zn (zs (zr ?_))))
 refine zM ⟨[(1, .loc 469 1 0 0), (2, .loc 470 1 0 0), (5, .p (.slc (List.map (PV.int .i64) l356))), (8, .loc 715 1 0 0)], [(11, .arr 2 1 1 [.p (.int .i64 x21.ID)]), (469, .arr 134 1 1 [.mapo 478 1]), (470, .arr 52 1 1 [.own 200470 3 0 f323.length]), (478, .map 1 (List.map AV.p (encK encArr3_int64 f322)) (List.map AV.p (encW PV.bool f322))), (492, .arr 41 3 1 [.p (encTable r23.1)]), (493, .arr 24 2 1 [.p (encDenial r7.1)]), (578, .arr 41 3 1 [.p (encTable r23.1)]), (579, .arr 24 2 1 [.p (encDenial r7.1)]), (715, .arr 137 3 1 [.p (.agg [.int .i64 0, .int .i64 0, .int .i64 0])]), (200100, .arr 57 1 1 (List.map AV.p (List.map (encL (PV.int .i64)) b231))), (200470, .arr 57 1 3 (List.map AV.p (List.map (encL (PV.int .i64)) f323)))]⟩ ?_
 refine zCpa 715 0 0 0 l356 Tryz.underlying137 Tryz.underlying57 ?_
 refine zl (zn (zs (zs (zr ?_))))
 refine zU (zl (zn ?_))
 rcases zI h with ⟨h359, h⟩ | ⟨h359, h⟩
 refine zj (zk (zn (zs (zr ?_))))
 refine zU (zl (zn (zq ?_)))
 refine inlQ_ret (by simp only [Tryz.results83]; simp only [go_sem, seval, h325T, h331F, h340, h343, h359]; exact rfl) ?_
 refine zU (zl (zn (zq (zt ?_))))
 refine inlQ_ret (by simp only [Tryz.results82]; simp only [go_sem, seval, h325T, h331F, h340, h343, h359]; exact rfl) ?_
 refine zU (zl (zn ?_))
 rcases zI h with ⟨h360, h⟩ | ⟨h360, h⟩
 refine zj (zk (yn (zn (zr ?_))))
 refine zU (zl ?_)
 cases h
 exact ⟨rfl, zE⟩
 refine zi (zs (zr ?_))
 refine zU (zl (zn (zq (yr (zt ?_)))))
 cases h
 exact ⟨rfl, zE⟩
 have h359F := Bool.eq_false_iff.2 h359
 refine zi (zs (zr ?_))
 refine zU (zl (zn (zr ?_)))
 obtain ⟨h361, h⟩ := ite_some h
 refine zU (zl (zn (zs (zr ?_))))
 refine zU (zl (zn (zq ?_)))
 refine inlQ_ret (by simp only [Tryz.results83]; simp only [go_sem, seval, h325T, h331F, h340, h343, h359F]; exact rfl) ?_
 refine zU (zl (zn (zq (zt ?_))))
 refine inlQ_ret (by simp only [Tryz.results82]; simp only [go_sem, seval, h325T, h331F, h340, h343, h359F]; exact rfl) ?_
 refine zU (zl (zn ?_))
 rcases zI h with ⟨h362, h⟩ | ⟨h362, h⟩
 refine zj (zk (yn (zn (zr ?_))))
 refine zU (zl ?_)
 cases h
 exact ⟨rfl, zE⟩
 refine zi (zs (zr ?_))
 refine zU (zl (zn (zq (yr (zt ?_)))))
 cases h
 exact ⟨rfl, zE⟩
 have h343F := Bool.eq_false_iff.2 h343
 refine zw 21 true ?_
 refine zh ?_
 refine zU (zl (zn (zq (zt ?_))))
 refine inlQ_ret (by simp only [Tryz.results82]; simp only [go_sem, seval, h325T, h331F, h340, h343F]; exact rfl) ?_
 refine zU (zl (zn ?_))
 refine zj (zk (yn (zn (zr ?_))))
 refine zU (zl ?_)
 cases h
 exact ⟨rfl, zE⟩
 have h340F := Bool.eq_false_iff.2 h340
 refine zj (zk (zn (zs (zs (zr ?_)))))
 refine zU (zl (zn (zb ?_)))
 obtain ⟨o363, h364, h⟩ := zB h
 refine zO (fun (s : (List (Arr3_int64 × Bool)) × List (List Int) × Int) => ⟨[(2, .p (.slc (List.map encRow l338))), (3, .func (.func 83) [.loc 469 1 0 0, .loc 470 1 0 0]), (4, .loc 664 1 0 0), (5, .loc 665 1 0 0), (27, .p (.slc (List.map encRow r23.1.Rows))), (28, .p (.int .i64 (r23.1.Rows.length : Int))), (29, .p (.int .i64 s.2.2))], [(11, .arr 2 1 1 [.p (.int .i64 x21.ID)]), (469, .arr 134 1 1 [.mapo 478 1]), (470, .arr 52 1 1 [.own 200470 4 0 s.2.1.length]), (478, .map 1 (List.map AV.p (encK encArr3_int64 s.1)) (List.map AV.p (encW PV.bool s.1))), (492, .arr 41 3 1 [.p (encTable r23.1)]), (493, .arr 24 2 1 [.p (encDenial r7.1)]), (578, .arr 41 3 1 [.p (encTable r23.1)]), (579, .arr 24 2 1 [.p (encDenial r7.1)]), (664, .arr 41 3 1 [.p (encTable r23.1)]), (665, .arr 24 2 1 [.p (encDenial r7.1)]), (200100, .arr 57 1 1 (List.map AV.p (List.map (encL (PV.int .i64)) b231))), (200470, .arr 57 1 4 (List.map AV.p (List.map (encL (PV.int .i64)) s.2.1)))]⟩) (fun (o : ((List (Arr3_int64 × Bool)) × List (List Int)) ⊕ ((List (Arr3_int64 × Bool)) × List (List Int))) => match o with | .inl o365 => tE ⟨Tryz.prog, 47, 660, X, [(11, .arr 2 1 1 [.p (.int .i64 x21.ID)]), (469, .arr 134 1 1 [.mapo 478 1]), (470, .arr 52 1 1 [.own 200470 3 0 f323.length]), (478, .map 1 (List.map AV.p (encK encArr3_int64 f322)) (List.map AV.p (encW PV.bool f322))), (492, .arr 41 3 1 [.p (encTable r23.1)]), (493, .arr 24 2 1 [.p (encDenial r7.1)]), (578, .arr 41 3 1 [.p (encTable r23.1)]), (579, .arr 24 2 1 [.p (encDenial r7.1)]), (200100, .arr 57 1 1 (List.map AV.p (List.map (encL (PV.int .i64)) b231))), (200470, .arr 57 1 3 (List.map AV.p (List.map (encL (PV.int .i64)) f323)))], i335, w336, False, h337⟩ (.exit 0) ⟨[], [(11, .arr 2 1 1 [.p (.int .i64 x21.ID)]), (469, .arr 134 1 1 [.mapo 478 1]), (470, .arr 52 1 1 [.own 200470 4 0 o365.2.length]), (478, .map 1 (List.map AV.p (encK encArr3_int64 o365.1)) (List.map AV.p (encW PV.bool o365.1))), (492, .arr 41 3 1 [.p (encTable r23.1)]), (493, .arr 24 2 1 [.p (encDenial r7.1)]), (578, .arr 41 3 1 [.p (encTable r23.1)]), (579, .arr 24 2 1 [.p (encDenial r7.1)]), (200100, .arr 57 1 1 (List.map AV.p (List.map (encL (PV.int .i64)) b231))), (200470, .arr 57 1 4 (List.map AV.p (List.map (encL (PV.int .i64)) o365.2)))]⟩ | .inr o366 => tE ⟨Tryz.prog, 47, 660, X, [(11, .arr 2 1 1 [.p (.int .i64 x21.ID)]), (469, .arr 134 1 1 [.mapo 478 1]), (470, .arr 52 1 1 [.own 200470 3 0 f323.length]), (478, .map 1 (List.map AV.p (encK encArr3_int64 f322)) (List.map AV.p (encW PV.bool f322))), (492, .arr 41 3 1 [.p (encTable r23.1)]), (493, .arr 24 2 1 [.p (encDenial r7.1)]), (578, .arr 41 3 1 [.p (encTable r23.1)]), (579, .arr 24 2 1 [.p (encDenial r7.1)]), (200100, .arr 57 1 1 (List.map AV.p (List.map (encL (PV.int .i64)) b231))), (200470, .arr 57 1 3 (List.map AV.p (List.map (encL (PV.int .i64)) f323)))], i335, w336, False, h337⟩ .ret ⟨[(8, .p (.bool false))], [(11, .arr 2 1 1 [.p (.int .i64 x21.ID)]), (469, .arr 134 1 1 [.mapo 478 1]), (470, .arr 52 1 1 [.own 200470 4 0 o366.2.length]), (478, .map 1 (List.map AV.p (encK encArr3_int64 o366.1)) (List.map AV.p (encW PV.bool o366.1))), (492, .arr 41 3 1 [.p (encTable r23.1)]), (493, .arr 24 2 1 [.p (encDenial r7.1)]), (578, .arr 41 3 1 [.p (encTable r23.1)]), (579, .arr 24 2 1 [.p (encDenial r7.1)]), (200100, .arr 57 1 1 (List.map AV.p (List.map (encL (PV.int .i64)) b231))), (200470, .arr 57 1 4 (List.map AV.p (List.map (encL (PV.int .i64)) o366.2)))]⟩) h364 ?_ ?_
 clear h h325 h325T h327 h327a h327b h329 h331 h331F h332 h333 h334 h340 h340F h364
 intro s x h
 obtain ⟨f367, f368, t369⟩ := s
 simp only [drosslaw18_DenialFewer_l638] at h
 dsimp only
 refine zs (zr ?_)
 refine zU (zl (zn (zs ?_)))
 rcases zI h with ⟨h370, h⟩ | ⟨h370, h⟩
 have h370T := eq_true h370
 refine zi (zk (zn (zs (zb (zs (zr ?_))))))
 obtain ⟨x371, h372, h372a, h372b, h⟩ := zX h
 refine zU (zl (zn (zs (zs (zr ?_)))))
 refine zU ?_
 obtain ⟨r373, h374, h⟩ := zB h
 refine zc (slices_ContainsFunc_Row_con l338 (fun (y375 : Row) => denial_visit_1 y375 x371) 125 [.imm [.int .i64 x371.ID, .slc (List.map encValue x371.Values)]] (fun y375 r h => denial_visit_1_con y375 x371 r h) _ h374) ?_
 refine zl (zn ?_)
 rcases zI h with ⟨h376, h⟩ | ⟨h376, h⟩
 refine zi (zx (ze (yh (zn (zr ?_)))))
 refine zU (zl ?_)
 cases h
 exact ⟨rfl, zE⟩
 have h376F := Bool.eq_false_iff.2 h376
 refine zj (zk (zn (zs ?_)))
 refine zdl 8 ?_
 refine yU ?_
 obtain ⟨h377, h⟩ := ite_some h
 refine yK cln126 699 encRow l338 _ rfl ⟨by unfold maxLen; omega, by omega⟩ ?_
 have h378 := @take_cut PV
 obtain ⟨h379, h⟩ := ite_some h
 refine yU ?_
 refine ydlS ?_
 refine zM ⟨[(2, .p (.slc (List.map encRow l338))), (3, .func (.func 83) [.loc 469 1 0 0, .loc 470 1 0 0]), (4, .loc 664 1 0 0), (5, .loc 665 1 0 0), (27, .p (.slc (List.map encRow r23.1.Rows))), (28, .p (.int .i64 (r23.1.Rows.length : Int))), (29, .p (.int .i64 t369)), (36, .p (encTable r23.1)), (37, .p (encDenial r7.1)), (42, .p (.slc (List.map encRow (l338 ++ [x371])))), (43, .func (.func 83) [.loc 469 1 0 0, .loc 470 1 0 0])], [(11, .arr 2 1 1 [.p (.int .i64 x21.ID)]), (469, .arr 134 1 1 [.mapo 478 1]), (470, .arr 52 1 1 [.own 200470 4 0 f368.length]), (478, .map 1 (List.map AV.p (encK encArr3_int64 f367)) (List.map AV.p (encW PV.bool f367))), (492, .arr 41 3 1 [.p (encTable r23.1)]), (493, .arr 24 2 1 [.p (encDenial r7.1)]), (578, .arr 41 3 1 [.p (encTable r23.1)]), (579, .arr 24 2 1 [.p (encDenial r7.1)]), (664, .arr 41 3 1 [.p (encTable r23.1)]), (665, .arr 24 2 1 [.p (encDenial r7.1)]), (200100, .arr 57 1 1 (List.map AV.p (List.map (encL (PV.int .i64)) b231))), (200470, .arr 57 1 4 (List.map AV.p (List.map (encL (PV.int .i64)) f368)))]⟩ ?_
 refine AL_inline (avs := [.p (encTable r23.1), .p (encDenial r7.1), .p (.slc (List.map encRow (l338 ++ [x371]))), .func (.func 83) [.loc 469 1 0 0, .loc 470 1 0 0]]) 746 rfl (guard_none rfl) rfl Tryz.func82 rfl Tryz.call82 Tryz.ntmps82 (by simp) (by simp only [go_sem, seval, h370T, h376F]; all_goals rfl) ?_
 intro i380 w381 h382
 obtain ⟨l383, h384, h⟩ := zB h
 replace h384 := Option.some.inj h384
 refine awp_le (st' := ⟨[(0, .p (encTable r23.1)), (1, .p (encDenial r7.1)), (2, .p (.slc (List.map encRow l383))), (3, .func (.func 83) [.loc 469 1 0 0, .loc 470 1 0 0])], [(11, .arr 2 1 1 [.p (.int .i64 x21.ID)]), (469, .arr 134 1 1 [.mapo 478 1]), (470, .arr 52 1 1 [.own 200470 4 0 f368.length]), (478, .map 1 (List.map AV.p (encK encArr3_int64 f367)) (List.map AV.p (encW PV.bool f367))), (492, .arr 41 3 1 [.p (encTable r23.1)]), (493, .arr 24 2 1 [.p (encDenial r7.1)]), (578, .arr 41 3 1 [.p (encTable r23.1)]), (579, .arr 24 2 1 [.p (encDenial r7.1)]), (664, .arr 41 3 1 [.p (encTable r23.1)]), (665, .arr 24 2 1 [.p (encDenial r7.1)]), (200100, .arr 57 1 1 (List.map AV.p (List.map (encL (PV.int .i64)) b231))), (200470, .arr 57 1 4 (List.map AV.p (List.map (encL (PV.int .i64)) f368)))]⟩) (by simp only [go_sem, seval, h370T, h376F, ← h384]; all_goals ((repeat' refine And.intro ?_ ?_) <;> first | rfl | (simp; done) | (simp; rfl) | (simp [*]; done) | (simp [*]; rfl))) ?_
 clear h384
 refine zs (zr ?_)
 refine zU (zl (zn (zs (zs (zr ?_)))))
 refine zU (zl (zn ?_))
 rcases zI h with ⟨h385, h⟩ | ⟨h385, h⟩
 refine zi (zs (zr ?_))
 refine zU ?_
 obtain ⟨r386, h387, h⟩ := zB h
 refine zc (denial_satisfied_con l383 r7.1.Atoms _ h387) ?_
 refine zU ?_
 rcases zI h with ⟨h388, h⟩ | ⟨h388, h⟩
 refine zw 21 false ?_
 refine zg ?_
 refine zg ?_
 refine zM ⟨[(21, .p (.bool false)), (22, .func (.func 83) [.loc 469 1 0 0, .loc 470 1 0 0]), (23, .p (.slc (List.map encRow l383)))], [(11, .arr 2 1 1 [.p (.int .i64 x21.ID)]), (469, .arr 134 1 1 [.mapo 478 1]), (470, .arr 52 1 1 [.own 200470 4 0 f368.length]), (478, .map 1 (List.map AV.p (encK encArr3_int64 f367)) (List.map AV.p (encW PV.bool f367))), (492, .arr 41 3 1 [.p (encTable r23.1)]), (493, .arr 24 2 1 [.p (encDenial r7.1)]), (578, .arr 41 3 1 [.p (encTable r23.1)]), (579, .arr 24 2 1 [.p (encDenial r7.1)]), (664, .arr 41 3 1 [.p (encTable r23.1)]), (665, .arr 24 2 1 [.p (encDenial r7.1)]), (200100, .arr 57 1 1 (List.map AV.p (List.map (encL (PV.int .i64)) b231))), (200470, .arr 57 1 4 (List.map AV.p (List.map (encL (PV.int .i64)) f368)))]⟩ ?_
 refine AL_inline (avs := [.p (.slc (List.map encRow l383)), .loc 469 1 0 0, .loc 470 1 0 0]) 793 rfl (guard_true' rfl rfl (by exact rfl) (by exact rfl)) rfl Tryz.func83 rfl Tryz.call83 Tryz.ntmps83 (by simp) (by simp only [go_sem, seval, h370T, h376F, h385, h388]; all_goals rfl) ?_
 intro i389 w390 h391
 show AWp _ _ _ ⟨[(0, .p (.slc (List.map encRow l383))), (1, .loc 469 1 0 0), (2, .loc 470 1 0 0)], [(11, .arr 2 1 1 [.p (.int .i64 x21.ID)]), (469, .arr 134 1 1 [.mapo 478 1]), (470, .arr 52 1 1 [.own 200470 4 0 f368.length]), (478, .map 1 (List.map AV.p (encK encArr3_int64 f367)) (List.map AV.p (encW PV.bool f367))), (492, .arr 41 3 1 [.p (encTable r23.1)]), (493, .arr 24 2 1 [.p (encDenial r7.1)]), (578, .arr 41 3 1 [.p (encTable r23.1)]), (579, .arr 24 2 1 [.p (encDenial r7.1)]), (664, .arr 41 3 1 [.p (encTable r23.1)]), (665, .arr 24 2 1 [.p (encDenial r7.1)]), (200100, .arr 57 1 1 (List.map AV.p (List.map (encL (PV.int .i64)) b231))), (200470, .arr 57 1 4 (List.map AV.p (List.map (encL (PV.int .i64)) f368)))]⟩
 refine zs (zr ?_)
 refine zU (zl (zn (zs (zr ?_))))
 refine zU (zl (zn (zs (zs (zr ?_)))))
 refine zU (zl (zn (zb ?_)))
 obtain ⟨l392, h393, h⟩ := zB h
 refine zO (fun (s : List Int × Int) => ⟨[(1, .loc 469 1 0 0), (2, .loc 470 1 0 0), (5, .own 812 1 0 s.1.length), (9, .p (.slc (List.map encRow l383))), (10, .p (.int .i64 (l383.length : Int))), (11, .p (.int .i64 s.2))], [(11, .arr 2 1 1 [.p (.int .i64 x21.ID)]), (469, .arr 134 1 1 [.mapo 478 1]), (470, .arr 52 1 1 [.own 200470 4 0 f368.length]), (478, .map 1 (List.map AV.p (encK encArr3_int64 f367)) (List.map AV.p (encW PV.bool f367))), (492, .arr 41 3 1 [.p (encTable r23.1)]), (493, .arr 24 2 1 [.p (encDenial r7.1)]), (578, .arr 41 3 1 [.p (encTable r23.1)]), (579, .arr 24 2 1 [.p (encDenial r7.1)]), (664, .arr 41 3 1 [.p (encTable r23.1)]), (665, .arr 24 2 1 [.p (encDenial r7.1)]), (812, .arr 2 1 1 (List.map AV.p (List.map (PV.int .i64) s.1))), (200100, .arr 57 1 1 (List.map AV.p (List.map (encL (PV.int .i64)) b231))), (200470, .arr 57 1 4 (List.map AV.p (List.map (encL (PV.int .i64)) f368)))]⟩) (fun (o394 : List Int) => tE ⟨Tryz.prog, 39, 793, X, [(11, .arr 2 1 1 [.p (.int .i64 x21.ID)]), (469, .arr 134 1 1 [.mapo 478 1]), (470, .arr 52 1 1 [.own 200470 4 0 f368.length]), (478, .map 1 (List.map AV.p (encK encArr3_int64 f367)) (List.map AV.p (encW PV.bool f367))), (492, .arr 41 3 1 [.p (encTable r23.1)]), (493, .arr 24 2 1 [.p (encDenial r7.1)]), (578, .arr 41 3 1 [.p (encTable r23.1)]), (579, .arr 24 2 1 [.p (encDenial r7.1)]), (664, .arr 41 3 1 [.p (encTable r23.1)]), (665, .arr 24 2 1 [.p (encDenial r7.1)]), (200100, .arr 57 1 1 (List.map AV.p (List.map (encL (PV.int .i64)) b231))), (200470, .arr 57 1 4 (List.map AV.p (List.map (encL (PV.int .i64)) f368)))], i389, w390, False, h391⟩ (.exit 0) ⟨[(1, .loc 469 1 0 0), (2, .loc 470 1 0 0), (5, .own 812 1 0 o394.length)], [(11, .arr 2 1 1 [.p (.int .i64 x21.ID)]), (469, .arr 134 1 1 [.mapo 478 1]), (470, .arr 52 1 1 [.own 200470 4 0 f368.length]), (478, .map 1 (List.map AV.p (encK encArr3_int64 f367)) (List.map AV.p (encW PV.bool f367))), (492, .arr 41 3 1 [.p (encTable r23.1)]), (493, .arr 24 2 1 [.p (encDenial r7.1)]), (578, .arr 41 3 1 [.p (encTable r23.1)]), (579, .arr 24 2 1 [.p (encDenial r7.1)]), (664, .arr 41 3 1 [.p (encTable r23.1)]), (665, .arr 24 2 1 [.p (encDenial r7.1)]), (812, .arr 2 1 1 (List.map AV.p (List.map (PV.int .i64) o394))), (200100, .arr 57 1 1 (List.map AV.p (List.map (encL (PV.int .i64)) b231))), (200470, .arr 57 1 4 (List.map AV.p (List.map (encL (PV.int .i64)) f368)))]⟩) h393 ?_ ?_
 clear h h370 h370T h372 h372a h372b h374 h376 h376F h377 h378 h379 h385 h387 h388 h393
 intro s x h
 obtain ⟨l395, t396⟩ := s
 simp only [drosslaw18_DenialFewer_l636] at h
 dsimp only
 refine zs (zr ?_)
 refine zU (zl (zn (zs ?_)))
 rcases zI h with ⟨h397, h⟩ | ⟨h397, h⟩
 refine zi (zk (zn (zs (zb (zs (zr ?_))))))
 obtain ⟨x398, h399, h399a, h399b, h⟩ := zX h
 refine zU (zl (zn (zr ?_)))
 obtain ⟨h400, h⟩ := ite_some h
 refine zU (zl (yn (zn (zr ?_))))
 refine zU (zl ?_)
 cases h
 exact ⟨rfl, zE⟩
 refine zj (zx (ze ?_))
 cases h
 exact ⟨rfl, zE⟩
 try simp only at h
 refine zA (yh (zn (zs (zr ?_))))
 refine zU ?_
 refine zM ⟨[(1, .loc 469 1 0 0), (2, .loc 470 1 0 0), (5, .own 812 1 0 l392.length), (21, .own 812 1 0 l392.length)], [(11, .arr 2 1 1 [.p (.int .i64 x21.ID)]), (469, .arr 134 1 1 [.mapo 478 1]), (470, .arr 52 1 1 [.own 200470 4 0 f368.length]), (478, .map 1 (List.map AV.p (encK encArr3_int64 f367)) (List.map AV.p (encW PV.bool f367))), (492, .arr 41 3 1 [.p (encTable r23.1)]), (493, .arr 24 2 1 [.p (encDenial r7.1)]), (578, .arr 41 3 1 [.p (encTable r23.1)]), (579, .arr 24 2 1 [.p (encDenial r7.1)]), (664, .arr 41 3 1 [.p (encTable r23.1)]), (665, .arr 24 2 1 [.p (encDenial r7.1)]), (812, .arr 2 1 1 (List.map AV.p (List.map (PV.int .i64) l392))), (200100, .arr 57 1 1 (List.map AV.p (List.map (encL (PV.int .i64)) b231))), (200470, .arr 57 1 4 (List.map AV.p (List.map (encL (PV.int .i64)) f368)))]⟩ ?_
 obtain ⟨l401, h402, h⟩ := zB h
 refine zSI srt84 h402 ?_
 have h403 := srtIF_len h402
 refine zM ⟨[(1, .loc 469 1 0 0), (2, .loc 470 1 0 0), (5, .own 812 1 0 l401.length), (22, .p (.tup []))], [(11, .arr 2 1 1 [.p (.int .i64 x21.ID)]), (469, .arr 134 1 1 [.mapo 478 1]), (470, .arr 52 1 1 [.own 200470 4 0 f368.length]), (478, .map 1 (List.map AV.p (encK encArr3_int64 f367)) (List.map AV.p (encW PV.bool f367))), (492, .arr 41 3 1 [.p (encTable r23.1)]), (493, .arr 24 2 1 [.p (encDenial r7.1)]), (578, .arr 41 3 1 [.p (encTable r23.1)]), (579, .arr 24 2 1 [.p (encDenial r7.1)]), (664, .arr 41 3 1 [.p (encTable r23.1)]), (665, .arr 24 2 1 [.p (encDenial r7.1)]), (812, .arr 2 1 1 (List.map AV.p (List.map (PV.int .i64) l401))), (200100, .arr 57 1 1 (List.map AV.p (List.map (encL (PV.int .i64)) b231))), (200470, .arr 57 1 4 (List.map AV.p (List.map (encL (PV.int .i64)) f368)))]⟩ ?_
 clear h403
 refine zl (zn (zs (zr ?_)))
 refine zU (zl (zn (zs (zr ?_))))
 refine zM ⟨[(1, .loc 469 1 0 0), (2, .loc 470 1 0 0), (5, .p (.slc (List.map (PV.int .i64) l401))), (8, .loc 801 1 0 0)], [(11, .arr 2 1 1 [.p (.int .i64 x21.ID)]), (469, .arr 134 1 1 [.mapo 478 1]), (470, .arr 52 1 1 [.own 200470 4 0 f368.length]), (478, .map 1 (List.map AV.p (encK encArr3_int64 f367)) (List.map AV.p (encW PV.bool f367))), (492, .arr 41 3 1 [.p (encTable r23.1)]), (493, .arr 24 2 1 [.p (encDenial r7.1)]), (578, .arr 41 3 1 [.p (encTable r23.1)]), (579, .arr 24 2 1 [.p (encDenial r7.1)]), (664, .arr 41 3 1 [.p (encTable r23.1)]), (665, .arr 24 2 1 [.p (encDenial r7.1)]), (801, .arr 137 3 1 [.p (.agg [.int .i64 0, .int .i64 0, .int .i64 0])]), (200100, .arr 57 1 1 (List.map AV.p (List.map (encL (PV.int .i64)) b231))), (200470, .arr 57 1 4 (List.map AV.p (List.map (encL (PV.int .i64)) f368)))]⟩ ?_
 refine zCpa 801 0 0 0 l401 Tryz.underlying137 Tryz.underlying57 ?_
 refine zl (zn (zs (zs (zr ?_))))
 refine zU (zl (zn ?_))
 rcases zI h with ⟨h404, h⟩ | ⟨h404, h⟩
 refine zj (zk (zn (zs (zr ?_))))
 refine zU (zl (zn (zq ?_)))
 refine inlQ_ret (by simp only [Tryz.results83]; simp only [go_sem, seval, h370T, h376F, h385, h388, h404]; exact rfl) ?_
 refine zU (zl (zn (zq (zt ?_))))
 refine inlQ_ret (by simp only [Tryz.results82]; simp only [go_sem, seval, h370T, h376F, h385, h388, h404]; exact rfl) ?_
 refine zU (zl (zn ?_))
 rcases zI h with ⟨h405, h⟩ | ⟨h405, h⟩
 refine zj (zk (yn (zn (zr ?_))))
 refine zU (zl ?_)
 cases h
 exact ⟨rfl, zE⟩
 refine zi (zs (zr ?_))
 refine zU (zl (zn (zq (yr (zt ?_)))))
 cases h
 exact ⟨rfl, zE⟩
 have h404F := Bool.eq_false_iff.2 h404
 refine zi (zs (zr ?_))
 refine zU (zl (zn (zr ?_)))
 obtain ⟨h406, h⟩ := ite_some h
 refine zU (zl (zn (zs (zr ?_))))
 refine zU (zl (zn (zq ?_)))
 refine inlQ_ret (by simp only [Tryz.results83]; simp only [go_sem, seval, h370T, h376F, h385, h388, h404F]; exact rfl) ?_
 refine zU (zl (zn (zq (zt ?_))))
 refine inlQ_ret (by simp only [Tryz.results82]; simp only [go_sem, seval, h370T, h376F, h385, h388, h404F]; exact rfl) ?_
 refine zU (zl (zn ?_))
 rcases zI h with ⟨h407, h⟩ | ⟨h407, h⟩
 refine zj (zk (yn (zn (zr ?_))))
 refine zU (zl ?_)
 cases h
 exact ⟨rfl, zE⟩
 refine zi (zs (zr ?_))
 refine zU (zl (zn (zq (yr (zt ?_)))))
 cases h
 exact ⟨rfl, zE⟩
 have h388F := Bool.eq_false_iff.2 h388
 refine zw 21 true ?_
 refine zh ?_
 refine zU (zl (zn (zq (zt ?_))))
 refine inlQ_ret (by simp only [Tryz.results82]; simp only [go_sem, seval, h370T, h376F, h385, h388F]; exact rfl) ?_
 refine zU (zl (zn ?_))
 refine zj (zk (yn (zn (zr ?_))))
 refine zU (zl ?_)
 cases h
 exact ⟨rfl, zE⟩
 have h385F := Bool.eq_false_iff.2 h385
 refine zj (zk (zn (zs (zs (zr ?_)))))
 refine zU (zl (zn (zb ?_)))
 obtain ⟨o408, h409, h⟩ := zB h
 refine zO (fun (s : Int) => ⟨[(2, .p (.slc (List.map encRow l383))), (3, .func (.func 83) [.loc 469 1 0 0, .loc 470 1 0 0]), (4, .loc 750 1 0 0), (5, .loc 751 1 0 0), (27, .p (.slc (List.map encRow r23.1.Rows))), (28, .p (.int .i64 (r23.1.Rows.length : Int))), (29, .p (.int .i64 s))], [(11, .arr 2 1 1 [.p (.int .i64 x21.ID)]), (469, .arr 134 1 1 [.mapo 478 1]), (470, .arr 52 1 1 [.own 200470 4 0 f368.length]), (478, .map 1 (List.map AV.p (encK encArr3_int64 f367)) (List.map AV.p (encW PV.bool f367))), (492, .arr 41 3 1 [.p (encTable r23.1)]), (493, .arr 24 2 1 [.p (encDenial r7.1)]), (578, .arr 41 3 1 [.p (encTable r23.1)]), (579, .arr 24 2 1 [.p (encDenial r7.1)]), (664, .arr 41 3 1 [.p (encTable r23.1)]), (665, .arr 24 2 1 [.p (encDenial r7.1)]), (750, .arr 41 3 1 [.p (encTable r23.1)]), (751, .arr 24 2 1 [.p (encDenial r7.1)]), (200100, .arr 57 1 1 (List.map AV.p (List.map (encL (PV.int .i64)) b231))), (200470, .arr 57 1 4 (List.map AV.p (List.map (encL (PV.int .i64)) f368)))]⟩) (fun (o410 : Unit) => tE ⟨Tryz.prog, 47, 746, X, [(11, .arr 2 1 1 [.p (.int .i64 x21.ID)]), (469, .arr 134 1 1 [.mapo 478 1]), (470, .arr 52 1 1 [.own 200470 4 0 f368.length]), (478, .map 1 (List.map AV.p (encK encArr3_int64 f367)) (List.map AV.p (encW PV.bool f367))), (492, .arr 41 3 1 [.p (encTable r23.1)]), (493, .arr 24 2 1 [.p (encDenial r7.1)]), (578, .arr 41 3 1 [.p (encTable r23.1)]), (579, .arr 24 2 1 [.p (encDenial r7.1)]), (664, .arr 41 3 1 [.p (encTable r23.1)]), (665, .arr 24 2 1 [.p (encDenial r7.1)]), (200100, .arr 57 1 1 (List.map AV.p (List.map (encL (PV.int .i64)) b231))), (200470, .arr 57 1 4 (List.map AV.p (List.map (encL (PV.int .i64)) f368)))], i380, w381, False, h382⟩ (.exit 0) ⟨[], [(11, .arr 2 1 1 [.p (.int .i64 x21.ID)]), (469, .arr 134 1 1 [.mapo 478 1]), (470, .arr 52 1 1 [.own 200470 4 0 f368.length]), (478, .map 1 (List.map AV.p (encK encArr3_int64 f367)) (List.map AV.p (encW PV.bool f367))), (492, .arr 41 3 1 [.p (encTable r23.1)]), (493, .arr 24 2 1 [.p (encDenial r7.1)]), (578, .arr 41 3 1 [.p (encTable r23.1)]), (579, .arr 24 2 1 [.p (encDenial r7.1)]), (664, .arr 41 3 1 [.p (encTable r23.1)]), (665, .arr 24 2 1 [.p (encDenial r7.1)]), (200100, .arr 57 1 1 (List.map AV.p (List.map (encL (PV.int .i64)) b231))), (200470, .arr 57 1 4 (List.map AV.p (List.map (encL (PV.int .i64)) f368)))]⟩) h409 ?_ ?_
 clear h h370 h370T h372 h372a h372b h374 h376 h376F h377 h378 h379 h385 h385F h409
 intro t411 x h
 simp only [drosslaw18_DenialFewer_l637] at h
 refine zs (zr ?_)
 refine zU (zl (zn (zs ?_)))
 rcases zI h with ⟨h412, h⟩ | ⟨h412, h⟩
 refine zi (zk (zn (zs (zb (zs (zr ?_))))))
 obtain ⟨x413, h414, h414a, h414b, h⟩ := zX h
 refine zU (zl (zn (zs (zs (zr ?_)))))
 refine zU ?_
 obtain ⟨r415, h416, h⟩ := zB h
 refine zc (slices_ContainsFunc_Row_con l383 (fun (y417 : Row) => denial_visit_1 y417 x413) 125 [.imm [.int .i64 x413.ID, .slc (List.map encValue x413.Values)]] (fun y417 r h => denial_visit_1_con y417 x413 r h) _ h416) ?_
 refine zl (zn ?_)
 rcases zI h with ⟨h418, h⟩ | ⟨h418, h⟩
 refine zi (zx (ze (yh (zn (zr ?_)))))
 refine zU (zl ?_)
 cases h
 exact ⟨rfl, zE⟩
 cases h
 refine zj (zx (ze ?_))
 cases h
 exact ⟨rfl, zE⟩
 cases o408
 try simp only at h
 refine zA (yh (zn (zs (zr ?_))))
 refine zU (zl (zn (zq ?_)))
 refine inlQ_ret (by simp only [Tryz.results82]; simp only [go_sem, seval, h370T, h376F, h385F]; exact rfl) ?_
 refine zU (zl (zn ?_))
 refine zj (zk (yn (zn (zr ?_))))
 refine zU (zl ?_)
 cases h
 exact ⟨rfl, zE⟩
 have h370T := eq_false h370
 refine zj (zx (ze ?_))
 cases h
 exact ⟨rfl, zE⟩
 rcases o363 with ⟨b419, b420⟩ | ⟨b421, b422⟩
 try simp only at h
 refine zA (yh (zn (zs (zr ?_))))
 refine zU (zl (zn (zq ?_)))
 refine inlQ_ret (by simp only [Tryz.results82]; simp only [go_sem, seval, h325T, h331F, h340F]; exact rfl) ?_
 refine zU (zl (zn ?_))
 refine zj (zk (yn (zn (zr ?_))))
 refine zU (zl ?_)
 cases h
 exact ⟨rfl, zE⟩
 try simp only at h
 refine zA (yr (zt ?_))
 refine inlQ_ret (by simp only [Tryz.results82]; simp only [go_sem, seval, h325T, h331F, h340F]; exact rfl) ?_
 refine zU (zl (zn ?_))
 refine zi (zs (zr ?_))
 refine zU (zl (zn (zq (yr (zt ?_)))))
 cases h
 exact ⟨rfl, zE⟩
 have h325T := eq_false h325
 refine zj (zx (ze ?_))
 cases h
 exact ⟨rfl, zE⟩
 rcases o318 with ⟨b423, b424⟩ | ⟨b425, b426⟩
 try simp only at h
 refine zA (yh (zn (zs (zr ?_))))
 refine zU (zl (zn (zq ?_)))
 refine inlQ_ret (by simp only [Tryz.results82]; simp only [go_sem, seval, h280T, h286F, h295F]; exact rfl) ?_
 refine zU (zl (zn ?_))
 refine zj (zk (yn (zn (zr ?_))))
 refine zU (zl ?_)
 cases h
 exact ⟨rfl, zE⟩
 try simp only at h
 refine zA (yr (zt ?_))
 refine inlQ_ret (by simp only [Tryz.results82]; simp only [go_sem, seval, h280T, h286F, h295F]; exact rfl) ?_
 refine zU (zl (zn ?_))
 refine zi (zs (zr ?_))
 refine zU (zl (zn (zq (yr (zt ?_)))))
 cases h
 exact ⟨rfl, zE⟩
 have h280T := eq_false h280
 refine zj (zx (ze ?_))
 cases h
 exact ⟨rfl, zE⟩
 rcases o273 with ⟨b427, b428⟩ | ⟨b429, b430⟩
 try simp only at h
 refine zA (yh (zn (zs (zr ?_))))
 refine zU (zl (zn (zq ?_)))
 refine inlQ_ret (by simp only [Tryz.results82]; simp only [go_sem, seval, h17F, h241F, h252F]; exact rfl) ?_
 refine zU (zl ?_)
 cases h
 exact ⟨rfl, zE⟩
 try simp only at h
 refine zA (yr (zt ?_))
 refine inlQ_ret (by simp only [Tryz.results82]; simp only [go_sem, seval, h17F, h241F, h252F]; exact rfl) ?_
 refine zU (zl ?_)
 cases h
 exact ⟨rfl, zE⟩
 obtain ⟨o431, a432⟩ := o242
 try simp only at h
 refine zA (zn (zs (zs (zr ?_))))
 refine zU (zl (zn ?_))
 rcases zI h with ⟨h433, h⟩ | ⟨h433, h⟩
 refine zj (zk (zn (zs (zr ?_))))
 refine zU ?_
 refine zM ⟨[(8, .loc 470 1 0 0), (23, .own 200470 1 0 o431.length)], [(11, .arr 2 1 1 [.p (.int .i64 x21.ID)]), (470, .arr 52 1 1 [.own 200470 1 0 o431.length]), (200100, .arr 57 1 1 (List.map AV.p (List.map (encL (PV.int .i64)) b231))), (200470, .arr 57 1 1 (List.map AV.p (List.map (encL (PV.int .i64)) o431)))]⟩ ?_
 obtain ⟨l434, h435, h⟩ := zB h
 refine zSF srt85 (encL (PV.int .i64)) (fun (y436 : List Int) (y437 : List Int) => slices_Compare_int64 y436 y437) h435 (fun y436 y437 r h => slices_Compare_int64_con y436 y437 r h) ?_
 have h438 := srtF_len h435
 refine zM ⟨[(8, .loc 470 1 0 0), (24, .p (.tup []))], [(11, .arr 2 1 1 [.p (.int .i64 x21.ID)]), (470, .arr 52 1 1 [.own 200470 1 0 l434.length]), (200100, .arr 57 1 1 (List.map AV.p (List.map (encL (PV.int .i64)) b231))), (200470, .arr 57 1 1 (List.map AV.p (List.map (encL (PV.int .i64)) l434)))]⟩ ?_
 clear h438
 refine zl (zn (zs (zr ?_)))
 refine zU (zl (zn (zq ?_)))
 refine inlQ_ret (by simp only [Tryz.results29]; simp only [go_sem, seval, h17F, h241F, h433]; exact rfl) ?_
 refine zU (zl ?_)
 cases h
 exact ⟨rfl, zE⟩
 have h433F := Bool.eq_false_iff.2 h433
 refine zi (zs (zr ?_))
 refine zU (zl (zn (zq (zt ?_))))
 refine inlQ_ret (by simp only [Tryz.results29]; simp only [go_sem, seval, h17F, h241F, h433F]; exact rfl) ?_
 refine zMt ⟨[(11, .loc 11 1 0 0), (14, .own 200100 1 0 b231.length), (15, .p (.int .i64 e232)), (75, .tup [.nils, .p (.int .i64 3)])], [(11, .arr 2 1 1 [.p (.int .i64 x21.ID)]), (200100, .arr 57 1 1 (List.map AV.p (List.map (encL (PV.int .i64)) b231)))]⟩ ?_
 refine zU (zl ?_)
 cases h
 exact ⟨rfl, zE⟩
 obtain ⟨a439, f440⟩ := o233
 try simp only at h
 refine zA (zn ?_)
 obtain ⟨w441, h442, h⟩ := zB h
 refine zJ (fun (o443 : List (List Int)) => tE (cX Tryz.f9 X w False hT) .normal ⟨[(15, .p (.int .i64 e232)), (16, .own 200470 1 0 a439.length), (17, .p (.int .i64 f440)), (18, .own 200100 1 0 o443.length)], [(200100, .arr 57 1 1 (List.map AV.p (List.map (encL (PV.int .i64)) o443))), (200470, .arr 57 1 1 (List.map AV.p (List.map (encL (PV.int .i64)) a439)))]⟩) w441 ?_ ?_
 replace h := h442
 clear h442
 refine zr ?_
 refine zU ?_
 refine zM ⟨[(15, .p (.int .i64 e232)), (16, .own 200470 1 0 a439.length), (17, .p (.int .i64 f440)), (78, .own 200100 1 0 b231.length), (79, .func (.func 40) [.loc 11 1 0 0])], [(11, .arr 2 1 1 [.p (.int .i64 x21.ID)]), (200100, .arr 57 1 1 (List.map AV.p (List.map (encL (PV.int .i64)) b231))), (200470, .arr 57 1 1 (List.map AV.p (List.map (encL (PV.int .i64)) a439)))]⟩ ?_
 refine AL_inline (avs := [.own 200100 1 0 b231.length, .func (.func 40) [.loc 11 1 0 0]]) 832 rfl (guard_none rfl) rfl Tryz.func39 rfl Tryz.call39 Tryz.ntmps39 (by simp) (by simp only [go_sem, seval, h17F]; all_goals rfl) ?_
 intro i444 w445 h446
 show AWp _ _ _ ⟨[(0, .own 200100 1 0 b231.length), (1, .func (.func 40) [.loc 11 1 0 0])], [(11, .arr 2 1 1 [.p (.int .i64 x21.ID)]), (200100, .arr 57 1 1 (List.map AV.p (List.map (encL (PV.int .i64)) b231))), (200470, .arr 57 1 1 (List.map AV.p (List.map (encL (PV.int .i64)) a439)))]⟩
 refine zs (zr ?_)
 refine zU (zl (zn (zs (zr ?_))))
 refine zU ?_
 obtain ⟨r447, h448, h⟩ := zB h
 refine zc (slices_IndexFunc_Lint64_con b231 (fun (y449 : List Int) => drosslaw18_DenialFewer_1 y449 x21.ID) 40 [.imm [.int .i64 x21.ID]] (fun y449 r h => drosslaw18_DenialFewer_1_con y449 x21.ID r h) _ h448) ?_
 refine zU (zl (zn (zs (zs (zr ?_)))))
 refine zU (zl (zn ?_))
 rcases zI h with ⟨h450, h⟩ | ⟨h450, h⟩
 refine zi (zs (zr ?_))
 refine zU (zl (zn (zq (zt ?_))))
 refine inlQ_ret (by simp only [Tryz.results39]; simp only [go_sem, seval, h17F, h450]; exact rfl) ?_
 refine zU (zl ?_)
 cases h
 exact ⟨rfl, zE⟩
 have h450F := Bool.eq_false_iff.2 h450
 refine zj (zk (zn (zs (zs (zr ?_)))))
 refine zU (zl (zn (zb ?_)))
 obtain ⟨o451, h452, h⟩ := zB h
 refine zO (fun (s : List (List Int) × Int × Int) => ⟨[(0, .own 200100 1 0 s.1.length), (1, .func (.func 40) [.loc 11 1 0 0]), (5, .p (.int .i64 s.2.1)), (6, .p (.int .i64 s.2.2))], [(11, .arr 2 1 1 [.p (.int .i64 x21.ID)]), (200100, .arr 57 1 1 (List.map AV.p (List.map (encL (PV.int .i64)) s.1))), (200470, .arr 57 1 1 (List.map AV.p (List.map (encL (PV.int .i64)) a439)))]⟩) (fun (o453 : List (List Int) × Int) => tE ⟨Tryz.prog, 42, 832, X, [(11, .arr 2 1 1 [.p (.int .i64 x21.ID)]), (200100, .arr 57 1 1 (List.map AV.p (List.map (encL (PV.int .i64)) b231))), (200470, .arr 57 1 1 (List.map AV.p (List.map (encL (PV.int .i64)) a439)))], i444, w445, False, h446⟩ (.exit 0) ⟨[(0, .own 200100 1 0 o453.1.length), (5, .p (.int .i64 o453.2))], [(11, .arr 2 1 1 [.p (.int .i64 x21.ID)]), (200100, .arr 57 1 1 (List.map AV.p (List.map (encL (PV.int .i64)) o453.1))), (200470, .arr 57 1 1 (List.map AV.p (List.map (encL (PV.int .i64)) a439)))]⟩) h452 ?_ ?_
 clear h h6 h8 h17 h17F h20 h22 h22a h22b h24 h448 h450 h450F h452
 intro s x h
 obtain ⟨s454, i455, j456⟩ := s
 simp only [drosslaw18_DenialFewer_l642] at h
 dsimp only
 refine zs (zs (zr ?_))
 refine zU (zl (zn ?_))
 rcases zI h with ⟨h457, h⟩ | ⟨h457, h⟩
 refine zi (zk (zn (zs (zb (zs (zr ?_))))))
 obtain ⟨x458, h459, h459a, h459b, h⟩ := zX h
 refine zU (zl (zn (zs (zr ?_))))
 refine zU ?_
 obtain ⟨r460, h461, h⟩ := zB h
 refine zc (drosslaw18_DenialFewer_1_con x458 x21.ID _ h461) ?_
 refine zU (zl (zn ?_))
 rcases zI h with ⟨h462, h⟩ | ⟨h462, h⟩
 refine zj (zk (yn (zn (zr ?_))))
 refine zU (zl ?_)
 cases h
 exact ⟨rfl, zE⟩
 refine zi (zs (zr ?_))
 obtain ⟨x463, h464, h464a, h464b, h⟩ := zX h
 refine zU (zl (zn (zr ?_)))
 refine zU (zl (yn (zn (zr ?_))))
 refine zU (zl ?_)
 cases h
 exact ⟨rfl, zE⟩
 refine zj (zx (ze ?_))
 cases h
 exact ⟨rfl, zE⟩
 obtain ⟨s465, i466⟩ := o451
 try simp only at h
 refine zA (yh (zn (zs (zr ?_))))
 obtain ⟨h467, h⟩ := ite_some h
 obtain ⟨h468, h⟩ := ite_some h
 refine zW 3 ?_
 refine zCn (encL (PV.int .i64)) s465 200100 i466.toNat (s465.length - i466.toNat) (by simp only [List.length_set, List.length_append, List.length_replicate] at *; omega) ?_
 refine zM ⟨[(0, .own 200100 1 0 ((((s465.take i466.toNat)).length + ((List.replicate (s465.length - i466.toNat) ([] : List Int))).length) + ((s465.drop (i466.toNat + (s465.length - i466.toNat)))).length)), (5, .p (.int .i64 i466))], [(11, .arr 2 1 1 [.p (.int .i64 x21.ID)]), (200100, .arr 57 1 1 (List.map AV.p (List.map (encL (PV.int .i64)) (((s465.take i466.toNat) ++ (List.replicate (s465.length - i466.toNat) ([] : List Int))) ++ (s465.drop (i466.toNat + (s465.length - i466.toNat))))))), (200470, .arr 57 1 1 (List.map AV.p (List.map (encL (PV.int .i64)) a439)))]⟩ ?_
 refine zl (zn (zs (zr ?_)))
 obtain ⟨h469, h⟩ := ite_some h
 obtain ⟨h470, h⟩ := ite_some h
 refine zU (zl (zn ?_))
 refine zL ⟨[(4, .own 200100 1 0 i466.toNat)], [(11, .arr 2 1 1 [.p (.int .i64 x21.ID)]), (200100, .arr 57 1 1 (List.map AV.p (List.map (encL (PV.int .i64)) (((s465.take i466.toNat) ++ (List.replicate (s465.length - i466.toNat) ([] : List Int))) ++ (s465.drop (i466.toNat + (s465.length - i466.toNat))))))), (200470, .arr 57 1 1 (List.map AV.p (List.map (encL (PV.int .i64)) a439)))]⟩ ?_
 obtain ⟨l471, h472, h⟩ := zB h
 replace h472 := Option.some.inj h472
 rw [h472]
 obtain ⟨h473, h⟩ := ite_some h
 obtain ⟨l474, h475, h⟩ := zB h
 replace h475 := Option.some.inj h475
 have h475L : l474.length = i466.toNat := by rw [← h475]; exact List.length_take_of_le h473
 refine awp_shrink 4 200100 1 i466.toNat 57 1 (es' := List.map AV.p (List.map (encL (PV.int .i64)) l474)) (by exact rfl) (by exact rfl) (by rw [← List.map_take, ← List.map_take, h475]) rfl ?_
 refine zL ⟨[(4, .own 200100 2 0 l474.length)], [(11, .arr 2 1 1 [.p (.int .i64 x21.ID)]), (200100, .arr 57 1 2 (List.map AV.p (List.map (encL (PV.int .i64)) l474))), (200470, .arr 57 1 1 (List.map AV.p (List.map (encL (PV.int .i64)) a439)))]⟩ ?_
 clear h475L h473
 refine zq ?_
 refine inlQ_ret (by simp only [Tryz.results39]; simp only [go_sem, seval, h17F, h450F]; exact rfl) ?_
 refine zU (zl ?_)
 cases h
 exact ⟨rfl, zE⟩
 try simp only at h
 refine zA (zn (zs (zr ?_)))
 refine zU ?_
 rcases zI h with ⟨h476, h⟩ | ⟨h476, h⟩
 refine zw 83 true ?_
 refine zg ?_
 refine zg ?_
 refine zU ?_
 rcases zI h with ⟨h477, h⟩ | ⟨h477, h⟩
 refine zw 87 true ?_
 refine zg ?_
 refine zg ?_
 obtain ⟨r478, h479, h⟩ := zB h
 refine zc (drossref18_Lists_con a439 w441 _ h479) ?_
 refine zU (zl (zn (zq ?_)))
 cases h
 exact zT Tryz.results9
 refine zw 87 false ?_
 refine zh ?_
 refine zU (zl (zn (zq ?_)))
 cases h
 exact zT Tryz.results9
 refine zw 83 false ?_
 refine zh ?_
 refine zU ?_
 refine zh ?_
 refine zU (zl (zn (zq ?_)))
 cases h
 exact zT Tryz.results9
end Go.Proofs.YtlaodgbkpmdhoaaGreatDoor
