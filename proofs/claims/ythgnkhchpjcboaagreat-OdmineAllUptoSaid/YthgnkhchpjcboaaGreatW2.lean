/- Each function of the program computes what its Lean function says, where that has a value. -/
import Derived.Test.YthgnkhchpjcboaaGreatW1
set_option linter.unusedVariables false
set_option linter.unusedSimpArgs false
namespace Go.Proofs.YthgnkhchpjcboaaGreat
open Go Go.Ab
set_option maxHeartbeats 4000000 in
theorem odmine_Constants_con {D : Prop} (t1 : Table) (r2 : List Canonical × Int) (h : odmine_Constants t1 = some r2) : Con D Tryz.prog 15 [(encTable t1)] (.tup [(.slc (List.map encCanonical r2.1)), (.int .i64 r2.2)]) := by
 refine zP Tryz.call15 Tryz.func15 rfl Tryz.ntmps15 fun X w => ?_
 simp only [odmine_Constants] at h
 refine zs (zr ?_)
 refine zU (zl (zn ?_))
 obtain ⟨o3, h4, h⟩ := zB h
 refine zJ (fun (o5 : List Canonical × Int) => tE (cX Tryz.f15 X w D) .normal ⟨[(4, .own 46 1 0 o5.1.length), (5, .p (.int .i64 o5.2))], [(46, .arr 38 3 1 (List.map AV.p (List.map encCanonical o5.1)))]⟩) o3 ?_ ?_
 replace h := h4
 clear h4
 refine zr ?_
 refine zU ?_
 refine zM ⟨[(7, .p (encTable t1))], []⟩ ?_
 refine AL_inline (avs := [.p (encTable t1)]) 14 rfl (guard_none rfl) rfl Tryz.func14 rfl Tryz.call14 Tryz.ntmps14 (by simp) (by simp only [go_sem, seval]; all_goals rfl) ?_
 intro i6 w7
 show AWp _ _ _ ⟨[(0, .p (encTable t1))], []⟩
 refine zs (zr ?_)
 refine zU (zl (zn (zs (zs (zr ?_)))))
 refine zU ?_
 obtain ⟨r8, h9, h⟩ := zB h
 refine zc (odmine_check_con t1 _ h9) ?_
 refine zU (zl (zn (zs (zr ?_))))
 refine zU (zl (zn ?_))
 rcases zI h with ⟨h10, h⟩ | ⟨h10, h⟩
 refine zi (zs (zr ?_))
 refine zU (zl (zn (zq (zt ?_))))
 refine inlQ_ret (by simp only [Tryz.results14]; simp only [go_sem, seval, h10]; exact rfl) ?_
 refine zU (zl ?_)
 cases h
 exact ⟨rfl, zE⟩
 have h10F := Bool.eq_false_iff.2 h10
 refine zj (zk (zn (zs (zr ?_))))
 refine zU (zl (zn (zs (zr ?_))))
 refine zU (zl (zn (zs (zs (zr ?_)))))
 obtain ⟨h11, h⟩ := ite_none h
 refine zU ?_
 obtain ⟨r12, h13, h⟩ := zB h
 refine zc (attrset_Subsets_con (IntKind.u32.wrap ((IntKind.u32.wrap (1 * 2 ^ (min ((t1.Attrs.length : Int)).toNat 32))) - 1)) _ h13) ?_
 refine zU (zl (zn (zb ?_)))
 obtain ⟨o14, h15, h⟩ := zB h
 refine zO (fun (s : (List (Canonical × Bool)) × List Canonical × Int) => ⟨[(5, .loc 19 1 0 0), (6, .own 46 1 0 s.2.1.length), (22, .p (.slc (List.map (PV.int .u32) r12))), (23, .p (.int .i64 (r12.length : Int))), (24, .p (.int .i64 s.2.2))], [(19, .arr 71 4 1 [.agg [.p (.str t1.Name), .p (.slc (List.map PV.str t1.Attrs)), .p (.slc (List.map encRow t1.Rows)), .mapo 29 1]]), (29, .map 1 (List.map AV.p (encK encCanonical s.1)) (List.map AV.p (encW PV.bool s.1))), (46, .arr 38 3 1 (List.map AV.p (List.map encCanonical s.2.1)))]⟩) (fun (o16 : List Canonical) => tE ⟨Tryz.prog, 40, 14, X, [], i6, w7, D⟩ (.exit 0) ⟨[(6, .own 46 1 0 o16.length)], [(46, .arr 38 3 1 (List.map AV.p (List.map encCanonical o16)))]⟩) h15 ?_ ?_
 clear h h9 h10 h10F h11 h13 h15
 intro s x h
 obtain ⟨m17, o18, t19⟩ := s
 simp only [odmine_Constants_l404] at h
 dsimp only
 refine zs (zr ?_)
 refine zU (zl (zn (zs ?_)))
 rcases zI h with ⟨h20, h⟩ | ⟨h20, h⟩
 have h20T := eq_true h20
 refine zi (zk (zn (zs (zb (zs (zr ?_))))))
 obtain ⟨x21, h22, h22a, h22b, h⟩ := zX h
 refine zU (zl (zn (zs (zr ?_))))
 refine zU ?_
 refine zM ⟨[(5, .loc 19 1 0 0), (8, .p (.int .u32 x21)), (22, .p (.slc (List.map (PV.int .u32) r12))), (23, .p (.int .i64 (r12.length : Int))), (24, .p (.int .i64 t19)), (28, .own 46 1 0 o18.length), (29, .agg [.p (.str t1.Name), .p (.slc (List.map PV.str t1.Attrs)), .p (.slc (List.map encRow t1.Rows)), .mapo 29 1]), (30, .p (.int .u32 x21))], [(19, .arr 71 4 1 [.agg [.p (.str t1.Name), .p (.slc (List.map PV.str t1.Attrs)), .p (.slc (List.map encRow t1.Rows)), .mapo 29 1]]), (29, .map 1 (List.map AV.p (encK encCanonical m17)) (List.map AV.p (encW PV.bool m17))), (46, .arr 38 3 1 (List.map AV.p (List.map encCanonical o18)))]⟩ ?_
 refine AL_inline (avs := [.agg [.p (.str t1.Name), .p (.slc (List.map PV.str t1.Attrs)), .p (.slc (List.map encRow t1.Rows)), .mapo 29 1], .p (.int .u32 x21)]) 54 rfl (guard_none rfl) rfl Tryz.func34 rfl Tryz.call34 Tryz.ntmps34 (by simp) (by simp only [go_sem, seval, h20T]; all_goals rfl) ?_
 intro i23 w24
 show AWp _ _ _ ⟨[(0, .agg [.p (.str t1.Name), .p (.slc (List.map PV.str t1.Attrs)), .p (.slc (List.map encRow t1.Rows)), .mapo 29 1]), (1, .p (.int .u32 x21))], [(19, .arr 71 4 1 [.agg [.p (.str t1.Name), .p (.slc (List.map PV.str t1.Attrs)), .p (.slc (List.map encRow t1.Rows)), .mapo 29 1]]), (29, .map 1 (List.map AV.p (encK encCanonical m17)) (List.map AV.p (encW PV.bool m17))), (46, .arr 38 3 1 (List.map AV.p (List.map encCanonical o18)))]⟩
 refine zs (zr ?_)
 refine zU (zl (zn (zs (zr ?_))))
 refine zU (zl (zn (zs (zs (zr ?_)))))
 refine zU (zl (zn (zb ?_)))
 obtain ⟨o25, h26, h⟩ := zB h
 refine zO (fun (s : (List (Canonical × Bool)) × List Canonical × Int) => ⟨[(1, .p (.int .u32 x21)), (2, .loc 56 1 0 0), (5, .own 85 1 0 s.2.1.length), (11, .p (.int .i64 (t1.Attrs.length : Int))), (12, .p (.int .i64 s.2.2))], [(19, .arr 71 4 1 [.agg [.p (.str t1.Name), .p (.slc (List.map PV.str t1.Attrs)), .p (.slc (List.map encRow t1.Rows)), .mapo 29 1]]), (29, .map 1 (List.map AV.p (encK encCanonical s.1)) (List.map AV.p (encW PV.bool s.1))), (46, .arr 38 3 1 (List.map AV.p (List.map encCanonical o18))), (56, .arr 71 4 1 [.agg [.p (.str t1.Name), .p (.slc (List.map PV.str t1.Attrs)), .p (.slc (List.map encRow t1.Rows)), .mapo 29 1]]), (85, .arr 38 3 1 (List.map AV.p (List.map encCanonical s.2.1)))]⟩) (fun (o27 : List Canonical × (List (Canonical × Bool))) => tE ⟨Tryz.prog, 34, 54, X, [(19, .arr 71 4 1 [.agg [.p (.str t1.Name), .p (.slc (List.map PV.str t1.Attrs)), .p (.slc (List.map encRow t1.Rows)), .mapo 29 1]]), (29, .map 1 (List.map AV.p (encK encCanonical m17)) (List.map AV.p (encW PV.bool m17))), (46, .arr 38 3 1 (List.map AV.p (List.map encCanonical o18)))], i23, w24, D⟩ (.exit 0) ⟨[(5, .own 85 1 0 o27.1.length)], [(19, .arr 71 4 1 [.agg [.p (.str t1.Name), .p (.slc (List.map PV.str t1.Attrs)), .p (.slc (List.map encRow t1.Rows)), .mapo 29 1]]), (29, .map 1 (List.map AV.p (encK encCanonical o27.2)) (List.map AV.p (encW PV.bool o27.2))), (46, .arr 38 3 1 (List.map AV.p (List.map encCanonical o18))), (85, .arr 38 3 1 (List.map AV.p (List.map encCanonical o27.1)))]⟩) h26 ?_ ?_
 clear h h20 h20T h22 h22a h22b h26
 intro s x h
 obtain ⟨m28, o29, t30⟩ := s
 simp only [odmine_Constants_l362] at h
 dsimp only
 refine zs (zr ?_)
 refine zU (zl (zn (zs ?_)))
 rcases zI h with ⟨h31, h⟩ | ⟨h31, h⟩
 have h31T := eq_true h31
 refine zi (zk (zn (zs (zb (zs (zr ?_))))))
 refine zU (zl (zn (zs (zr ?_))))
 refine zU (zl (zn ?_))
 obtain ⟨o32, h33, h⟩ := zB h
 refine zJ (fun (o34 : (List (Canonical × Bool)) × Bool) => tE ⟨Tryz.prog, 34, 54, X, [(19, .arr 71 4 1 [.agg [.p (.str t1.Name), .p (.slc (List.map PV.str t1.Attrs)), .p (.slc (List.map encRow t1.Rows)), .mapo 29 1]]), (29, .map 1 (List.map AV.p (encK encCanonical m17)) (List.map AV.p (encW PV.bool m17))), (46, .arr 38 3 1 (List.map AV.p (List.map encCanonical o18)))], i23, w24, D⟩ .normal ⟨[(1, .p (.int .u32 x21)), (2, .loc 56 1 0 0), (5, .own 85 1 0 o29.length), (7, .loc 61 1 0 0), (11, .p (.int .i64 (t1.Attrs.length : Int))), (12, .p (.int .i64 t30)), (27, .p (.bool o34.2))], [(19, .arr 71 4 1 [.agg [.p (.str t1.Name), .p (.slc (List.map PV.str t1.Attrs)), .p (.slc (List.map encRow t1.Rows)), .mapo 29 1]]), (29, .map 1 (List.map AV.p (encK encCanonical o34.1)) (List.map AV.p (encW PV.bool o34.1))), (46, .arr 38 3 1 (List.map AV.p (List.map encCanonical o18))), (56, .arr 71 4 1 [.agg [.p (.str t1.Name), .p (.slc (List.map PV.str t1.Attrs)), .p (.slc (List.map encRow t1.Rows)), .mapo 29 1]]), (61, .arr 38 3 1 [.p (.agg [.int .u32 x21, .int .i64 t30, .int .i64 (-1)])]), (85, .arr 38 3 1 (List.map AV.p (List.map encCanonical o29)))]⟩) o32 ?_ ?_
 replace h := h33
 clear h33
 refine zr ?_
 obtain ⟨h35, h⟩ := ite_none h
 refine zU ?_
 rcases zI h with ⟨h36, h⟩ | ⟨h36, h⟩
 refine zw 23 true ?_
 refine zg ?_
 refine zg ?_
 refine zM ⟨[(1, .p (.int .u32 x21)), (2, .loc 56 1 0 0), (5, .own 85 1 0 o29.length), (7, .loc 61 1 0 0), (11, .p (.int .i64 (t1.Attrs.length : Int))), (12, .p (.int .i64 t30)), (23, .p (.bool true)), (24, .agg [.p (.str t1.Name), .p (.slc (List.map PV.str t1.Attrs)), .p (.slc (List.map encRow t1.Rows)), .mapo 29 1]), (25, .p (.agg [.int .u32 x21, .int .i64 t30, .int .i64 (-1)]))], [(19, .arr 71 4 1 [.agg [.p (.str t1.Name), .p (.slc (List.map PV.str t1.Attrs)), .p (.slc (List.map encRow t1.Rows)), .mapo 29 1]]), (29, .map 1 (List.map AV.p (encK encCanonical m28)) (List.map AV.p (encW PV.bool m28))), (46, .arr 38 3 1 (List.map AV.p (List.map encCanonical o18))), (56, .arr 71 4 1 [.agg [.p (.str t1.Name), .p (.slc (List.map PV.str t1.Attrs)), .p (.slc (List.map encRow t1.Rows)), .mapo 29 1]]), (61, .arr 38 3 1 [.p (.agg [.int .u32 x21, .int .i64 t30, .int .i64 (-1)])]), (85, .arr 38 3 1 (List.map AV.p (List.map encCanonical o29)))]⟩ ?_
 refine AL_inline (avs := [.agg [.p (.str t1.Name), .p (.slc (List.map PV.str t1.Attrs)), .p (.slc (List.map encRow t1.Rows)), .mapo 29 1], .p (.agg [.int .u32 x21, .int .i64 t30, .int .i64 (-1)])]) 88 rfl (guard_true' rfl rfl (by exact rfl) (by exact rfl)) rfl Tryz.func62 rfl Tryz.call62 Tryz.ntmps62 (by simp) (by simp only [go_sem, seval, h31T, h36]; all_goals rfl) ?_
 intro i37 w38
 show AWp _ _ _ ⟨[(0, .agg [.p (.str t1.Name), .p (.slc (List.map PV.str t1.Attrs)), .p (.slc (List.map encRow t1.Rows)), .mapo 29 1]), (1, .p (.agg [.int .u32 x21, .int .i64 t30, .int .i64 (-1)]))], [(19, .arr 71 4 1 [.agg [.p (.str t1.Name), .p (.slc (List.map PV.str t1.Attrs)), .p (.slc (List.map encRow t1.Rows)), .mapo 29 1]]), (29, .map 1 (List.map AV.p (encK encCanonical m28)) (List.map AV.p (encW PV.bool m28))), (46, .arr 38 3 1 (List.map AV.p (List.map encCanonical o18))), (56, .arr 71 4 1 [.agg [.p (.str t1.Name), .p (.slc (List.map PV.str t1.Attrs)), .p (.slc (List.map encRow t1.Rows)), .mapo 29 1]]), (61, .arr 38 3 1 [.p (.agg [.int .u32 x21, .int .i64 t30, .int .i64 (-1)])]), (85, .arr 38 3 1 (List.map AV.p (List.map encCanonical o29)))]⟩
 refine zs (zr ?_)
 refine zU (zl (zn (zs (zs (zr ?_)))))
 refine zU ?_
 refine zM ⟨[(2, .loc 90 1 0 0), (3, .loc 91 1 0 0), (6, .agg [.p (.str t1.Name), .p (.slc (List.map PV.str t1.Attrs)), .p (.slc (List.map encRow t1.Rows)), .mapo 29 1]), (7, .p (.agg [.int .u32 x21, .int .i64 t30, .int .i64 (-1)]))], [(19, .arr 71 4 1 [.agg [.p (.str t1.Name), .p (.slc (List.map PV.str t1.Attrs)), .p (.slc (List.map encRow t1.Rows)), .mapo 29 1]]), (29, .map 1 (List.map AV.p (encK encCanonical m28)) (List.map AV.p (encW PV.bool m28))), (46, .arr 38 3 1 (List.map AV.p (List.map encCanonical o18))), (56, .arr 71 4 1 [.agg [.p (.str t1.Name), .p (.slc (List.map PV.str t1.Attrs)), .p (.slc (List.map encRow t1.Rows)), .mapo 29 1]]), (61, .arr 38 3 1 [.p (.agg [.int .u32 x21, .int .i64 t30, .int .i64 (-1)])]), (85, .arr 38 3 1 (List.map AV.p (List.map encCanonical o29))), (90, .arr 71 4 1 [.agg [.p (.str t1.Name), .p (.slc (List.map PV.str t1.Attrs)), .p (.slc (List.map encRow t1.Rows)), .mapo 29 1]]), (91, .arr 38 3 1 [.p (.agg [.int .u32 x21, .int .i64 t30, .int .i64 (-1)])])]⟩ ?_
 refine AL_inline (avs := [.agg [.p (.str t1.Name), .p (.slc (List.map PV.str t1.Attrs)), .p (.slc (List.map encRow t1.Rows)), .mapo 29 1], .p (.agg [.int .u32 x21, .int .i64 t30, .int .i64 (-1)])]) 120 rfl (guard_none rfl) rfl Tryz.func63 rfl Tryz.call63 Tryz.ntmps63 (by simp) (by simp only [go_sem, seval, h31T, h36]; all_goals rfl) ?_
 intro i39 w40
 show AWp _ _ _ ⟨[(0, .agg [.p (.str t1.Name), .p (.slc (List.map PV.str t1.Attrs)), .p (.slc (List.map encRow t1.Rows)), .mapo 29 1]), (1, .p (.agg [.int .u32 x21, .int .i64 t30, .int .i64 (-1)]))], [(19, .arr 71 4 1 [.agg [.p (.str t1.Name), .p (.slc (List.map PV.str t1.Attrs)), .p (.slc (List.map encRow t1.Rows)), .mapo 29 1]]), (29, .map 1 (List.map AV.p (encK encCanonical m28)) (List.map AV.p (encW PV.bool m28))), (46, .arr 38 3 1 (List.map AV.p (List.map encCanonical o18))), (56, .arr 71 4 1 [.agg [.p (.str t1.Name), .p (.slc (List.map PV.str t1.Attrs)), .p (.slc (List.map encRow t1.Rows)), .mapo 29 1]]), (61, .arr 38 3 1 [.p (.agg [.int .u32 x21, .int .i64 t30, .int .i64 (-1)])]), (85, .arr 38 3 1 (List.map AV.p (List.map encCanonical o29))), (90, .arr 71 4 1 [.agg [.p (.str t1.Name), .p (.slc (List.map PV.str t1.Attrs)), .p (.slc (List.map encRow t1.Rows)), .mapo 29 1]]), (91, .arr 38 3 1 [.p (.agg [.int .u32 x21, .int .i64 t30, .int .i64 (-1)])])]⟩
 refine zs (zr ?_)
 refine zU (zl (zn (zs (zr ?_))))
 refine zU (zl (zn (zs (zs (zr ?_)))))
 refine zU (zl (zn ?_))
 rcases zI h with ⟨h41, h⟩ | ⟨h41, h⟩
 refine zj (zk (zn (zs (zr ?_))))
 refine zU (zl (zn (zq ?_)))
 refine inlQ_ret (by simp only [Tryz.results63]; simp only [go_sem, seval, h31T, h36, h41]; exact rfl) ?_
 refine zU (zl (zn ?_))
 rcases zI h with ⟨h42, h⟩ | ⟨h42, h⟩
 refine zj (zk (zn (zs (zs (zr ?_)))))
 refine zU (zl (zn (zb ?_)))
 obtain ⟨o43, h44, h⟩ := zB h
 refine zO (fun (s : (List (Canonical × Bool)) × Int) => ⟨[(2, .loc 90 1 0 0), (3, .loc 91 1 0 0), (5, .p (.int .u32 s.2))], [(19, .arr 71 4 1 [.agg [.p (.str t1.Name), .p (.slc (List.map PV.str t1.Attrs)), .p (.slc (List.map encRow t1.Rows)), .mapo 29 1]]), (29, .map 1 (List.map AV.p (encK encCanonical s.1)) (List.map AV.p (encW PV.bool s.1))), (46, .arr 38 3 1 (List.map AV.p (List.map encCanonical o18))), (56, .arr 71 4 1 [.agg [.p (.str t1.Name), .p (.slc (List.map PV.str t1.Attrs)), .p (.slc (List.map encRow t1.Rows)), .mapo 29 1]]), (61, .arr 38 3 1 [.p (.agg [.int .u32 x21, .int .i64 t30, .int .i64 (-1)])]), (85, .arr 38 3 1 (List.map AV.p (List.map encCanonical o29))), (90, .arr 71 4 1 [.agg [.p (.str t1.Name), .p (.slc (List.map PV.str t1.Attrs)), .p (.slc (List.map encRow t1.Rows)), .mapo 29 1]]), (91, .arr 38 3 1 [.p (.agg [.int .u32 x21, .int .i64 t30, .int .i64 (-1)])])]⟩) (fun (o : ((List (Canonical × Bool))) ⊕ ((List (Canonical × Bool)))) => match o with | .inl o45 => tE ⟨Tryz.prog, 32, 88, X, [(19, .arr 71 4 1 [.agg [.p (.str t1.Name), .p (.slc (List.map PV.str t1.Attrs)), .p (.slc (List.map encRow t1.Rows)), .mapo 29 1]]), (29, .map 1 (List.map AV.p (encK encCanonical m28)) (List.map AV.p (encW PV.bool m28))), (46, .arr 38 3 1 (List.map AV.p (List.map encCanonical o18))), (56, .arr 71 4 1 [.agg [.p (.str t1.Name), .p (.slc (List.map PV.str t1.Attrs)), .p (.slc (List.map encRow t1.Rows)), .mapo 29 1]]), (61, .arr 38 3 1 [.p (.agg [.int .u32 x21, .int .i64 t30, .int .i64 (-1)])]), (85, .arr 38 3 1 (List.map AV.p (List.map encCanonical o29)))], i37, w38, D⟩ (.exit 0) ⟨[], [(19, .arr 71 4 1 [.agg [.p (.str t1.Name), .p (.slc (List.map PV.str t1.Attrs)), .p (.slc (List.map encRow t1.Rows)), .mapo 29 1]]), (29, .map 1 (List.map AV.p (encK encCanonical o45)) (List.map AV.p (encW PV.bool o45))), (46, .arr 38 3 1 (List.map AV.p (List.map encCanonical o18))), (56, .arr 71 4 1 [.agg [.p (.str t1.Name), .p (.slc (List.map PV.str t1.Attrs)), .p (.slc (List.map encRow t1.Rows)), .mapo 29 1]]), (61, .arr 38 3 1 [.p (.agg [.int .u32 x21, .int .i64 t30, .int .i64 (-1)])]), (85, .arr 38 3 1 (List.map AV.p (List.map encCanonical o29)))]⟩ | .inr o46 => tE ⟨Tryz.prog, 32, 88, X, [(19, .arr 71 4 1 [.agg [.p (.str t1.Name), .p (.slc (List.map PV.str t1.Attrs)), .p (.slc (List.map encRow t1.Rows)), .mapo 29 1]]), (29, .map 1 (List.map AV.p (encK encCanonical m28)) (List.map AV.p (encW PV.bool m28))), (46, .arr 38 3 1 (List.map AV.p (List.map encCanonical o18))), (56, .arr 71 4 1 [.agg [.p (.str t1.Name), .p (.slc (List.map PV.str t1.Attrs)), .p (.slc (List.map encRow t1.Rows)), .mapo 29 1]]), (61, .arr 38 3 1 [.p (.agg [.int .u32 x21, .int .i64 t30, .int .i64 (-1)])]), (85, .arr 38 3 1 (List.map AV.p (List.map encCanonical o29)))], i37, w38, D⟩ .ret ⟨[(4, .p (.bool false))], [(19, .arr 71 4 1 [.agg [.p (.str t1.Name), .p (.slc (List.map PV.str t1.Attrs)), .p (.slc (List.map encRow t1.Rows)), .mapo 29 1]]), (29, .map 1 (List.map AV.p (encK encCanonical o46)) (List.map AV.p (encW PV.bool o46))), (46, .arr 38 3 1 (List.map AV.p (List.map encCanonical o18))), (56, .arr 71 4 1 [.agg [.p (.str t1.Name), .p (.slc (List.map PV.str t1.Attrs)), .p (.slc (List.map encRow t1.Rows)), .mapo 29 1]]), (61, .arr 38 3 1 [.p (.agg [.int .u32 x21, .int .i64 t30, .int .i64 (-1)])]), (85, .arr 38 3 1 (List.map AV.p (List.map encCanonical o29)))]⟩) h44 ?_ ?_
 clear h h31 h31T h35 h36 h41 h42 h44
 intro s x h
 obtain ⟨m47, r48⟩ := s
 simp only [odmine_Constants_l360] at h
 dsimp only
 refine zs (zs (zr ?_))
 refine zU (zl (zn ?_))
 rcases zI h with ⟨h49, h⟩ | ⟨h49, h⟩
 refine zi (zk (zn ?_))
 obtain ⟨o50, h51, h⟩ := zB h
 refine zJ (fun (o : ((List (Canonical × Bool))) ⊕ ((List (Canonical × Bool)))) => match o with | .inl o52 => tE ⟨Tryz.prog, 32, 88, X, [(19, .arr 71 4 1 [.agg [.p (.str t1.Name), .p (.slc (List.map PV.str t1.Attrs)), .p (.slc (List.map encRow t1.Rows)), .mapo 29 1]]), (29, .map 1 (List.map AV.p (encK encCanonical m28)) (List.map AV.p (encW PV.bool m28))), (46, .arr 38 3 1 (List.map AV.p (List.map encCanonical o18))), (56, .arr 71 4 1 [.agg [.p (.str t1.Name), .p (.slc (List.map PV.str t1.Attrs)), .p (.slc (List.map encRow t1.Rows)), .mapo 29 1]]), (61, .arr 38 3 1 [.p (.agg [.int .u32 x21, .int .i64 t30, .int .i64 (-1)])]), (85, .arr 38 3 1 (List.map AV.p (List.map encCanonical o29)))], i37, w38, D⟩ .normal ⟨[(2, .loc 90 1 0 0), (3, .loc 91 1 0 0), (5, .p (.int .u32 r48))], [(19, .arr 71 4 1 [.agg [.p (.str t1.Name), .p (.slc (List.map PV.str t1.Attrs)), .p (.slc (List.map encRow t1.Rows)), .mapo 29 1]]), (29, .map 1 (List.map AV.p (encK encCanonical o52)) (List.map AV.p (encW PV.bool o52))), (46, .arr 38 3 1 (List.map AV.p (List.map encCanonical o18))), (56, .arr 71 4 1 [.agg [.p (.str t1.Name), .p (.slc (List.map PV.str t1.Attrs)), .p (.slc (List.map encRow t1.Rows)), .mapo 29 1]]), (61, .arr 38 3 1 [.p (.agg [.int .u32 x21, .int .i64 t30, .int .i64 (-1)])]), (85, .arr 38 3 1 (List.map AV.p (List.map encCanonical o29))), (90, .arr 71 4 1 [.agg [.p (.str t1.Name), .p (.slc (List.map PV.str t1.Attrs)), .p (.slc (List.map encRow t1.Rows)), .mapo 29 1]]), (91, .arr 38 3 1 [.p (.agg [.int .u32 x21, .int .i64 t30, .int .i64 (-1)])])]⟩ | .inr o53 => tE ⟨Tryz.prog, 32, 88, X, [(19, .arr 71 4 1 [.agg [.p (.str t1.Name), .p (.slc (List.map PV.str t1.Attrs)), .p (.slc (List.map encRow t1.Rows)), .mapo 29 1]]), (29, .map 1 (List.map AV.p (encK encCanonical m28)) (List.map AV.p (encW PV.bool m28))), (46, .arr 38 3 1 (List.map AV.p (List.map encCanonical o18))), (56, .arr 71 4 1 [.agg [.p (.str t1.Name), .p (.slc (List.map PV.str t1.Attrs)), .p (.slc (List.map encRow t1.Rows)), .mapo 29 1]]), (61, .arr 38 3 1 [.p (.agg [.int .u32 x21, .int .i64 t30, .int .i64 (-1)])]), (85, .arr 38 3 1 (List.map AV.p (List.map encCanonical o29)))], i37, w38, D⟩ .ret ⟨[(4, .p (.bool false))], [(19, .arr 71 4 1 [.agg [.p (.str t1.Name), .p (.slc (List.map PV.str t1.Attrs)), .p (.slc (List.map encRow t1.Rows)), .mapo 29 1]]), (29, .map 1 (List.map AV.p (encK encCanonical o53)) (List.map AV.p (encW PV.bool o53))), (46, .arr 38 3 1 (List.map AV.p (List.map encCanonical o18))), (56, .arr 71 4 1 [.agg [.p (.str t1.Name), .p (.slc (List.map PV.str t1.Attrs)), .p (.slc (List.map encRow t1.Rows)), .mapo 29 1]]), (61, .arr 38 3 1 [.p (.agg [.int .u32 x21, .int .i64 t30, .int .i64 (-1)])]), (85, .arr 38 3 1 (List.map AV.p (List.map encCanonical o29)))]⟩) o50 ?_ ?_
 replace h := h51
 clear h51
 refine zb (zs (zr ?_))
 refine zU ?_
 refine zM ⟨[(2, .loc 90 1 0 0), (3, .loc 91 1 0 0), (5, .p (.int .u32 r48)), (18, .agg [.p (.str t1.Name), .p (.slc (List.map PV.str t1.Attrs)), .p (.slc (List.map encRow t1.Rows)), .mapo 29 1]), (30, .p (.agg [.int .u32 (IntKind.u32.wrap ((BitVec.ofInt 32 x21 &&& ~~~ (BitVec.ofInt 32 (IntKind.u32.wrap ((BitVec.ofInt 32 r48 &&& (BitVec.ofInt 32 (IntKind.u32.wrap (0 - r48)))).toNat : Int)))).toNat : Int)), .int .i64 t30, .int .i64 (-1)]))], [(19, .arr 71 4 1 [.agg [.p (.str t1.Name), .p (.slc (List.map PV.str t1.Attrs)), .p (.slc (List.map encRow t1.Rows)), .mapo 29 1]]), (29, .map 1 (List.map AV.p (encK encCanonical m47)) (List.map AV.p (encW PV.bool m47))), (46, .arr 38 3 1 (List.map AV.p (List.map encCanonical o18))), (56, .arr 71 4 1 [.agg [.p (.str t1.Name), .p (.slc (List.map PV.str t1.Attrs)), .p (.slc (List.map encRow t1.Rows)), .mapo 29 1]]), (61, .arr 38 3 1 [.p (.agg [.int .u32 x21, .int .i64 t30, .int .i64 (-1)])]), (85, .arr 38 3 1 (List.map AV.p (List.map encCanonical o29))), (90, .arr 71 4 1 [.agg [.p (.str t1.Name), .p (.slc (List.map PV.str t1.Attrs)), .p (.slc (List.map encRow t1.Rows)), .mapo 29 1]]), (91, .arr 38 3 1 [.p (.agg [.int .u32 x21, .int .i64 t30, .int .i64 (-1)])])]⟩ ?_
 refine AL_inline (avs := [.agg [.p (.str t1.Name), .p (.slc (List.map PV.str t1.Attrs)), .p (.slc (List.map encRow t1.Rows)), .mapo 29 1], .p (.agg [.int .u32 (IntKind.u32.wrap ((BitVec.ofInt 32 x21 &&& ~~~ (BitVec.ofInt 32 (IntKind.u32.wrap ((BitVec.ofInt 32 r48 &&& (BitVec.ofInt 32 (IntKind.u32.wrap (0 - r48)))).toNat : Int)))).toNat : Int)), .int .i64 t30, .int .i64 (-1)])]) 148 rfl (guard_none rfl) rfl Tryz.func63 rfl Tryz.call63 Tryz.ntmps63 (by simp) (by simp only [go_sem, seval, h49]; all_goals rfl) ?_
 intro i54 w55
 show AWp _ _ _ ⟨[(0, .agg [.p (.str t1.Name), .p (.slc (List.map PV.str t1.Attrs)), .p (.slc (List.map encRow t1.Rows)), .mapo 29 1]), (1, .p (.agg [.int .u32 (IntKind.u32.wrap ((BitVec.ofInt 32 x21 &&& ~~~ (BitVec.ofInt 32 (IntKind.u32.wrap ((BitVec.ofInt 32 r48 &&& (BitVec.ofInt 32 (IntKind.u32.wrap (0 - r48)))).toNat : Int)))).toNat : Int)), .int .i64 t30, .int .i64 (-1)]))], [(19, .arr 71 4 1 [.agg [.p (.str t1.Name), .p (.slc (List.map PV.str t1.Attrs)), .p (.slc (List.map encRow t1.Rows)), .mapo 29 1]]), (29, .map 1 (List.map AV.p (encK encCanonical m47)) (List.map AV.p (encW PV.bool m47))), (46, .arr 38 3 1 (List.map AV.p (List.map encCanonical o18))), (56, .arr 71 4 1 [.agg [.p (.str t1.Name), .p (.slc (List.map PV.str t1.Attrs)), .p (.slc (List.map encRow t1.Rows)), .mapo 29 1]]), (61, .arr 38 3 1 [.p (.agg [.int .u32 x21, .int .i64 t30, .int .i64 (-1)])]), (85, .arr 38 3 1 (List.map AV.p (List.map encCanonical o29))), (90, .arr 71 4 1 [.agg [.p (.str t1.Name), .p (.slc (List.map PV.str t1.Attrs)), .p (.slc (List.map encRow t1.Rows)), .mapo 29 1]]), (91, .arr 38 3 1 [.p (.agg [.int .u32 x21, .int .i64 t30, .int .i64 (-1)])])]⟩
 refine zs (zr ?_)
 refine zU (zl (zn (zs (zr ?_))))
 refine zU (zl (zn (zs (zs (zr ?_)))))
 refine zU (zl (zn ?_))
 rcases zI h with ⟨h56, h⟩ | ⟨h56, h⟩
 refine zj (zk (zn (zs (zr ?_))))
 refine zU (zl (zn (zq ?_)))
 refine inlQ_ret (by simp only [Tryz.results63]; simp only [go_sem, seval, h49, h56]; exact rfl) ?_
 refine zl (zn ?_)
 rcases zI h with ⟨h57, h⟩ | ⟨h57, h⟩
 refine zi (zs (zr ?_))
 refine zU (zl (zn (zq (yr ?_))))
 cases h
 exact ⟨rfl, zE⟩
 refine zj (zk (yn ?_))
 cases h
 exact ⟨rfl, zE⟩
 have h56F := Bool.eq_false_iff.2 h56
 refine zi (zs (zr ?_))
 refine zU ?_
 obtain ⟨r58, h59, h⟩ := zB h
 refine zc (ordering_Satisfies_con t1 (Canonical.mk (IntKind.u32.wrap ((BitVec.ofInt 32 x21 &&& ~~~ (BitVec.ofInt 32 (IntKind.u32.wrap ((BitVec.ofInt 32 r48 &&& (BitVec.ofInt 32 (IntKind.u32.wrap (0 - r48)))).toNat : Int)))).toNat : Int)) t30 (-1)) _ h59) ?_
 refine zU (zl (zn (zr ?_)))
 refine zU (zl (zn (zs (zr ?_))))
 refine zU (zl (zn (zq ?_)))
 refine inlQ_ret (by simp only [Tryz.results63]; simp only [go_sem, seval, h49, h56F]; exact rfl) ?_
 refine zl (zn ?_)
 rcases zI h with ⟨h60, h⟩ | ⟨h60, h⟩
 refine zi (zs (zr ?_))
 refine zU (zl (zn (zq (yr ?_))))
 cases h
 exact ⟨rfl, zE⟩
 refine zj (zk (yn ?_))
 cases h
 exact ⟨rfl, zE⟩
 rcases o50 with m61 | b62
 try simp only at h
 refine zA (zn (zr ?_))
 refine zU (zl ?_)
 cases h
 exact ⟨rfl, zE⟩
 try simp only at h
 refine zA (zt ?_)
 cases h
 exact ⟨rfl, zE⟩
 refine zj (zx (ze ?_))
 cases h
 exact ⟨rfl, zE⟩
 rcases o43 with b63 | b64
 try simp only at h
 refine zA (yh (zn (zs (zr ?_))))
 refine zU (zl (zn (zq ?_)))
 refine inlQ_ret (by simp only [Tryz.results62]; simp only [go_sem, seval, h31T, h36, h41, h42]; exact rfl) ?_
 refine zU (zl ?_)
 cases h
 exact ⟨rfl, zE⟩
 try simp only at h
 refine zA (yr (zt ?_))
 refine inlQ_ret (by simp only [Tryz.results62]; simp only [go_sem, seval, h31T, h36, h41, h42]; exact rfl) ?_
 refine zU (zl ?_)
 cases h
 exact ⟨rfl, zE⟩
 have h42F := Bool.eq_false_iff.2 h42
 refine zi (zs (zr ?_))
 refine zU (zl (zn (zq (zt ?_))))
 refine inlQ_ret (by simp only [Tryz.results62]; simp only [go_sem, seval, h31T, h36, h41, h42F]; exact rfl) ?_
 refine zU (zl ?_)
 cases h
 exact ⟨rfl, zE⟩
 have h41F := Bool.eq_false_iff.2 h41
 refine zi (zs (zr ?_))
 refine zU ?_
 obtain ⟨r65, h66, h⟩ := zB h
 refine zc (ordering_Satisfies_con t1 (Canonical.mk x21 t30 (-1)) _ h66) ?_
 refine zU (zl (zn (zr ?_)))
 refine zU (zl (zn (zs (zr ?_))))
 refine zU (zl (zn (zq ?_)))
 refine inlQ_ret (by simp only [Tryz.results63]; simp only [go_sem, seval, h31T, h36, h41F]; exact rfl) ?_
 refine zU (zl (zn ?_))
 rcases zI h with ⟨h67, h⟩ | ⟨h67, h⟩
 refine zj (zk (zn (zs (zs (zr ?_)))))
 refine zU (zl (zn (zb ?_)))
 obtain ⟨o68, h69, h⟩ := zB h
 refine zO (fun (s : (List (Canonical × Bool)) × Int) => ⟨[(2, .loc 90 1 0 0), (3, .loc 91 1 0 0), (5, .p (.int .u32 s.2))], [(19, .arr 71 4 1 [.agg [.p (.str t1.Name), .p (.slc (List.map PV.str t1.Attrs)), .p (.slc (List.map encRow t1.Rows)), .mapo 29 1]]), (29, .map 1 (List.map AV.p (encK encCanonical s.1)) (List.map AV.p (encW PV.bool s.1))), (46, .arr 38 3 1 (List.map AV.p (List.map encCanonical o18))), (56, .arr 71 4 1 [.agg [.p (.str t1.Name), .p (.slc (List.map PV.str t1.Attrs)), .p (.slc (List.map encRow t1.Rows)), .mapo 29 1]]), (61, .arr 38 3 1 [.p (.agg [.int .u32 x21, .int .i64 t30, .int .i64 (-1)])]), (85, .arr 38 3 1 (List.map AV.p (List.map encCanonical o29))), (90, .arr 71 4 1 [.agg [.p (.str t1.Name), .p (.slc (List.map PV.str t1.Attrs)), .p (.slc (List.map encRow t1.Rows)), .mapo 29 1]]), (91, .arr 38 3 1 [.p (.agg [.int .u32 x21, .int .i64 t30, .int .i64 (-1)])])]⟩) (fun (o : ((List (Canonical × Bool))) ⊕ ((List (Canonical × Bool)))) => match o with | .inl o70 => tE ⟨Tryz.prog, 32, 88, X, [(19, .arr 71 4 1 [.agg [.p (.str t1.Name), .p (.slc (List.map PV.str t1.Attrs)), .p (.slc (List.map encRow t1.Rows)), .mapo 29 1]]), (29, .map 1 (List.map AV.p (encK encCanonical m28)) (List.map AV.p (encW PV.bool m28))), (46, .arr 38 3 1 (List.map AV.p (List.map encCanonical o18))), (56, .arr 71 4 1 [.agg [.p (.str t1.Name), .p (.slc (List.map PV.str t1.Attrs)), .p (.slc (List.map encRow t1.Rows)), .mapo 29 1]]), (61, .arr 38 3 1 [.p (.agg [.int .u32 x21, .int .i64 t30, .int .i64 (-1)])]), (85, .arr 38 3 1 (List.map AV.p (List.map encCanonical o29)))], i37, w38, D⟩ (.exit 0) ⟨[], [(19, .arr 71 4 1 [.agg [.p (.str t1.Name), .p (.slc (List.map PV.str t1.Attrs)), .p (.slc (List.map encRow t1.Rows)), .mapo 29 1]]), (29, .map 1 (List.map AV.p (encK encCanonical o70)) (List.map AV.p (encW PV.bool o70))), (46, .arr 38 3 1 (List.map AV.p (List.map encCanonical o18))), (56, .arr 71 4 1 [.agg [.p (.str t1.Name), .p (.slc (List.map PV.str t1.Attrs)), .p (.slc (List.map encRow t1.Rows)), .mapo 29 1]]), (61, .arr 38 3 1 [.p (.agg [.int .u32 x21, .int .i64 t30, .int .i64 (-1)])]), (85, .arr 38 3 1 (List.map AV.p (List.map encCanonical o29)))]⟩ | .inr o71 => tE ⟨Tryz.prog, 32, 88, X, [(19, .arr 71 4 1 [.agg [.p (.str t1.Name), .p (.slc (List.map PV.str t1.Attrs)), .p (.slc (List.map encRow t1.Rows)), .mapo 29 1]]), (29, .map 1 (List.map AV.p (encK encCanonical m28)) (List.map AV.p (encW PV.bool m28))), (46, .arr 38 3 1 (List.map AV.p (List.map encCanonical o18))), (56, .arr 71 4 1 [.agg [.p (.str t1.Name), .p (.slc (List.map PV.str t1.Attrs)), .p (.slc (List.map encRow t1.Rows)), .mapo 29 1]]), (61, .arr 38 3 1 [.p (.agg [.int .u32 x21, .int .i64 t30, .int .i64 (-1)])]), (85, .arr 38 3 1 (List.map AV.p (List.map encCanonical o29)))], i37, w38, D⟩ .ret ⟨[(4, .p (.bool false))], [(19, .arr 71 4 1 [.agg [.p (.str t1.Name), .p (.slc (List.map PV.str t1.Attrs)), .p (.slc (List.map encRow t1.Rows)), .mapo 29 1]]), (29, .map 1 (List.map AV.p (encK encCanonical o71)) (List.map AV.p (encW PV.bool o71))), (46, .arr 38 3 1 (List.map AV.p (List.map encCanonical o18))), (56, .arr 71 4 1 [.agg [.p (.str t1.Name), .p (.slc (List.map PV.str t1.Attrs)), .p (.slc (List.map encRow t1.Rows)), .mapo 29 1]]), (61, .arr 38 3 1 [.p (.agg [.int .u32 x21, .int .i64 t30, .int .i64 (-1)])]), (85, .arr 38 3 1 (List.map AV.p (List.map encCanonical o29)))]⟩) h69 ?_ ?_
 clear h h31 h31T h35 h36 h41 h41F h66 h67 h69
 intro s x h
 obtain ⟨m72, r73⟩ := s
 simp only [odmine_Constants_l361] at h
 dsimp only
 refine zs (zs (zr ?_))
 refine zU (zl (zn ?_))
 rcases zI h with ⟨h74, h⟩ | ⟨h74, h⟩
 refine zi (zk (zn ?_))
 obtain ⟨o75, h76, h⟩ := zB h
 refine zJ (fun (o : ((List (Canonical × Bool))) ⊕ ((List (Canonical × Bool)))) => match o with | .inl o77 => tE ⟨Tryz.prog, 32, 88, X, [(19, .arr 71 4 1 [.agg [.p (.str t1.Name), .p (.slc (List.map PV.str t1.Attrs)), .p (.slc (List.map encRow t1.Rows)), .mapo 29 1]]), (29, .map 1 (List.map AV.p (encK encCanonical m28)) (List.map AV.p (encW PV.bool m28))), (46, .arr 38 3 1 (List.map AV.p (List.map encCanonical o18))), (56, .arr 71 4 1 [.agg [.p (.str t1.Name), .p (.slc (List.map PV.str t1.Attrs)), .p (.slc (List.map encRow t1.Rows)), .mapo 29 1]]), (61, .arr 38 3 1 [.p (.agg [.int .u32 x21, .int .i64 t30, .int .i64 (-1)])]), (85, .arr 38 3 1 (List.map AV.p (List.map encCanonical o29)))], i37, w38, D⟩ .normal ⟨[(2, .loc 90 1 0 0), (3, .loc 91 1 0 0), (5, .p (.int .u32 r73))], [(19, .arr 71 4 1 [.agg [.p (.str t1.Name), .p (.slc (List.map PV.str t1.Attrs)), .p (.slc (List.map encRow t1.Rows)), .mapo 29 1]]), (29, .map 1 (List.map AV.p (encK encCanonical o77)) (List.map AV.p (encW PV.bool o77))), (46, .arr 38 3 1 (List.map AV.p (List.map encCanonical o18))), (56, .arr 71 4 1 [.agg [.p (.str t1.Name), .p (.slc (List.map PV.str t1.Attrs)), .p (.slc (List.map encRow t1.Rows)), .mapo 29 1]]), (61, .arr 38 3 1 [.p (.agg [.int .u32 x21, .int .i64 t30, .int .i64 (-1)])]), (85, .arr 38 3 1 (List.map AV.p (List.map encCanonical o29))), (90, .arr 71 4 1 [.agg [.p (.str t1.Name), .p (.slc (List.map PV.str t1.Attrs)), .p (.slc (List.map encRow t1.Rows)), .mapo 29 1]]), (91, .arr 38 3 1 [.p (.agg [.int .u32 x21, .int .i64 t30, .int .i64 (-1)])])]⟩ | .inr o78 => tE ⟨Tryz.prog, 32, 88, X, [(19, .arr 71 4 1 [.agg [.p (.str t1.Name), .p (.slc (List.map PV.str t1.Attrs)), .p (.slc (List.map encRow t1.Rows)), .mapo 29 1]]), (29, .map 1 (List.map AV.p (encK encCanonical m28)) (List.map AV.p (encW PV.bool m28))), (46, .arr 38 3 1 (List.map AV.p (List.map encCanonical o18))), (56, .arr 71 4 1 [.agg [.p (.str t1.Name), .p (.slc (List.map PV.str t1.Attrs)), .p (.slc (List.map encRow t1.Rows)), .mapo 29 1]]), (61, .arr 38 3 1 [.p (.agg [.int .u32 x21, .int .i64 t30, .int .i64 (-1)])]), (85, .arr 38 3 1 (List.map AV.p (List.map encCanonical o29)))], i37, w38, D⟩ .ret ⟨[(4, .p (.bool false))], [(19, .arr 71 4 1 [.agg [.p (.str t1.Name), .p (.slc (List.map PV.str t1.Attrs)), .p (.slc (List.map encRow t1.Rows)), .mapo 29 1]]), (29, .map 1 (List.map AV.p (encK encCanonical o78)) (List.map AV.p (encW PV.bool o78))), (46, .arr 38 3 1 (List.map AV.p (List.map encCanonical o18))), (56, .arr 71 4 1 [.agg [.p (.str t1.Name), .p (.slc (List.map PV.str t1.Attrs)), .p (.slc (List.map encRow t1.Rows)), .mapo 29 1]]), (61, .arr 38 3 1 [.p (.agg [.int .u32 x21, .int .i64 t30, .int .i64 (-1)])]), (85, .arr 38 3 1 (List.map AV.p (List.map encCanonical o29)))]⟩) o75 ?_ ?_
 replace h := h76
 clear h76
 refine zb (zs (zr ?_))
 refine zU ?_
 refine zM ⟨[(2, .loc 90 1 0 0), (3, .loc 91 1 0 0), (5, .p (.int .u32 r73)), (18, .agg [.p (.str t1.Name), .p (.slc (List.map PV.str t1.Attrs)), .p (.slc (List.map encRow t1.Rows)), .mapo 29 1]), (30, .p (.agg [.int .u32 (IntKind.u32.wrap ((BitVec.ofInt 32 x21 &&& ~~~ (BitVec.ofInt 32 (IntKind.u32.wrap ((BitVec.ofInt 32 r73 &&& (BitVec.ofInt 32 (IntKind.u32.wrap (0 - r73)))).toNat : Int)))).toNat : Int)), .int .i64 t30, .int .i64 (-1)]))], [(19, .arr 71 4 1 [.agg [.p (.str t1.Name), .p (.slc (List.map PV.str t1.Attrs)), .p (.slc (List.map encRow t1.Rows)), .mapo 29 1]]), (29, .map 1 (List.map AV.p (encK encCanonical m72)) (List.map AV.p (encW PV.bool m72))), (46, .arr 38 3 1 (List.map AV.p (List.map encCanonical o18))), (56, .arr 71 4 1 [.agg [.p (.str t1.Name), .p (.slc (List.map PV.str t1.Attrs)), .p (.slc (List.map encRow t1.Rows)), .mapo 29 1]]), (61, .arr 38 3 1 [.p (.agg [.int .u32 x21, .int .i64 t30, .int .i64 (-1)])]), (85, .arr 38 3 1 (List.map AV.p (List.map encCanonical o29))), (90, .arr 71 4 1 [.agg [.p (.str t1.Name), .p (.slc (List.map PV.str t1.Attrs)), .p (.slc (List.map encRow t1.Rows)), .mapo 29 1]]), (91, .arr 38 3 1 [.p (.agg [.int .u32 x21, .int .i64 t30, .int .i64 (-1)])])]⟩ ?_
 refine AL_inline (avs := [.agg [.p (.str t1.Name), .p (.slc (List.map PV.str t1.Attrs)), .p (.slc (List.map encRow t1.Rows)), .mapo 29 1], .p (.agg [.int .u32 (IntKind.u32.wrap ((BitVec.ofInt 32 x21 &&& ~~~ (BitVec.ofInt 32 (IntKind.u32.wrap ((BitVec.ofInt 32 r73 &&& (BitVec.ofInt 32 (IntKind.u32.wrap (0 - r73)))).toNat : Int)))).toNat : Int)), .int .i64 t30, .int .i64 (-1)])]) 176 rfl (guard_none rfl) rfl Tryz.func63 rfl Tryz.call63 Tryz.ntmps63 (by simp) (by simp only [go_sem, seval, h74]; all_goals rfl) ?_
 intro i79 w80
 show AWp _ _ _ ⟨[(0, .agg [.p (.str t1.Name), .p (.slc (List.map PV.str t1.Attrs)), .p (.slc (List.map encRow t1.Rows)), .mapo 29 1]), (1, .p (.agg [.int .u32 (IntKind.u32.wrap ((BitVec.ofInt 32 x21 &&& ~~~ (BitVec.ofInt 32 (IntKind.u32.wrap ((BitVec.ofInt 32 r73 &&& (BitVec.ofInt 32 (IntKind.u32.wrap (0 - r73)))).toNat : Int)))).toNat : Int)), .int .i64 t30, .int .i64 (-1)]))], [(19, .arr 71 4 1 [.agg [.p (.str t1.Name), .p (.slc (List.map PV.str t1.Attrs)), .p (.slc (List.map encRow t1.Rows)), .mapo 29 1]]), (29, .map 1 (List.map AV.p (encK encCanonical m72)) (List.map AV.p (encW PV.bool m72))), (46, .arr 38 3 1 (List.map AV.p (List.map encCanonical o18))), (56, .arr 71 4 1 [.agg [.p (.str t1.Name), .p (.slc (List.map PV.str t1.Attrs)), .p (.slc (List.map encRow t1.Rows)), .mapo 29 1]]), (61, .arr 38 3 1 [.p (.agg [.int .u32 x21, .int .i64 t30, .int .i64 (-1)])]), (85, .arr 38 3 1 (List.map AV.p (List.map encCanonical o29))), (90, .arr 71 4 1 [.agg [.p (.str t1.Name), .p (.slc (List.map PV.str t1.Attrs)), .p (.slc (List.map encRow t1.Rows)), .mapo 29 1]]), (91, .arr 38 3 1 [.p (.agg [.int .u32 x21, .int .i64 t30, .int .i64 (-1)])])]⟩
 refine zs (zr ?_)
 refine zU (zl (zn (zs (zr ?_))))
 refine zU (zl (zn (zs (zs (zr ?_)))))
 refine zU (zl (zn ?_))
 rcases zI h with ⟨h81, h⟩ | ⟨h81, h⟩
 refine zj (zk (zn (zs (zr ?_))))
 refine zU (zl (zn (zq ?_)))
 refine inlQ_ret (by simp only [Tryz.results63]; simp only [go_sem, seval, h74, h81]; exact rfl) ?_
 refine zl (zn ?_)
 rcases zI h with ⟨h82, h⟩ | ⟨h82, h⟩
 refine zi (zs (zr ?_))
 refine zU (zl (zn (zq (yr ?_))))
 cases h
 exact ⟨rfl, zE⟩
 refine zj (zk (yn ?_))
 cases h
 exact ⟨rfl, zE⟩
 have h81F := Bool.eq_false_iff.2 h81
 refine zi (zs (zr ?_))
 refine zU ?_
 obtain ⟨r83, h84, h⟩ := zB h
 refine zc (ordering_Satisfies_con t1 (Canonical.mk (IntKind.u32.wrap ((BitVec.ofInt 32 x21 &&& ~~~ (BitVec.ofInt 32 (IntKind.u32.wrap ((BitVec.ofInt 32 r73 &&& (BitVec.ofInt 32 (IntKind.u32.wrap (0 - r73)))).toNat : Int)))).toNat : Int)) t30 (-1)) _ h84) ?_
 refine zU (zl (zn (zr ?_)))
 refine zU (zl (zn (zs (zr ?_))))
 refine zU (zl (zn (zq ?_)))
 refine inlQ_ret (by simp only [Tryz.results63]; simp only [go_sem, seval, h74, h81F]; exact rfl) ?_
 refine zl (zn ?_)
 rcases zI h with ⟨h85, h⟩ | ⟨h85, h⟩
 refine zi (zs (zr ?_))
 refine zU (zl (zn (zq (yr ?_))))
 cases h
 exact ⟨rfl, zE⟩
 refine zj (zk (yn ?_))
 cases h
 exact ⟨rfl, zE⟩
 rcases o75 with m86 | b87
 try simp only at h
 refine zA (zn (zr ?_))
 refine zU (zl ?_)
 cases h
 exact ⟨rfl, zE⟩
 try simp only at h
 refine zA (zt ?_)
 cases h
 exact ⟨rfl, zE⟩
 refine zj (zx (ze ?_))
 cases h
 exact ⟨rfl, zE⟩
 rcases o68 with b88 | b89
 try simp only at h
 refine zA (yh (zn (zs (zr ?_))))
 refine zU (zl (zn (zq ?_)))
 refine inlQ_ret (by simp only [Tryz.results62]; simp only [go_sem, seval, h31T, h36, h41F, h67]; exact rfl) ?_
 refine zU (zl ?_)
 cases h
 exact ⟨rfl, zE⟩
 try simp only at h
 refine zA (yr (zt ?_))
 refine inlQ_ret (by simp only [Tryz.results62]; simp only [go_sem, seval, h31T, h36, h41F, h67]; exact rfl) ?_
 refine zU (zl ?_)
 cases h
 exact ⟨rfl, zE⟩
 have h67F := Bool.eq_false_iff.2 h67
 refine zi (zs (zr ?_))
 refine zU (zl (zn (zq (zt ?_))))
 refine inlQ_ret (by simp only [Tryz.results62]; simp only [go_sem, seval, h31T, h36, h41F, h67F]; exact rfl) ?_
 refine zU (zl ?_)
 cases h
 exact ⟨rfl, zE⟩
 refine zw 23 false ?_
 refine zh ?_
 refine zU (zl ?_)
 cases h
 exact ⟨rfl, zE⟩
 obtain ⟨m90, t91⟩ := o32
 try simp only at h
 refine zA (zn ?_)
 rcases zI h with ⟨h92, h⟩ | ⟨h92, h⟩
 refine zi (zr ?_)
 obtain ⟨h93, h⟩ := ite_some h
 refine zU (zl (yn (zn (zr ?_))))
 refine zU (zl ?_)
 cases h
 exact ⟨rfl, zE⟩
 refine zj (zk (yn (zn (zr ?_))))
 refine zU (zl ?_)
 cases h
 exact ⟨rfl, zE⟩
 have h31T := eq_false h31
 refine zj (zx (ze ?_))
 cases h
 exact ⟨rfl, zE⟩
 obtain ⟨o94, b95⟩ := o25
 try simp only at h
 refine zA (yh (zn (zs (zr ?_))))
 refine zU (zl (zn (zq ?_)))
 refine inlQ_ret (by simp only [Tryz.results34]; simp only [go_sem, seval, h20T]; exact rfl) ?_
 obtain ⟨h96, h⟩ := ite_some h
 refine zU (zl (zn (zr ?_)))
 refine zU ?_
 refine zM ⟨[(5, .loc 19 1 0 0), (22, .p (.slc (List.map (PV.int .u32) r12))), (23, .p (.int .i64 (r12.length : Int))), (24, .p (.int .i64 t19)), (33, .own 46 1 0 (o18.length + o94.length)), (34, .agg [.p (.str t1.Name), .p (.slc (List.map PV.str t1.Attrs)), .p (.slc (List.map encRow t1.Rows)), .mapo 29 1]), (35, .p (.int .u32 x21))], [(19, .arr 71 4 1 [.agg [.p (.str t1.Name), .p (.slc (List.map PV.str t1.Attrs)), .p (.slc (List.map encRow t1.Rows)), .mapo 29 1]]), (29, .map 1 (List.map AV.p (encK encCanonical b95)) (List.map AV.p (encW PV.bool b95))), (46, .arr 38 3 1 (List.map AV.p (List.map encCanonical (o18 ++ o94))))]⟩ ?_
 refine AL_inline (avs := [.agg [.p (.str t1.Name), .p (.slc (List.map PV.str t1.Attrs)), .p (.slc (List.map encRow t1.Rows)), .mapo 29 1], .p (.int .u32 x21)]) 204 rfl (guard_none rfl) rfl Tryz.func35 rfl Tryz.call35 Tryz.ntmps35 (by simp) (by simp only [go_sem, seval, h20T]; all_goals rfl) ?_
 intro i97 w98
 show AWp _ _ _ ⟨[(0, .agg [.p (.str t1.Name), .p (.slc (List.map PV.str t1.Attrs)), .p (.slc (List.map encRow t1.Rows)), .mapo 29 1]), (1, .p (.int .u32 x21))], [(19, .arr 71 4 1 [.agg [.p (.str t1.Name), .p (.slc (List.map PV.str t1.Attrs)), .p (.slc (List.map encRow t1.Rows)), .mapo 29 1]]), (29, .map 1 (List.map AV.p (encK encCanonical b95)) (List.map AV.p (encW PV.bool b95))), (46, .arr 38 3 1 (List.map AV.p (List.map encCanonical (o18 ++ o94))))]⟩
 refine zs (zr ?_)
 refine zU (zl (zn (zs (zr ?_))))
 refine zU (zl (zn (zs (zs (zr ?_)))))
 refine zU (zl (zn (zb ?_)))
 obtain ⟨o99, h100, h⟩ := zB h
 refine zO (fun (s : (List (Canonical × Bool)) × List Int × Int) => ⟨[(1, .p (.int .u32 x21)), (2, .loc 206 1 0 0), (5, .own 240 1 0 s.2.1.length), (16, .p (.int .i64 (t1.Attrs.length : Int))), (17, .p (.int .i64 s.2.2))], [(19, .arr 71 4 1 [.agg [.p (.str t1.Name), .p (.slc (List.map PV.str t1.Attrs)), .p (.slc (List.map encRow t1.Rows)), .mapo 29 1]]), (29, .map 1 (List.map AV.p (encK encCanonical s.1)) (List.map AV.p (encW PV.bool s.1))), (46, .arr 38 3 1 (List.map AV.p (List.map encCanonical (o18 ++ o94)))), (206, .arr 71 4 1 [.agg [.p (.str t1.Name), .p (.slc (List.map PV.str t1.Attrs)), .p (.slc (List.map encRow t1.Rows)), .mapo 29 1]]), (240, .arr 3 1 1 (List.map AV.p (List.map (PV.int .i64) s.2.1)))]⟩) (fun (o101 : (List (Canonical × Bool)) × List Int) => tE ⟨Tryz.prog, 68, 204, X, [(19, .arr 71 4 1 [.agg [.p (.str t1.Name), .p (.slc (List.map PV.str t1.Attrs)), .p (.slc (List.map encRow t1.Rows)), .mapo 29 1]]), (29, .map 1 (List.map AV.p (encK encCanonical b95)) (List.map AV.p (encW PV.bool b95))), (46, .arr 38 3 1 (List.map AV.p (List.map encCanonical (o18 ++ o94))))], i97, w98, D⟩ (.exit 0) ⟨[(1, .p (.int .u32 x21)), (2, .loc 206 1 0 0), (5, .own 240 1 0 o101.2.length)], [(19, .arr 71 4 1 [.agg [.p (.str t1.Name), .p (.slc (List.map PV.str t1.Attrs)), .p (.slc (List.map encRow t1.Rows)), .mapo 29 1]]), (29, .map 1 (List.map AV.p (encK encCanonical o101.1)) (List.map AV.p (encW PV.bool o101.1))), (46, .arr 38 3 1 (List.map AV.p (List.map encCanonical (o18 ++ o94)))), (206, .arr 71 4 1 [.agg [.p (.str t1.Name), .p (.slc (List.map PV.str t1.Attrs)), .p (.slc (List.map encRow t1.Rows)), .mapo 29 1]]), (240, .arr 3 1 1 (List.map AV.p (List.map (PV.int .i64) o101.2)))]⟩) h100 ?_ ?_
 clear h h20 h20T h22 h22a h22b h26 h96 h100
 intro s x h
 obtain ⟨m102, f103, t104⟩ := s
 simp only [odmine_Constants_l363] at h
 dsimp only
 refine zs (zr ?_)
 refine zU (zl (zn (zs ?_)))
 rcases zI h with ⟨h105, h⟩ | ⟨h105, h⟩
 have h105T := eq_true h105
 refine zi (zk (zn (zs (zb (zs (zr ?_))))))
 refine zU (zl (zn ?_))
 obtain ⟨o106, h107, h⟩ := zB h
 refine zJ (fun (o108 : (List (Canonical × Bool)) × Bool) => tE ⟨Tryz.prog, 68, 204, X, [(19, .arr 71 4 1 [.agg [.p (.str t1.Name), .p (.slc (List.map PV.str t1.Attrs)), .p (.slc (List.map encRow t1.Rows)), .mapo 29 1]]), (29, .map 1 (List.map AV.p (encK encCanonical b95)) (List.map AV.p (encW PV.bool b95))), (46, .arr 38 3 1 (List.map AV.p (List.map encCanonical (o18 ++ o94))))], i97, w98, D⟩ .normal ⟨[(1, .p (.int .u32 x21)), (2, .loc 206 1 0 0), (5, .own 240 1 0 f103.length), (6, .p (.int .i64 t104)), (16, .p (.int .i64 (t1.Attrs.length : Int))), (17, .p (.int .i64 t104)), (32, .p (.bool o108.2))], [(19, .arr 71 4 1 [.agg [.p (.str t1.Name), .p (.slc (List.map PV.str t1.Attrs)), .p (.slc (List.map encRow t1.Rows)), .mapo 29 1]]), (29, .map 1 (List.map AV.p (encK encCanonical o108.1)) (List.map AV.p (encW PV.bool o108.1))), (46, .arr 38 3 1 (List.map AV.p (List.map encCanonical (o18 ++ o94)))), (206, .arr 71 4 1 [.agg [.p (.str t1.Name), .p (.slc (List.map PV.str t1.Attrs)), .p (.slc (List.map encRow t1.Rows)), .mapo 29 1]]), (240, .arr 3 1 1 (List.map AV.p (List.map (PV.int .i64) f103)))]⟩) o106 ?_ ?_
 replace h := h107
 clear h107
 refine zr ?_
 obtain ⟨h109, h⟩ := ite_none h
 refine zU ?_
 rcases zI h with ⟨h110, h⟩ | ⟨h110, h⟩
 refine zw 25 true ?_
 refine zg ?_
 refine zg ?_
 refine zg ?_
 refine zg ?_
 refine zM ⟨[(1, .p (.int .u32 x21)), (2, .loc 206 1 0 0), (5, .own 240 1 0 f103.length), (6, .p (.int .i64 t104)), (16, .p (.int .i64 (t1.Attrs.length : Int))), (17, .p (.int .i64 t104)), (25, .p (.bool true)), (26, .agg [.p (.str t1.Name), .p (.slc (List.map PV.str t1.Attrs)), .p (.slc (List.map encRow t1.Rows)), .mapo 29 1]), (27, .p (.int .u32 x21)), (28, .p (.int .i64 t104)), (29, .p (.agg [.int .u32 x21, .int .i64 t104, .int .i64 (-1)]))], [(19, .arr 71 4 1 [.agg [.p (.str t1.Name), .p (.slc (List.map PV.str t1.Attrs)), .p (.slc (List.map encRow t1.Rows)), .mapo 29 1]]), (29, .map 1 (List.map AV.p (encK encCanonical m102)) (List.map AV.p (encW PV.bool m102))), (46, .arr 38 3 1 (List.map AV.p (List.map encCanonical (o18 ++ o94)))), (206, .arr 71 4 1 [.agg [.p (.str t1.Name), .p (.slc (List.map PV.str t1.Attrs)), .p (.slc (List.map encRow t1.Rows)), .mapo 29 1]]), (240, .arr 3 1 1 (List.map AV.p (List.map (PV.int .i64) f103)))]⟩ ?_
 refine AL_inline (avs := [.agg [.p (.str t1.Name), .p (.slc (List.map PV.str t1.Attrs)), .p (.slc (List.map encRow t1.Rows)), .mapo 29 1], .p (.agg [.int .u32 x21, .int .i64 t104, .int .i64 (-1)])]) 272 rfl (guard_true' rfl rfl (by exact rfl) (by exact rfl)) rfl Tryz.func63 rfl Tryz.call63 Tryz.ntmps63 (by simp) (by simp only [go_sem, seval, h105T, h110]; all_goals rfl) ?_
 intro i111 w112
 show AWp _ _ _ ⟨[(0, .agg [.p (.str t1.Name), .p (.slc (List.map PV.str t1.Attrs)), .p (.slc (List.map encRow t1.Rows)), .mapo 29 1]), (1, .p (.agg [.int .u32 x21, .int .i64 t104, .int .i64 (-1)]))], [(19, .arr 71 4 1 [.agg [.p (.str t1.Name), .p (.slc (List.map PV.str t1.Attrs)), .p (.slc (List.map encRow t1.Rows)), .mapo 29 1]]), (29, .map 1 (List.map AV.p (encK encCanonical m102)) (List.map AV.p (encW PV.bool m102))), (46, .arr 38 3 1 (List.map AV.p (List.map encCanonical (o18 ++ o94)))), (206, .arr 71 4 1 [.agg [.p (.str t1.Name), .p (.slc (List.map PV.str t1.Attrs)), .p (.slc (List.map encRow t1.Rows)), .mapo 29 1]]), (240, .arr 3 1 1 (List.map AV.p (List.map (PV.int .i64) f103)))]⟩
 refine zs (zr ?_)
 refine zU (zl (zn (zs (zr ?_))))
 refine zU (zl (zn (zs (zs (zr ?_)))))
 refine zU (zl (zn ?_))
 rcases zI h with ⟨h113, h⟩ | ⟨h113, h⟩
 replace h := h.symm
 refine zj (zk (zn (zs (zr ?_))))
 refine zU (zl (zn (zq ?_)))
 refine inlQ_ret (by simp only [Tryz.results63]; simp only [go_sem, seval, h105T, h110, h113]; exact rfl) ?_
 refine zg ?_
 refine zU (zl ?_)
 cases h
 exact ⟨rfl, zE⟩
 have h113F := Bool.eq_false_iff.2 h113
 refine zi (zs (zr ?_))
 refine zU ?_
 obtain ⟨r114, h115, h⟩ := zB h
 replace h := h.symm
 refine zc (ordering_Satisfies_con t1 (Canonical.mk x21 t104 (-1)) _ h115) ?_
 refine zU (zl (zn (zr ?_)))
 refine zU (zl (zn (zs (zr ?_))))
 refine zU (zl (zn (zq ?_)))
 refine inlQ_ret (by simp only [Tryz.results63]; simp only [go_sem, seval, h105T, h110, h113F]; exact rfl) ?_
 refine zg ?_
 refine zU (zl ?_)
 cases h
 exact ⟨rfl, zE⟩
 refine zw 25 false ?_
 refine zh ?_
 refine zU (zl ?_)
 cases h
 exact ⟨rfl, zE⟩
 obtain ⟨m116, t117⟩ := o106
 try simp only at h
 refine zA (zn ?_)
 rcases zI h with ⟨h118, h⟩ | ⟨h118, h⟩
 refine zi (zr ?_)
 obtain ⟨h119, h⟩ := ite_some h
 refine zU (zl (yn (zn (zr ?_))))
 refine zU (zl ?_)
 cases h
 exact ⟨rfl, zE⟩
 refine zj (zk (yn (zn (zr ?_))))
 refine zU (zl ?_)
 cases h
 exact ⟨rfl, zE⟩
 have h105T := eq_false h105
 refine zj (zx (ze ?_))
 cases h
 exact ⟨rfl, zE⟩
 obtain ⟨m120, f121⟩ := o99
 try simp only at h
 refine zA (yh (zn (zs (zr ?_))))
 refine zU (zl (zn (zs (zs (zr ?_)))))
 refine zU (zl (zn (zb ?_)))
 obtain ⟨o122, h123, h⟩ := zB h
 refine zO (fun (s : (List (Canonical × Bool)) × List Canonical × Int) => ⟨[(1, .p (.int .u32 x21)), (2, .loc 206 1 0 0), (5, .own 240 1 0 f121.length), (7, .own 268 1 0 s.2.1.length), (38, .own 240 1 0 f121.length), (39, .p (.int .i64 ((f121.length : Nat) : Int))), (40, .p (.int .i64 s.2.2))], [(19, .arr 71 4 1 [.agg [.p (.str t1.Name), .p (.slc (List.map PV.str t1.Attrs)), .p (.slc (List.map encRow t1.Rows)), .mapo 29 1]]), (29, .map 1 (List.map AV.p (encK encCanonical s.1)) (List.map AV.p (encW PV.bool s.1))), (46, .arr 38 3 1 (List.map AV.p (List.map encCanonical (o18 ++ o94)))), (206, .arr 71 4 1 [.agg [.p (.str t1.Name), .p (.slc (List.map PV.str t1.Attrs)), .p (.slc (List.map encRow t1.Rows)), .mapo 29 1]]), (240, .arr 3 1 1 (List.map AV.p (List.map (PV.int .i64) f121))), (268, .arr 38 3 1 (List.map AV.p (List.map encCanonical s.2.1)))]⟩) (fun (o124 : List Canonical × (List (Canonical × Bool))) => tE ⟨Tryz.prog, 68, 204, X, [(19, .arr 71 4 1 [.agg [.p (.str t1.Name), .p (.slc (List.map PV.str t1.Attrs)), .p (.slc (List.map encRow t1.Rows)), .mapo 29 1]]), (29, .map 1 (List.map AV.p (encK encCanonical b95)) (List.map AV.p (encW PV.bool b95))), (46, .arr 38 3 1 (List.map AV.p (List.map encCanonical (o18 ++ o94))))], i97, w98, D⟩ (.exit 2) ⟨[(7, .own 268 1 0 o124.1.length)], [(19, .arr 71 4 1 [.agg [.p (.str t1.Name), .p (.slc (List.map PV.str t1.Attrs)), .p (.slc (List.map encRow t1.Rows)), .mapo 29 1]]), (29, .map 1 (List.map AV.p (encK encCanonical o124.2)) (List.map AV.p (encW PV.bool o124.2))), (46, .arr 38 3 1 (List.map AV.p (List.map encCanonical (o18 ++ o94)))), (268, .arr 38 3 1 (List.map AV.p (List.map encCanonical o124.1)))]⟩) h123 ?_ ?_
 clear h h20 h20T h22 h22a h22b h26 h96 h100 h123
 intro s x h
 obtain ⟨m125, o126, t127⟩ := s
 simp only [odmine_Constants_l403] at h
 dsimp only
 refine zs (zr ?_)
 refine zU (zl (zn (zs ?_)))
 rcases zI h with ⟨h128, h⟩ | ⟨h128, h⟩
 refine zi (zk (zn (zs (zb (zs (zr ?_))))))
 obtain ⟨x129, h130, h130a, h130b, h⟩ := zX h
 refine zU (zl (zn (zs (zr ?_))))
 obtain ⟨h131, h⟩ := ite_some h
 obtain ⟨h132, h⟩ := ite_some h
 refine zU (zl (zn (zb ?_)))
 obtain ⟨o133, h134, h⟩ := zB h
 refine zO (fun (s : (List (Canonical × Bool)) × List Canonical × Int) => ⟨[(1, .p (.int .u32 x21)), (2, .loc 206 1 0 0), (5, .own 240 1 0 f121.length), (7, .own 268 1 0 s.2.1.length), (9, .p (.int .i64 x129)), (38, .own 240 1 0 f121.length), (39, .p (.int .i64 ((f121.length : Nat) : Int))), (40, .p (.int .i64 t127)), (48, .own 240 1 (IntKind.i64.wrap (t127 + 1)).toNat (f121.length - (IntKind.i64.wrap (t127 + 1)).toNat)), (49, .p (.int .i64 (((f121.length - (IntKind.i64.wrap (t127 + 1)).toNat) : Nat) : Int))), (50, .p (.int .i64 s.2.2))], [(19, .arr 71 4 1 [.agg [.p (.str t1.Name), .p (.slc (List.map PV.str t1.Attrs)), .p (.slc (List.map encRow t1.Rows)), .mapo 29 1]]), (29, .map 1 (List.map AV.p (encK encCanonical s.1)) (List.map AV.p (encW PV.bool s.1))), (46, .arr 38 3 1 (List.map AV.p (List.map encCanonical (o18 ++ o94)))), (206, .arr 71 4 1 [.agg [.p (.str t1.Name), .p (.slc (List.map PV.str t1.Attrs)), .p (.slc (List.map encRow t1.Rows)), .mapo 29 1]]), (240, .arr 3 1 1 (List.map AV.p (List.map (PV.int .i64) f121))), (268, .arr 38 3 1 (List.map AV.p (List.map encCanonical s.2.1)))]⟩) (fun (o135 : (List (Canonical × Bool)) × List Canonical) => tE ⟨Tryz.prog, 68, 204, X, [(19, .arr 71 4 1 [.agg [.p (.str t1.Name), .p (.slc (List.map PV.str t1.Attrs)), .p (.slc (List.map encRow t1.Rows)), .mapo 29 1]]), (29, .map 1 (List.map AV.p (encK encCanonical b95)) (List.map AV.p (encW PV.bool b95))), (46, .arr 38 3 1 (List.map AV.p (List.map encCanonical (o18 ++ o94))))], i97, w98, D⟩ (.exit 4) ⟨[(1, .p (.int .u32 x21)), (2, .loc 206 1 0 0), (5, .own 240 1 0 f121.length), (7, .own 268 1 0 o135.2.length), (38, .own 240 1 0 f121.length), (39, .p (.int .i64 ((f121.length : Nat) : Int))), (40, .p (.int .i64 t127))], [(19, .arr 71 4 1 [.agg [.p (.str t1.Name), .p (.slc (List.map PV.str t1.Attrs)), .p (.slc (List.map encRow t1.Rows)), .mapo 29 1]]), (29, .map 1 (List.map AV.p (encK encCanonical o135.1)) (List.map AV.p (encW PV.bool o135.1))), (46, .arr 38 3 1 (List.map AV.p (List.map encCanonical (o18 ++ o94)))), (206, .arr 71 4 1 [.agg [.p (.str t1.Name), .p (.slc (List.map PV.str t1.Attrs)), .p (.slc (List.map encRow t1.Rows)), .mapo 29 1]]), (240, .arr 3 1 1 (List.map AV.p (List.map (PV.int .i64) f121))), (268, .arr 38 3 1 (List.map AV.p (List.map encCanonical o135.2)))]⟩) h134 ?_ ?_
 clear h h128 h130 h130a h130b h131 h132 h134
 intro s x h
 obtain ⟨m136, o137, t138⟩ := s
 simp only [odmine_Constants_l402] at h
 dsimp only
 refine zs (zr ?_)
 refine zU (zl (zn (zs ?_)))
 rcases zI h with ⟨h139, h⟩ | ⟨h139, h⟩
 have h139T := eq_true h139
 refine zi (zk (zn (zs (zb (zs (zr ?_))))))
 obtain ⟨x140, h141, h141a, h141b, h⟩ := zX h
 obtain ⟨h142, h142n⟩ := part_get h141
 have h142N := eq_true (part_lt h142n h141a)
 refine zU (zl (zn (zs (zr ?_))))
 refine zU (zl (zn ?_))
 obtain ⟨o143, h144, h⟩ := zB h
 refine zJ (fun (o145 : (List (Canonical × Bool)) × Bool) => tE ⟨Tryz.prog, 68, 204, X, [(19, .arr 71 4 1 [.agg [.p (.str t1.Name), .p (.slc (List.map PV.str t1.Attrs)), .p (.slc (List.map encRow t1.Rows)), .mapo 29 1]]), (29, .map 1 (List.map AV.p (encK encCanonical b95)) (List.map AV.p (encW PV.bool b95))), (46, .arr 38 3 1 (List.map AV.p (List.map encCanonical (o18 ++ o94))))], i97, w98, D⟩ .normal ⟨[(1, .p (.int .u32 x21)), (2, .loc 206 1 0 0), (5, .own 240 1 0 f121.length), (7, .own 268 1 0 o137.length), (9, .p (.int .i64 x129)), (12, .loc 216 1 0 0), (38, .own 240 1 0 f121.length), (39, .p (.int .i64 ((f121.length : Nat) : Int))), (40, .p (.int .i64 t127)), (48, .own 240 1 (IntKind.i64.wrap (t127 + 1)).toNat (f121.length - (IntKind.i64.wrap (t127 + 1)).toNat)), (49, .p (.int .i64 (((f121.length - (IntKind.i64.wrap (t127 + 1)).toNat) : Nat) : Int))), (50, .p (.int .i64 t138)), (60, .p (.bool o145.2))], [(19, .arr 71 4 1 [.agg [.p (.str t1.Name), .p (.slc (List.map PV.str t1.Attrs)), .p (.slc (List.map encRow t1.Rows)), .mapo 29 1]]), (29, .map 1 (List.map AV.p (encK encCanonical o145.1)) (List.map AV.p (encW PV.bool o145.1))), (46, .arr 38 3 1 (List.map AV.p (List.map encCanonical (o18 ++ o94)))), (206, .arr 71 4 1 [.agg [.p (.str t1.Name), .p (.slc (List.map PV.str t1.Attrs)), .p (.slc (List.map encRow t1.Rows)), .mapo 29 1]]), (216, .arr 38 3 1 [.p (.agg [.int .u32 x21, .int .i64 x129, .int .i64 x140])]), (240, .arr 3 1 1 (List.map AV.p (List.map (PV.int .i64) f121))), (268, .arr 38 3 1 (List.map AV.p (List.map encCanonical o137)))]⟩) o143 ?_ ?_
 replace h := h144
 clear h144
 refine zr ?_
 refine zU ?_
 refine zM ⟨[(1, .p (.int .u32 x21)), (2, .loc 206 1 0 0), (5, .own 240 1 0 f121.length), (7, .own 268 1 0 o137.length), (9, .p (.int .i64 x129)), (12, .loc 216 1 0 0), (38, .own 240 1 0 f121.length), (39, .p (.int .i64 ((f121.length : Nat) : Int))), (40, .p (.int .i64 t127)), (48, .own 240 1 (IntKind.i64.wrap (t127 + 1)).toNat (f121.length - (IntKind.i64.wrap (t127 + 1)).toNat)), (49, .p (.int .i64 (((f121.length - (IntKind.i64.wrap (t127 + 1)).toNat) : Nat) : Int))), (50, .p (.int .i64 t138)), (58, .agg [.p (.str t1.Name), .p (.slc (List.map PV.str t1.Attrs)), .p (.slc (List.map encRow t1.Rows)), .mapo 29 1]), (59, .p (.agg [.int .u32 x21, .int .i64 x129, .int .i64 x140]))], [(19, .arr 71 4 1 [.agg [.p (.str t1.Name), .p (.slc (List.map PV.str t1.Attrs)), .p (.slc (List.map encRow t1.Rows)), .mapo 29 1]]), (29, .map 1 (List.map AV.p (encK encCanonical m136)) (List.map AV.p (encW PV.bool m136))), (46, .arr 38 3 1 (List.map AV.p (List.map encCanonical (o18 ++ o94)))), (206, .arr 71 4 1 [.agg [.p (.str t1.Name), .p (.slc (List.map PV.str t1.Attrs)), .p (.slc (List.map encRow t1.Rows)), .mapo 29 1]]), (216, .arr 38 3 1 [.p (.agg [.int .u32 x21, .int .i64 x129, .int .i64 x140])]), (240, .arr 3 1 1 (List.map AV.p (List.map (PV.int .i64) f121))), (268, .arr 38 3 1 (List.map AV.p (List.map encCanonical o137)))]⟩ ?_
 refine AL_inline (avs := [.agg [.p (.str t1.Name), .p (.slc (List.map PV.str t1.Attrs)), .p (.slc (List.map encRow t1.Rows)), .mapo 29 1], .p (.agg [.int .u32 x21, .int .i64 x129, .int .i64 x140])]) 300 rfl (guard_none rfl) rfl Tryz.func62 rfl Tryz.call62 Tryz.ntmps62 (by simp) (by simp only [go_sem, seval, h139T]; all_goals rfl) ?_
 intro i146 w147
 show AWp _ _ _ ⟨[(0, .agg [.p (.str t1.Name), .p (.slc (List.map PV.str t1.Attrs)), .p (.slc (List.map encRow t1.Rows)), .mapo 29 1]), (1, .p (.agg [.int .u32 x21, .int .i64 x129, .int .i64 x140]))], [(19, .arr 71 4 1 [.agg [.p (.str t1.Name), .p (.slc (List.map PV.str t1.Attrs)), .p (.slc (List.map encRow t1.Rows)), .mapo 29 1]]), (29, .map 1 (List.map AV.p (encK encCanonical m136)) (List.map AV.p (encW PV.bool m136))), (46, .arr 38 3 1 (List.map AV.p (List.map encCanonical (o18 ++ o94)))), (206, .arr 71 4 1 [.agg [.p (.str t1.Name), .p (.slc (List.map PV.str t1.Attrs)), .p (.slc (List.map encRow t1.Rows)), .mapo 29 1]]), (216, .arr 38 3 1 [.p (.agg [.int .u32 x21, .int .i64 x129, .int .i64 x140])]), (240, .arr 3 1 1 (List.map AV.p (List.map (PV.int .i64) f121))), (268, .arr 38 3 1 (List.map AV.p (List.map encCanonical o137)))]⟩
 refine zs (zr ?_)
 refine zU (zl (zn (zs (zs (zr ?_)))))
 refine zU ?_
 refine zM ⟨[(2, .loc 302 1 0 0), (3, .loc 303 1 0 0), (6, .agg [.p (.str t1.Name), .p (.slc (List.map PV.str t1.Attrs)), .p (.slc (List.map encRow t1.Rows)), .mapo 29 1]), (7, .p (.agg [.int .u32 x21, .int .i64 x129, .int .i64 x140]))], [(19, .arr 71 4 1 [.agg [.p (.str t1.Name), .p (.slc (List.map PV.str t1.Attrs)), .p (.slc (List.map encRow t1.Rows)), .mapo 29 1]]), (29, .map 1 (List.map AV.p (encK encCanonical m136)) (List.map AV.p (encW PV.bool m136))), (46, .arr 38 3 1 (List.map AV.p (List.map encCanonical (o18 ++ o94)))), (206, .arr 71 4 1 [.agg [.p (.str t1.Name), .p (.slc (List.map PV.str t1.Attrs)), .p (.slc (List.map encRow t1.Rows)), .mapo 29 1]]), (216, .arr 38 3 1 [.p (.agg [.int .u32 x21, .int .i64 x129, .int .i64 x140])]), (240, .arr 3 1 1 (List.map AV.p (List.map (PV.int .i64) f121))), (268, .arr 38 3 1 (List.map AV.p (List.map encCanonical o137))), (302, .arr 71 4 1 [.agg [.p (.str t1.Name), .p (.slc (List.map PV.str t1.Attrs)), .p (.slc (List.map encRow t1.Rows)), .mapo 29 1]]), (303, .arr 38 3 1 [.p (.agg [.int .u32 x21, .int .i64 x129, .int .i64 x140])])]⟩ ?_
 refine AL_inline (avs := [.agg [.p (.str t1.Name), .p (.slc (List.map PV.str t1.Attrs)), .p (.slc (List.map encRow t1.Rows)), .mapo 29 1], .p (.agg [.int .u32 x21, .int .i64 x129, .int .i64 x140])]) 332 rfl (guard_none rfl) rfl Tryz.func63 rfl Tryz.call63 Tryz.ntmps63 (by simp) (by simp only [go_sem, seval, h139T]; all_goals rfl) ?_
 intro i148 w149
 show AWp _ _ _ ⟨[(0, .agg [.p (.str t1.Name), .p (.slc (List.map PV.str t1.Attrs)), .p (.slc (List.map encRow t1.Rows)), .mapo 29 1]), (1, .p (.agg [.int .u32 x21, .int .i64 x129, .int .i64 x140]))], [(19, .arr 71 4 1 [.agg [.p (.str t1.Name), .p (.slc (List.map PV.str t1.Attrs)), .p (.slc (List.map encRow t1.Rows)), .mapo 29 1]]), (29, .map 1 (List.map AV.p (encK encCanonical m136)) (List.map AV.p (encW PV.bool m136))), (46, .arr 38 3 1 (List.map AV.p (List.map encCanonical (o18 ++ o94)))), (206, .arr 71 4 1 [.agg [.p (.str t1.Name), .p (.slc (List.map PV.str t1.Attrs)), .p (.slc (List.map encRow t1.Rows)), .mapo 29 1]]), (216, .arr 38 3 1 [.p (.agg [.int .u32 x21, .int .i64 x129, .int .i64 x140])]), (240, .arr 3 1 1 (List.map AV.p (List.map (PV.int .i64) f121))), (268, .arr 38 3 1 (List.map AV.p (List.map encCanonical o137))), (302, .arr 71 4 1 [.agg [.p (.str t1.Name), .p (.slc (List.map PV.str t1.Attrs)), .p (.slc (List.map encRow t1.Rows)), .mapo 29 1]]), (303, .arr 38 3 1 [.p (.agg [.int .u32 x21, .int .i64 x129, .int .i64 x140])])]⟩
 refine zs (zr ?_)
 refine zU (zl (zn (zs (zr ?_))))
 refine zU (zl (zn (zs (zs (zr ?_)))))
 refine zU (zl (zn ?_))
 rcases zI h with ⟨h150, h⟩ | ⟨h150, h⟩
 refine zj (zk (zn (zs (zr ?_))))
 refine zU (zl (zn (zq ?_)))
 refine inlQ_ret (by simp only [Tryz.results63]; simp only [go_sem, seval, h139T, h150]; exact rfl) ?_
 refine zU (zl (zn ?_))
 rcases zI h with ⟨h151, h⟩ | ⟨h151, h⟩
 refine zj (zk (zn (zs (zs (zr ?_)))))
 refine zU (zl (zn (zb ?_)))
 obtain ⟨o152, h153, h⟩ := zB h
 refine zO (fun (s : (List (Canonical × Bool)) × Int) => ⟨[(2, .loc 302 1 0 0), (3, .loc 303 1 0 0), (5, .p (.int .u32 s.2))], [(19, .arr 71 4 1 [.agg [.p (.str t1.Name), .p (.slc (List.map PV.str t1.Attrs)), .p (.slc (List.map encRow t1.Rows)), .mapo 29 1]]), (29, .map 1 (List.map AV.p (encK encCanonical s.1)) (List.map AV.p (encW PV.bool s.1))), (46, .arr 38 3 1 (List.map AV.p (List.map encCanonical (o18 ++ o94)))), (206, .arr 71 4 1 [.agg [.p (.str t1.Name), .p (.slc (List.map PV.str t1.Attrs)), .p (.slc (List.map encRow t1.Rows)), .mapo 29 1]]), (216, .arr 38 3 1 [.p (.agg [.int .u32 x21, .int .i64 x129, .int .i64 x140])]), (240, .arr 3 1 1 (List.map AV.p (List.map (PV.int .i64) f121))), (268, .arr 38 3 1 (List.map AV.p (List.map encCanonical o137))), (302, .arr 71 4 1 [.agg [.p (.str t1.Name), .p (.slc (List.map PV.str t1.Attrs)), .p (.slc (List.map encRow t1.Rows)), .mapo 29 1]]), (303, .arr 38 3 1 [.p (.agg [.int .u32 x21, .int .i64 x129, .int .i64 x140])])]⟩) (fun (o : ((List (Canonical × Bool))) ⊕ ((List (Canonical × Bool)))) => match o with | .inl o154 => tE ⟨Tryz.prog, 32, 300, X, [(19, .arr 71 4 1 [.agg [.p (.str t1.Name), .p (.slc (List.map PV.str t1.Attrs)), .p (.slc (List.map encRow t1.Rows)), .mapo 29 1]]), (29, .map 1 (List.map AV.p (encK encCanonical m136)) (List.map AV.p (encW PV.bool m136))), (46, .arr 38 3 1 (List.map AV.p (List.map encCanonical (o18 ++ o94)))), (206, .arr 71 4 1 [.agg [.p (.str t1.Name), .p (.slc (List.map PV.str t1.Attrs)), .p (.slc (List.map encRow t1.Rows)), .mapo 29 1]]), (216, .arr 38 3 1 [.p (.agg [.int .u32 x21, .int .i64 x129, .int .i64 x140])]), (240, .arr 3 1 1 (List.map AV.p (List.map (PV.int .i64) f121))), (268, .arr 38 3 1 (List.map AV.p (List.map encCanonical o137)))], i146, w147, D⟩ (.exit 0) ⟨[], [(19, .arr 71 4 1 [.agg [.p (.str t1.Name), .p (.slc (List.map PV.str t1.Attrs)), .p (.slc (List.map encRow t1.Rows)), .mapo 29 1]]), (29, .map 1 (List.map AV.p (encK encCanonical o154)) (List.map AV.p (encW PV.bool o154))), (46, .arr 38 3 1 (List.map AV.p (List.map encCanonical (o18 ++ o94)))), (206, .arr 71 4 1 [.agg [.p (.str t1.Name), .p (.slc (List.map PV.str t1.Attrs)), .p (.slc (List.map encRow t1.Rows)), .mapo 29 1]]), (216, .arr 38 3 1 [.p (.agg [.int .u32 x21, .int .i64 x129, .int .i64 x140])]), (240, .arr 3 1 1 (List.map AV.p (List.map (PV.int .i64) f121))), (268, .arr 38 3 1 (List.map AV.p (List.map encCanonical o137)))]⟩ | .inr o155 => tE ⟨Tryz.prog, 32, 300, X, [(19, .arr 71 4 1 [.agg [.p (.str t1.Name), .p (.slc (List.map PV.str t1.Attrs)), .p (.slc (List.map encRow t1.Rows)), .mapo 29 1]]), (29, .map 1 (List.map AV.p (encK encCanonical m136)) (List.map AV.p (encW PV.bool m136))), (46, .arr 38 3 1 (List.map AV.p (List.map encCanonical (o18 ++ o94)))), (206, .arr 71 4 1 [.agg [.p (.str t1.Name), .p (.slc (List.map PV.str t1.Attrs)), .p (.slc (List.map encRow t1.Rows)), .mapo 29 1]]), (216, .arr 38 3 1 [.p (.agg [.int .u32 x21, .int .i64 x129, .int .i64 x140])]), (240, .arr 3 1 1 (List.map AV.p (List.map (PV.int .i64) f121))), (268, .arr 38 3 1 (List.map AV.p (List.map encCanonical o137)))], i146, w147, D⟩ .ret ⟨[(4, .p (.bool false))], [(19, .arr 71 4 1 [.agg [.p (.str t1.Name), .p (.slc (List.map PV.str t1.Attrs)), .p (.slc (List.map encRow t1.Rows)), .mapo 29 1]]), (29, .map 1 (List.map AV.p (encK encCanonical o155)) (List.map AV.p (encW PV.bool o155))), (46, .arr 38 3 1 (List.map AV.p (List.map encCanonical (o18 ++ o94)))), (206, .arr 71 4 1 [.agg [.p (.str t1.Name), .p (.slc (List.map PV.str t1.Attrs)), .p (.slc (List.map encRow t1.Rows)), .mapo 29 1]]), (216, .arr 38 3 1 [.p (.agg [.int .u32 x21, .int .i64 x129, .int .i64 x140])]), (240, .arr 3 1 1 (List.map AV.p (List.map (PV.int .i64) f121))), (268, .arr 38 3 1 (List.map AV.p (List.map encCanonical o137)))]⟩) h153 ?_ ?_
 clear h h139 h139T h141 h141a h141b h142 h142n h142N h150 h151 h153
 intro s x h
 obtain ⟨m156, r157⟩ := s
 simp only [odmine_Constants_l400] at h
 dsimp only
 refine zs (zs (zr ?_))
 refine zU (zl (zn ?_))
 rcases zI h with ⟨h158, h⟩ | ⟨h158, h⟩
 refine zi (zk (zn ?_))
 obtain ⟨o159, h160, h⟩ := zB h
 refine zJ (fun (o : ((List (Canonical × Bool))) ⊕ ((List (Canonical × Bool)))) => match o with | .inl o161 => tE ⟨Tryz.prog, 32, 300, X, [(19, .arr 71 4 1 [.agg [.p (.str t1.Name), .p (.slc (List.map PV.str t1.Attrs)), .p (.slc (List.map encRow t1.Rows)), .mapo 29 1]]), (29, .map 1 (List.map AV.p (encK encCanonical m136)) (List.map AV.p (encW PV.bool m136))), (46, .arr 38 3 1 (List.map AV.p (List.map encCanonical (o18 ++ o94)))), (206, .arr 71 4 1 [.agg [.p (.str t1.Name), .p (.slc (List.map PV.str t1.Attrs)), .p (.slc (List.map encRow t1.Rows)), .mapo 29 1]]), (216, .arr 38 3 1 [.p (.agg [.int .u32 x21, .int .i64 x129, .int .i64 x140])]), (240, .arr 3 1 1 (List.map AV.p (List.map (PV.int .i64) f121))), (268, .arr 38 3 1 (List.map AV.p (List.map encCanonical o137)))], i146, w147, D⟩ .normal ⟨[(2, .loc 302 1 0 0), (3, .loc 303 1 0 0), (5, .p (.int .u32 r157))], [(19, .arr 71 4 1 [.agg [.p (.str t1.Name), .p (.slc (List.map PV.str t1.Attrs)), .p (.slc (List.map encRow t1.Rows)), .mapo 29 1]]), (29, .map 1 (List.map AV.p (encK encCanonical o161)) (List.map AV.p (encW PV.bool o161))), (46, .arr 38 3 1 (List.map AV.p (List.map encCanonical (o18 ++ o94)))), (206, .arr 71 4 1 [.agg [.p (.str t1.Name), .p (.slc (List.map PV.str t1.Attrs)), .p (.slc (List.map encRow t1.Rows)), .mapo 29 1]]), (216, .arr 38 3 1 [.p (.agg [.int .u32 x21, .int .i64 x129, .int .i64 x140])]), (240, .arr 3 1 1 (List.map AV.p (List.map (PV.int .i64) f121))), (268, .arr 38 3 1 (List.map AV.p (List.map encCanonical o137))), (302, .arr 71 4 1 [.agg [.p (.str t1.Name), .p (.slc (List.map PV.str t1.Attrs)), .p (.slc (List.map encRow t1.Rows)), .mapo 29 1]]), (303, .arr 38 3 1 [.p (.agg [.int .u32 x21, .int .i64 x129, .int .i64 x140])])]⟩ | .inr o162 => tE ⟨Tryz.prog, 32, 300, X, [(19, .arr 71 4 1 [.agg [.p (.str t1.Name), .p (.slc (List.map PV.str t1.Attrs)), .p (.slc (List.map encRow t1.Rows)), .mapo 29 1]]), (29, .map 1 (List.map AV.p (encK encCanonical m136)) (List.map AV.p (encW PV.bool m136))), (46, .arr 38 3 1 (List.map AV.p (List.map encCanonical (o18 ++ o94)))), (206, .arr 71 4 1 [.agg [.p (.str t1.Name), .p (.slc (List.map PV.str t1.Attrs)), .p (.slc (List.map encRow t1.Rows)), .mapo 29 1]]), (216, .arr 38 3 1 [.p (.agg [.int .u32 x21, .int .i64 x129, .int .i64 x140])]), (240, .arr 3 1 1 (List.map AV.p (List.map (PV.int .i64) f121))), (268, .arr 38 3 1 (List.map AV.p (List.map encCanonical o137)))], i146, w147, D⟩ .ret ⟨[(4, .p (.bool false))], [(19, .arr 71 4 1 [.agg [.p (.str t1.Name), .p (.slc (List.map PV.str t1.Attrs)), .p (.slc (List.map encRow t1.Rows)), .mapo 29 1]]), (29, .map 1 (List.map AV.p (encK encCanonical o162)) (List.map AV.p (encW PV.bool o162))), (46, .arr 38 3 1 (List.map AV.p (List.map encCanonical (o18 ++ o94)))), (206, .arr 71 4 1 [.agg [.p (.str t1.Name), .p (.slc (List.map PV.str t1.Attrs)), .p (.slc (List.map encRow t1.Rows)), .mapo 29 1]]), (216, .arr 38 3 1 [.p (.agg [.int .u32 x21, .int .i64 x129, .int .i64 x140])]), (240, .arr 3 1 1 (List.map AV.p (List.map (PV.int .i64) f121))), (268, .arr 38 3 1 (List.map AV.p (List.map encCanonical o137)))]⟩) o159 ?_ ?_
 replace h := h160
 clear h160
 refine zb (zs (zr ?_))
 refine zU ?_
 refine zM ⟨[(2, .loc 302 1 0 0), (3, .loc 303 1 0 0), (5, .p (.int .u32 r157)), (18, .agg [.p (.str t1.Name), .p (.slc (List.map PV.str t1.Attrs)), .p (.slc (List.map encRow t1.Rows)), .mapo 29 1]), (30, .p (.agg [.int .u32 (IntKind.u32.wrap ((BitVec.ofInt 32 x21 &&& ~~~ (BitVec.ofInt 32 (IntKind.u32.wrap ((BitVec.ofInt 32 r157 &&& (BitVec.ofInt 32 (IntKind.u32.wrap (0 - r157)))).toNat : Int)))).toNat : Int)), .int .i64 x129, .int .i64 x140]))], [(19, .arr 71 4 1 [.agg [.p (.str t1.Name), .p (.slc (List.map PV.str t1.Attrs)), .p (.slc (List.map encRow t1.Rows)), .mapo 29 1]]), (29, .map 1 (List.map AV.p (encK encCanonical m156)) (List.map AV.p (encW PV.bool m156))), (46, .arr 38 3 1 (List.map AV.p (List.map encCanonical (o18 ++ o94)))), (206, .arr 71 4 1 [.agg [.p (.str t1.Name), .p (.slc (List.map PV.str t1.Attrs)), .p (.slc (List.map encRow t1.Rows)), .mapo 29 1]]), (216, .arr 38 3 1 [.p (.agg [.int .u32 x21, .int .i64 x129, .int .i64 x140])]), (240, .arr 3 1 1 (List.map AV.p (List.map (PV.int .i64) f121))), (268, .arr 38 3 1 (List.map AV.p (List.map encCanonical o137))), (302, .arr 71 4 1 [.agg [.p (.str t1.Name), .p (.slc (List.map PV.str t1.Attrs)), .p (.slc (List.map encRow t1.Rows)), .mapo 29 1]]), (303, .arr 38 3 1 [.p (.agg [.int .u32 x21, .int .i64 x129, .int .i64 x140])])]⟩ ?_
 refine AL_inline (avs := [.agg [.p (.str t1.Name), .p (.slc (List.map PV.str t1.Attrs)), .p (.slc (List.map encRow t1.Rows)), .mapo 29 1], .p (.agg [.int .u32 (IntKind.u32.wrap ((BitVec.ofInt 32 x21 &&& ~~~ (BitVec.ofInt 32 (IntKind.u32.wrap ((BitVec.ofInt 32 r157 &&& (BitVec.ofInt 32 (IntKind.u32.wrap (0 - r157)))).toNat : Int)))).toNat : Int)), .int .i64 x129, .int .i64 x140])]) 360 rfl (guard_none rfl) rfl Tryz.func63 rfl Tryz.call63 Tryz.ntmps63 (by simp) (by simp only [go_sem, seval, h158]; all_goals rfl) ?_
 intro i163 w164
 show AWp _ _ _ ⟨[(0, .agg [.p (.str t1.Name), .p (.slc (List.map PV.str t1.Attrs)), .p (.slc (List.map encRow t1.Rows)), .mapo 29 1]), (1, .p (.agg [.int .u32 (IntKind.u32.wrap ((BitVec.ofInt 32 x21 &&& ~~~ (BitVec.ofInt 32 (IntKind.u32.wrap ((BitVec.ofInt 32 r157 &&& (BitVec.ofInt 32 (IntKind.u32.wrap (0 - r157)))).toNat : Int)))).toNat : Int)), .int .i64 x129, .int .i64 x140]))], [(19, .arr 71 4 1 [.agg [.p (.str t1.Name), .p (.slc (List.map PV.str t1.Attrs)), .p (.slc (List.map encRow t1.Rows)), .mapo 29 1]]), (29, .map 1 (List.map AV.p (encK encCanonical m156)) (List.map AV.p (encW PV.bool m156))), (46, .arr 38 3 1 (List.map AV.p (List.map encCanonical (o18 ++ o94)))), (206, .arr 71 4 1 [.agg [.p (.str t1.Name), .p (.slc (List.map PV.str t1.Attrs)), .p (.slc (List.map encRow t1.Rows)), .mapo 29 1]]), (216, .arr 38 3 1 [.p (.agg [.int .u32 x21, .int .i64 x129, .int .i64 x140])]), (240, .arr 3 1 1 (List.map AV.p (List.map (PV.int .i64) f121))), (268, .arr 38 3 1 (List.map AV.p (List.map encCanonical o137))), (302, .arr 71 4 1 [.agg [.p (.str t1.Name), .p (.slc (List.map PV.str t1.Attrs)), .p (.slc (List.map encRow t1.Rows)), .mapo 29 1]]), (303, .arr 38 3 1 [.p (.agg [.int .u32 x21, .int .i64 x129, .int .i64 x140])])]⟩
 refine zs (zr ?_)
 refine zU (zl (zn (zs (zr ?_))))
 refine zU (zl (zn (zs (zs (zr ?_)))))
 refine zU (zl (zn ?_))
 rcases zI h with ⟨h165, h⟩ | ⟨h165, h⟩
 refine zj (zk (zn (zs (zr ?_))))
 refine zU (zl (zn (zq ?_)))
 refine inlQ_ret (by simp only [Tryz.results63]; simp only [go_sem, seval, h158, h165]; exact rfl) ?_
 refine zl (zn ?_)
 rcases zI h with ⟨h166, h⟩ | ⟨h166, h⟩
 refine zi (zs (zr ?_))
 refine zU (zl (zn (zq (yr ?_))))
 cases h
 exact ⟨rfl, zE⟩
 refine zj (zk (yn ?_))
 cases h
 exact ⟨rfl, zE⟩
 have h165F := Bool.eq_false_iff.2 h165
 refine zi (zs (zr ?_))
 refine zU ?_
 obtain ⟨r167, h168, h⟩ := zB h
 refine zc (ordering_Satisfies_con t1 (Canonical.mk (IntKind.u32.wrap ((BitVec.ofInt 32 x21 &&& ~~~ (BitVec.ofInt 32 (IntKind.u32.wrap ((BitVec.ofInt 32 r157 &&& (BitVec.ofInt 32 (IntKind.u32.wrap (0 - r157)))).toNat : Int)))).toNat : Int)) x129 x140) _ h168) ?_
 refine zU (zl (zn (zr ?_)))
 refine zU (zl (zn (zs (zr ?_))))
 refine zU (zl (zn (zq ?_)))
 refine inlQ_ret (by simp only [Tryz.results63]; simp only [go_sem, seval, h158, h165F]; exact rfl) ?_
 refine zl (zn ?_)
 rcases zI h with ⟨h169, h⟩ | ⟨h169, h⟩
 refine zi (zs (zr ?_))
 refine zU (zl (zn (zq (yr ?_))))
 cases h
 exact ⟨rfl, zE⟩
 refine zj (zk (yn ?_))
 cases h
 exact ⟨rfl, zE⟩
 rcases o159 with m170 | b171
 try simp only at h
 refine zA (zn (zr ?_))
 refine zU (zl ?_)
 cases h
 exact ⟨rfl, zE⟩
 try simp only at h
 refine zA (zt ?_)
 cases h
 exact ⟨rfl, zE⟩
 refine zj (zx (ze ?_))
 cases h
 exact ⟨rfl, zE⟩
 rcases o152 with b172 | b173
 try simp only at h
 refine zA (yh (zn (zs (zr ?_))))
 refine zU (zl (zn (zq ?_)))
 refine inlQ_ret (by simp only [Tryz.results62]; simp only [go_sem, seval, h139T, h150, h151]; exact rfl) ?_
 refine zl ?_
 cases h
 exact ⟨rfl, zE⟩
 try simp only at h
 refine zA (yr (zt ?_))
 refine inlQ_ret (by simp only [Tryz.results62]; simp only [go_sem, seval, h139T, h150, h151]; exact rfl) ?_
 refine zl ?_
 cases h
 exact ⟨rfl, zE⟩
 have h151F := Bool.eq_false_iff.2 h151
 refine zi (zs (zr ?_))
 refine zU (zl (zn (zq (zt ?_))))
 refine inlQ_ret (by simp only [Tryz.results62]; simp only [go_sem, seval, h139T, h150, h151F]; exact rfl) ?_
 refine zl ?_
 cases h
 exact ⟨rfl, zE⟩
 have h150F := Bool.eq_false_iff.2 h150
 refine zi (zs (zr ?_))
 refine zU ?_
 obtain ⟨r174, h175, h⟩ := zB h
 refine zc (ordering_Satisfies_con t1 (Canonical.mk x21 x129 x140) _ h175) ?_
 refine zU (zl (zn (zr ?_)))
 refine zU (zl (zn (zs (zr ?_))))
 refine zU (zl (zn (zq ?_)))
 refine inlQ_ret (by simp only [Tryz.results63]; simp only [go_sem, seval, h139T, h150F]; exact rfl) ?_
 refine zU (zl (zn ?_))
 rcases zI h with ⟨h176, h⟩ | ⟨h176, h⟩
 refine zj (zk (zn (zs (zs (zr ?_)))))
 refine zU (zl (zn (zb ?_)))
 obtain ⟨o177, h178, h⟩ := zB h
 refine zO (fun (s : (List (Canonical × Bool)) × Int) => ⟨[(2, .loc 302 1 0 0), (3, .loc 303 1 0 0), (5, .p (.int .u32 s.2))], [(19, .arr 71 4 1 [.agg [.p (.str t1.Name), .p (.slc (List.map PV.str t1.Attrs)), .p (.slc (List.map encRow t1.Rows)), .mapo 29 1]]), (29, .map 1 (List.map AV.p (encK encCanonical s.1)) (List.map AV.p (encW PV.bool s.1))), (46, .arr 38 3 1 (List.map AV.p (List.map encCanonical (o18 ++ o94)))), (206, .arr 71 4 1 [.agg [.p (.str t1.Name), .p (.slc (List.map PV.str t1.Attrs)), .p (.slc (List.map encRow t1.Rows)), .mapo 29 1]]), (216, .arr 38 3 1 [.p (.agg [.int .u32 x21, .int .i64 x129, .int .i64 x140])]), (240, .arr 3 1 1 (List.map AV.p (List.map (PV.int .i64) f121))), (268, .arr 38 3 1 (List.map AV.p (List.map encCanonical o137))), (302, .arr 71 4 1 [.agg [.p (.str t1.Name), .p (.slc (List.map PV.str t1.Attrs)), .p (.slc (List.map encRow t1.Rows)), .mapo 29 1]]), (303, .arr 38 3 1 [.p (.agg [.int .u32 x21, .int .i64 x129, .int .i64 x140])])]⟩) (fun (o : ((List (Canonical × Bool))) ⊕ ((List (Canonical × Bool)))) => match o with | .inl o179 => tE ⟨Tryz.prog, 32, 300, X, [(19, .arr 71 4 1 [.agg [.p (.str t1.Name), .p (.slc (List.map PV.str t1.Attrs)), .p (.slc (List.map encRow t1.Rows)), .mapo 29 1]]), (29, .map 1 (List.map AV.p (encK encCanonical m136)) (List.map AV.p (encW PV.bool m136))), (46, .arr 38 3 1 (List.map AV.p (List.map encCanonical (o18 ++ o94)))), (206, .arr 71 4 1 [.agg [.p (.str t1.Name), .p (.slc (List.map PV.str t1.Attrs)), .p (.slc (List.map encRow t1.Rows)), .mapo 29 1]]), (216, .arr 38 3 1 [.p (.agg [.int .u32 x21, .int .i64 x129, .int .i64 x140])]), (240, .arr 3 1 1 (List.map AV.p (List.map (PV.int .i64) f121))), (268, .arr 38 3 1 (List.map AV.p (List.map encCanonical o137)))], i146, w147, D⟩ (.exit 0) ⟨[], [(19, .arr 71 4 1 [.agg [.p (.str t1.Name), .p (.slc (List.map PV.str t1.Attrs)), .p (.slc (List.map encRow t1.Rows)), .mapo 29 1]]), (29, .map 1 (List.map AV.p (encK encCanonical o179)) (List.map AV.p (encW PV.bool o179))), (46, .arr 38 3 1 (List.map AV.p (List.map encCanonical (o18 ++ o94)))), (206, .arr 71 4 1 [.agg [.p (.str t1.Name), .p (.slc (List.map PV.str t1.Attrs)), .p (.slc (List.map encRow t1.Rows)), .mapo 29 1]]), (216, .arr 38 3 1 [.p (.agg [.int .u32 x21, .int .i64 x129, .int .i64 x140])]), (240, .arr 3 1 1 (List.map AV.p (List.map (PV.int .i64) f121))), (268, .arr 38 3 1 (List.map AV.p (List.map encCanonical o137)))]⟩ | .inr o180 => tE ⟨Tryz.prog, 32, 300, X, [(19, .arr 71 4 1 [.agg [.p (.str t1.Name), .p (.slc (List.map PV.str t1.Attrs)), .p (.slc (List.map encRow t1.Rows)), .mapo 29 1]]), (29, .map 1 (List.map AV.p (encK encCanonical m136)) (List.map AV.p (encW PV.bool m136))), (46, .arr 38 3 1 (List.map AV.p (List.map encCanonical (o18 ++ o94)))), (206, .arr 71 4 1 [.agg [.p (.str t1.Name), .p (.slc (List.map PV.str t1.Attrs)), .p (.slc (List.map encRow t1.Rows)), .mapo 29 1]]), (216, .arr 38 3 1 [.p (.agg [.int .u32 x21, .int .i64 x129, .int .i64 x140])]), (240, .arr 3 1 1 (List.map AV.p (List.map (PV.int .i64) f121))), (268, .arr 38 3 1 (List.map AV.p (List.map encCanonical o137)))], i146, w147, D⟩ .ret ⟨[(4, .p (.bool false))], [(19, .arr 71 4 1 [.agg [.p (.str t1.Name), .p (.slc (List.map PV.str t1.Attrs)), .p (.slc (List.map encRow t1.Rows)), .mapo 29 1]]), (29, .map 1 (List.map AV.p (encK encCanonical o180)) (List.map AV.p (encW PV.bool o180))), (46, .arr 38 3 1 (List.map AV.p (List.map encCanonical (o18 ++ o94)))), (206, .arr 71 4 1 [.agg [.p (.str t1.Name), .p (.slc (List.map PV.str t1.Attrs)), .p (.slc (List.map encRow t1.Rows)), .mapo 29 1]]), (216, .arr 38 3 1 [.p (.agg [.int .u32 x21, .int .i64 x129, .int .i64 x140])]), (240, .arr 3 1 1 (List.map AV.p (List.map (PV.int .i64) f121))), (268, .arr 38 3 1 (List.map AV.p (List.map encCanonical o137)))]⟩) h178 ?_ ?_
 clear h h139 h139T h141 h141a h141b h142 h142n h142N h150 h150F h175 h176 h178
 intro s x h
 obtain ⟨m181, r182⟩ := s
 simp only [odmine_Constants_l401] at h
 dsimp only
 refine zs (zs (zr ?_))
 refine zU (zl (zn ?_))
 rcases zI h with ⟨h183, h⟩ | ⟨h183, h⟩
 refine zi (zk (zn ?_))
 obtain ⟨o184, h185, h⟩ := zB h
 refine zJ (fun (o : ((List (Canonical × Bool))) ⊕ ((List (Canonical × Bool)))) => match o with | .inl o186 => tE ⟨Tryz.prog, 32, 300, X, [(19, .arr 71 4 1 [.agg [.p (.str t1.Name), .p (.slc (List.map PV.str t1.Attrs)), .p (.slc (List.map encRow t1.Rows)), .mapo 29 1]]), (29, .map 1 (List.map AV.p (encK encCanonical m136)) (List.map AV.p (encW PV.bool m136))), (46, .arr 38 3 1 (List.map AV.p (List.map encCanonical (o18 ++ o94)))), (206, .arr 71 4 1 [.agg [.p (.str t1.Name), .p (.slc (List.map PV.str t1.Attrs)), .p (.slc (List.map encRow t1.Rows)), .mapo 29 1]]), (216, .arr 38 3 1 [.p (.agg [.int .u32 x21, .int .i64 x129, .int .i64 x140])]), (240, .arr 3 1 1 (List.map AV.p (List.map (PV.int .i64) f121))), (268, .arr 38 3 1 (List.map AV.p (List.map encCanonical o137)))], i146, w147, D⟩ .normal ⟨[(2, .loc 302 1 0 0), (3, .loc 303 1 0 0), (5, .p (.int .u32 r182))], [(19, .arr 71 4 1 [.agg [.p (.str t1.Name), .p (.slc (List.map PV.str t1.Attrs)), .p (.slc (List.map encRow t1.Rows)), .mapo 29 1]]), (29, .map 1 (List.map AV.p (encK encCanonical o186)) (List.map AV.p (encW PV.bool o186))), (46, .arr 38 3 1 (List.map AV.p (List.map encCanonical (o18 ++ o94)))), (206, .arr 71 4 1 [.agg [.p (.str t1.Name), .p (.slc (List.map PV.str t1.Attrs)), .p (.slc (List.map encRow t1.Rows)), .mapo 29 1]]), (216, .arr 38 3 1 [.p (.agg [.int .u32 x21, .int .i64 x129, .int .i64 x140])]), (240, .arr 3 1 1 (List.map AV.p (List.map (PV.int .i64) f121))), (268, .arr 38 3 1 (List.map AV.p (List.map encCanonical o137))), (302, .arr 71 4 1 [.agg [.p (.str t1.Name), .p (.slc (List.map PV.str t1.Attrs)), .p (.slc (List.map encRow t1.Rows)), .mapo 29 1]]), (303, .arr 38 3 1 [.p (.agg [.int .u32 x21, .int .i64 x129, .int .i64 x140])])]⟩ | .inr o187 => tE ⟨Tryz.prog, 32, 300, X, [(19, .arr 71 4 1 [.agg [.p (.str t1.Name), .p (.slc (List.map PV.str t1.Attrs)), .p (.slc (List.map encRow t1.Rows)), .mapo 29 1]]), (29, .map 1 (List.map AV.p (encK encCanonical m136)) (List.map AV.p (encW PV.bool m136))), (46, .arr 38 3 1 (List.map AV.p (List.map encCanonical (o18 ++ o94)))), (206, .arr 71 4 1 [.agg [.p (.str t1.Name), .p (.slc (List.map PV.str t1.Attrs)), .p (.slc (List.map encRow t1.Rows)), .mapo 29 1]]), (216, .arr 38 3 1 [.p (.agg [.int .u32 x21, .int .i64 x129, .int .i64 x140])]), (240, .arr 3 1 1 (List.map AV.p (List.map (PV.int .i64) f121))), (268, .arr 38 3 1 (List.map AV.p (List.map encCanonical o137)))], i146, w147, D⟩ .ret ⟨[(4, .p (.bool false))], [(19, .arr 71 4 1 [.agg [.p (.str t1.Name), .p (.slc (List.map PV.str t1.Attrs)), .p (.slc (List.map encRow t1.Rows)), .mapo 29 1]]), (29, .map 1 (List.map AV.p (encK encCanonical o187)) (List.map AV.p (encW PV.bool o187))), (46, .arr 38 3 1 (List.map AV.p (List.map encCanonical (o18 ++ o94)))), (206, .arr 71 4 1 [.agg [.p (.str t1.Name), .p (.slc (List.map PV.str t1.Attrs)), .p (.slc (List.map encRow t1.Rows)), .mapo 29 1]]), (216, .arr 38 3 1 [.p (.agg [.int .u32 x21, .int .i64 x129, .int .i64 x140])]), (240, .arr 3 1 1 (List.map AV.p (List.map (PV.int .i64) f121))), (268, .arr 38 3 1 (List.map AV.p (List.map encCanonical o137)))]⟩) o184 ?_ ?_
 replace h := h185
 clear h185
 refine zb (zs (zr ?_))
 refine zU ?_
 refine zM ⟨[(2, .loc 302 1 0 0), (3, .loc 303 1 0 0), (5, .p (.int .u32 r182)), (18, .agg [.p (.str t1.Name), .p (.slc (List.map PV.str t1.Attrs)), .p (.slc (List.map encRow t1.Rows)), .mapo 29 1]), (30, .p (.agg [.int .u32 (IntKind.u32.wrap ((BitVec.ofInt 32 x21 &&& ~~~ (BitVec.ofInt 32 (IntKind.u32.wrap ((BitVec.ofInt 32 r182 &&& (BitVec.ofInt 32 (IntKind.u32.wrap (0 - r182)))).toNat : Int)))).toNat : Int)), .int .i64 x129, .int .i64 x140]))], [(19, .arr 71 4 1 [.agg [.p (.str t1.Name), .p (.slc (List.map PV.str t1.Attrs)), .p (.slc (List.map encRow t1.Rows)), .mapo 29 1]]), (29, .map 1 (List.map AV.p (encK encCanonical m181)) (List.map AV.p (encW PV.bool m181))), (46, .arr 38 3 1 (List.map AV.p (List.map encCanonical (o18 ++ o94)))), (206, .arr 71 4 1 [.agg [.p (.str t1.Name), .p (.slc (List.map PV.str t1.Attrs)), .p (.slc (List.map encRow t1.Rows)), .mapo 29 1]]), (216, .arr 38 3 1 [.p (.agg [.int .u32 x21, .int .i64 x129, .int .i64 x140])]), (240, .arr 3 1 1 (List.map AV.p (List.map (PV.int .i64) f121))), (268, .arr 38 3 1 (List.map AV.p (List.map encCanonical o137))), (302, .arr 71 4 1 [.agg [.p (.str t1.Name), .p (.slc (List.map PV.str t1.Attrs)), .p (.slc (List.map encRow t1.Rows)), .mapo 29 1]]), (303, .arr 38 3 1 [.p (.agg [.int .u32 x21, .int .i64 x129, .int .i64 x140])])]⟩ ?_
 refine AL_inline (avs := [.agg [.p (.str t1.Name), .p (.slc (List.map PV.str t1.Attrs)), .p (.slc (List.map encRow t1.Rows)), .mapo 29 1], .p (.agg [.int .u32 (IntKind.u32.wrap ((BitVec.ofInt 32 x21 &&& ~~~ (BitVec.ofInt 32 (IntKind.u32.wrap ((BitVec.ofInt 32 r182 &&& (BitVec.ofInt 32 (IntKind.u32.wrap (0 - r182)))).toNat : Int)))).toNat : Int)), .int .i64 x129, .int .i64 x140])]) 388 rfl (guard_none rfl) rfl Tryz.func63 rfl Tryz.call63 Tryz.ntmps63 (by simp) (by simp only [go_sem, seval, h183]; all_goals rfl) ?_
 intro i188 w189
 show AWp _ _ _ ⟨[(0, .agg [.p (.str t1.Name), .p (.slc (List.map PV.str t1.Attrs)), .p (.slc (List.map encRow t1.Rows)), .mapo 29 1]), (1, .p (.agg [.int .u32 (IntKind.u32.wrap ((BitVec.ofInt 32 x21 &&& ~~~ (BitVec.ofInt 32 (IntKind.u32.wrap ((BitVec.ofInt 32 r182 &&& (BitVec.ofInt 32 (IntKind.u32.wrap (0 - r182)))).toNat : Int)))).toNat : Int)), .int .i64 x129, .int .i64 x140]))], [(19, .arr 71 4 1 [.agg [.p (.str t1.Name), .p (.slc (List.map PV.str t1.Attrs)), .p (.slc (List.map encRow t1.Rows)), .mapo 29 1]]), (29, .map 1 (List.map AV.p (encK encCanonical m181)) (List.map AV.p (encW PV.bool m181))), (46, .arr 38 3 1 (List.map AV.p (List.map encCanonical (o18 ++ o94)))), (206, .arr 71 4 1 [.agg [.p (.str t1.Name), .p (.slc (List.map PV.str t1.Attrs)), .p (.slc (List.map encRow t1.Rows)), .mapo 29 1]]), (216, .arr 38 3 1 [.p (.agg [.int .u32 x21, .int .i64 x129, .int .i64 x140])]), (240, .arr 3 1 1 (List.map AV.p (List.map (PV.int .i64) f121))), (268, .arr 38 3 1 (List.map AV.p (List.map encCanonical o137))), (302, .arr 71 4 1 [.agg [.p (.str t1.Name), .p (.slc (List.map PV.str t1.Attrs)), .p (.slc (List.map encRow t1.Rows)), .mapo 29 1]]), (303, .arr 38 3 1 [.p (.agg [.int .u32 x21, .int .i64 x129, .int .i64 x140])])]⟩
 refine zs (zr ?_)
 refine zU (zl (zn (zs (zr ?_))))
 refine zU (zl (zn (zs (zs (zr ?_)))))
 refine zU (zl (zn ?_))
 rcases zI h with ⟨h190, h⟩ | ⟨h190, h⟩
 refine zj (zk (zn (zs (zr ?_))))
 refine zU (zl (zn (zq ?_)))
 refine inlQ_ret (by simp only [Tryz.results63]; simp only [go_sem, seval, h183, h190]; exact rfl) ?_
 refine zl (zn ?_)
 rcases zI h with ⟨h191, h⟩ | ⟨h191, h⟩
 refine zi (zs (zr ?_))
 refine zU (zl (zn (zq (yr ?_))))
 cases h
 exact ⟨rfl, zE⟩
 refine zj (zk (yn ?_))
 cases h
 exact ⟨rfl, zE⟩
 have h190F := Bool.eq_false_iff.2 h190
 refine zi (zs (zr ?_))
 refine zU ?_
 obtain ⟨r192, h193, h⟩ := zB h
 refine zc (ordering_Satisfies_con t1 (Canonical.mk (IntKind.u32.wrap ((BitVec.ofInt 32 x21 &&& ~~~ (BitVec.ofInt 32 (IntKind.u32.wrap ((BitVec.ofInt 32 r182 &&& (BitVec.ofInt 32 (IntKind.u32.wrap (0 - r182)))).toNat : Int)))).toNat : Int)) x129 x140) _ h193) ?_
 refine zU (zl (zn (zr ?_)))
 refine zU (zl (zn (zs (zr ?_))))
 refine zU (zl (zn (zq ?_)))
 refine inlQ_ret (by simp only [Tryz.results63]; simp only [go_sem, seval, h183, h190F]; exact rfl) ?_
 refine zl (zn ?_)
 rcases zI h with ⟨h194, h⟩ | ⟨h194, h⟩
 refine zi (zs (zr ?_))
 refine zU (zl (zn (zq (yr ?_))))
 cases h
 exact ⟨rfl, zE⟩
 refine zj (zk (yn ?_))
 cases h
 exact ⟨rfl, zE⟩
 rcases o184 with m195 | b196
 try simp only at h
 refine zA (zn (zr ?_))
 refine zU (zl ?_)
 cases h
 exact ⟨rfl, zE⟩
 try simp only at h
 refine zA (zt ?_)
 cases h
 exact ⟨rfl, zE⟩
 refine zj (zx (ze ?_))
 cases h
 exact ⟨rfl, zE⟩
 rcases o177 with b197 | b198
 try simp only at h
 refine zA (yh (zn (zs (zr ?_))))
 refine zU (zl (zn (zq ?_)))
 refine inlQ_ret (by simp only [Tryz.results62]; simp only [go_sem, seval, h139T, h150F, h176]; exact rfl) ?_
 refine zl ?_
 cases h
 exact ⟨rfl, zE⟩
 try simp only at h
 refine zA (yr (zt ?_))
 refine inlQ_ret (by simp only [Tryz.results62]; simp only [go_sem, seval, h139T, h150F, h176]; exact rfl) ?_
 refine zl ?_
 cases h
 exact ⟨rfl, zE⟩
 have h176F := Bool.eq_false_iff.2 h176
 refine zi (zs (zr ?_))
 refine zU (zl (zn (zq (zt ?_))))
 refine inlQ_ret (by simp only [Tryz.results62]; simp only [go_sem, seval, h139T, h150F, h176F]; exact rfl) ?_
 refine zl ?_
 cases h
 exact ⟨rfl, zE⟩
 obtain ⟨m199, t200⟩ := o143
 try simp only at h
 refine zA (zn ?_)
 rcases zI h with ⟨h201, h⟩ | ⟨h201, h⟩
 refine zi (zr ?_)
 obtain ⟨h202, h⟩ := ite_some h
 refine zU (zl (yn (zn (zr ?_))))
 refine zU (zl ?_)
 cases h
 exact ⟨rfl, zE⟩
 refine zj (zk (yn (zn (zr ?_))))
 refine zU (zl ?_)
 cases h
 exact ⟨rfl, zE⟩
 have h139T := eq_false h139
 refine zj (zx (ze ?_))
 cases h
 exact ⟨rfl, zE⟩
 obtain ⟨m203, o204⟩ := o133
 try simp only at h
 refine zA (yh (yn (zn (zr ?_))))
 refine zU (zl ?_)
 cases h
 exact ⟨rfl, zE⟩
 refine zj (zx (ze ?_))
 cases h
 exact ⟨rfl, zE⟩
 obtain ⟨o205, b206⟩ := o122
 try simp only at h
 refine zA (yh (zn (zs (zr ?_))))
 refine zU (zl (zn (zq ?_)))
 refine inlQ_ret (by simp only [Tryz.results35]; simp only [go_sem, seval, h20T]; exact rfl) ?_
 obtain ⟨h207, h⟩ := ite_some h
 refine zU (zl (yn (zn (zr ?_))))
 refine zU (zl ?_)
 cases h
 exact ⟨rfl, zE⟩
 have h20T := eq_false h20
 refine zj (zx (ze ?_))
 cases h
 exact ⟨rfl, zE⟩
 try simp only at h
 refine zA (yh (zn (zs (zr ?_))))
 refine zU (zl (zn (zq ?_)))
 refine inlQ_ret (by simp only [Tryz.results14]; simp only [go_sem, seval, h10F]; exact rfl) ?_
 refine zU (zl ?_)
 cases h
 exact ⟨rfl, zE⟩
 obtain ⟨l208, e209⟩ := o3
 try simp only at h
 refine zA (zn (zs (zr ?_)))
 refine zU ?_
 refine zM ⟨[(5, .p (.int .i64 e209)), (11, .own 46 1 0 l208.length)], [(46, .arr 38 3 1 (List.map AV.p (List.map encCanonical l208)))]⟩ ?_
 refine AL_inline (avs := [.own 46 1 0 l208.length, .p (.func (.func 37) [])]) 416 rfl (guard_none rfl) rfl Tryz.func36 rfl Tryz.call36 Tryz.ntmps36 (by simp) (by simp only [go_sem, seval]; all_goals rfl) ?_
 intro i210 w211
 show AWp _ _ _ ⟨[(0, .own 46 1 0 l208.length), (1, .p (.func (.func 37) []))], [(46, .arr 38 3 1 (List.map AV.p (List.map encCanonical l208)))]⟩
 refine zs (zr ?_)
 refine zU (zl (zn (zs (zr ?_))))
 refine zU ?_
 obtain ⟨r212, h213, h⟩ := zB h
 refine zc (slices_IndexFunc_Canonical_con l208 (fun (y214 : Canonical) => odmine_Constants_1 y214) 37 [] (fun y214 r h => odmine_Constants_1_con y214 r h) _ h213) ?_
 refine zU (zl (zn (zs (zs (zr ?_)))))
 refine zU (zl (zn ?_))
 rcases zI h with ⟨h215, h⟩ | ⟨h215, h⟩
 refine zi (zs (zr ?_))
 refine zU (zl (zn (zq (zt ?_))))
 refine inlQ_ret (by simp only [Tryz.results36]; simp only [go_sem, seval, h215]; exact rfl) ?_
 refine zU (zl (zn (zq ?_)))
 cases h
 exact zT Tryz.results15
 have h215F := Bool.eq_false_iff.2 h215
 refine zj (zk (zn (zs (zs (zr ?_)))))
 refine zU (zl (zn (zb ?_)))
 obtain ⟨o216, h217, h⟩ := zB h
 refine zO (fun (s : List Canonical × Int × Int) => ⟨[(0, .own 46 1 0 s.1.length), (1, .p (.func (.func 37) [])), (5, .p (.int .i64 s.2.1)), (6, .p (.int .i64 s.2.2))], [(46, .arr 38 3 1 (List.map AV.p (List.map encCanonical s.1)))]⟩) (fun (o218 : List Canonical × Int) => tE ⟨Tryz.prog, 42, 416, X, [(46, .arr 38 3 1 (List.map AV.p (List.map encCanonical l208)))], i210, w211, D⟩ (.exit 0) ⟨[(0, .own 46 1 0 o218.1.length), (5, .p (.int .i64 o218.2))], [(46, .arr 38 3 1 (List.map AV.p (List.map encCanonical o218.1)))]⟩) h217 ?_ ?_
 clear h h213 h215 h215F h217
 intro s x h
 obtain ⟨s219, i220, j221⟩ := s
 simp only [odmine_Constants_l405] at h
 dsimp only
 refine zs (zs (zr ?_))
 refine zU (zl (zn ?_))
 rcases zI h with ⟨h222, h⟩ | ⟨h222, h⟩
 refine zi (zk (zn (zs (zb (zs (zr ?_))))))
 obtain ⟨x223, h224, h224a, h224b, h⟩ := zX h
 refine zU (zl (zn (zs (zr ?_))))
 refine zU ?_
 obtain ⟨r225, h226, h⟩ := zB h
 refine zc (odmine_Constants_1_con x223 _ h226) ?_
 refine zU (zl (zn ?_))
 rcases zI h with ⟨h227, h⟩ | ⟨h227, h⟩
 refine zj (zk (yn (zn (zr ?_))))
 refine zU (zl ?_)
 cases h
 exact ⟨rfl, zE⟩
 refine zi (zs (zr ?_))
 obtain ⟨x228, h229, h229a, h229b, h⟩ := zX h
 refine zU (zl (zn (zr ?_)))
 refine zU (zl (yn (zn (zr ?_))))
 refine zU (zl ?_)
 cases h
 exact ⟨rfl, zE⟩
 refine zj (zx (ze ?_))
 cases h
 exact ⟨rfl, zE⟩
 obtain ⟨s230, i231⟩ := o216
 try simp only at h
 refine zA (yh (zn (zs (zr ?_))))
 obtain ⟨h232, h⟩ := ite_some h
 obtain ⟨h233, h⟩ := ite_some h
 refine zW 3 ?_
 refine zCl encCanonical s230 (Canonical.mk 0 0 0) 46 i231.toNat (s230.length - i231.toNat) (by simp only [List.length_set, List.length_append, List.length_replicate] at *; omega) ?_
 refine zl (zn (zs (zr ?_)))
 obtain ⟨h234, h⟩ := ite_some h
 obtain ⟨h235, h⟩ := ite_some h
 refine zU (zl (zn (zq ?_)))
 refine inlQ_ret (by simp only [Tryz.results36]; simp only [go_sem, seval, h215F]; exact rfl) ?_
 obtain ⟨h236, h⟩ := ite_some h
 refine zM ⟨[(5, .p (.int .i64 e209)), (12, .own 46 1 0 i231.toNat)], [(46, .arr 38 3 1 (List.map AV.p (List.map encCanonical (((s230.take i231.toNat) ++ (List.replicate (s230.length - i231.toNat) (Canonical.mk 0 0 0))) ++ (s230.drop (i231.toNat + (s230.length - i231.toNat)))))))]⟩ ?_
 clear h236
 refine zU (zl (zn (zq ?_)))
 cases h
 exact zT Tryz.results15
end Go.Proofs.YthgnkhchpjcboaaGreat
set_option linter.unusedVariables false
set_option linter.unusedSimpArgs false
namespace Go.Proofs.YthgnkhchpjcboaaGreat
open Go Go.Ab
set_option maxHeartbeats 4000000 in
theorem drossref31_Constants_con {D : Prop} (t1 : Table) (r2 : List Canonical × Int) (h : drossref31_Constants t1 = some r2) : Con D Tryz.prog 16 [(encTable t1)] (.tup [(.slc (List.map encCanonical r2.1)), (.int .i64 r2.2)]) := by
 refine zP Tryz.call16 Tryz.func16 rfl Tryz.ntmps16 fun X w => ?_
 simp only [drossref31_Constants] at h
 refine zs (zr ?_)
 refine zU (zl (zn (zs (zr ?_))))
 refine zU ?_
 obtain ⟨r3, h4, h⟩ := zB h
 refine zc (drossref31_All_con t1 _ h4) ?_
 refine zU (zl (zn (zs (zr ?_))))
 refine zU (zl (zn (zs (zs (zr ?_)))))
 refine zU (zl (zn (zb ?_)))
 obtain ⟨o5, h6, h⟩ := zB h
 refine zO (fun (s : List Canonical × Int) => ⟨[(4, .p (.slc (List.map encCanonical r3.1))), (5, .p (.int .i64 r3.2)), (6, .own 31 1 0 s.1.length), (7, .p (.int .i64 s.2))], [(31, .arr 38 3 1 (List.map AV.p (List.map encCanonical s.1)))]⟩) (fun (o7 : List Canonical) => tE (cX Tryz.f16 X w D) (.exit 0) ⟨[(5, .p (.int .i64 r3.2)), (6, .own 31 1 0 o7.length)], [(31, .arr 38 3 1 (List.map AV.p (List.map encCanonical o7)))]⟩) h6 ?_ ?_
 clear h h4 h6
 intro s x h
 obtain ⟨o8, i9⟩ := s
 simp only [drossref31_Constants_l1] at h
 dsimp only
 refine zs (zs (zr ?_))
 refine zU (zl (zn ?_))
 rcases zI h with ⟨h10, h⟩ | ⟨h10, h⟩
 refine zi (zk (zn (zs (zb (zs (zr ?_))))))
 obtain ⟨x11, h12, h12a, h12b, h⟩ := zX h
 refine zU (zl (zn ?_))
 rcases zI h with ⟨h13, h⟩ | ⟨h13, h⟩
 refine zi (zr ?_)
 obtain ⟨h14, h⟩ := ite_some h
 refine zU (zl (yn (zn (zr ?_))))
 refine zU (zl ?_)
 cases h
 exact ⟨rfl, zE⟩
 refine zj (zk (yn (zn (zr ?_))))
 refine zU (zl ?_)
 cases h
 exact ⟨rfl, zE⟩
 refine zj (zx (ze ?_))
 cases h
 exact ⟨rfl, zE⟩
 try simp only at h
 refine zA (yh (zn (zs (zr ?_))))
 refine zU (zl (zn (zq ?_)))
 cases h
 exact zT Tryz.results16
end Go.Proofs.YthgnkhchpjcboaaGreat
set_option linter.unusedVariables false
set_option linter.unusedSimpArgs false
namespace Go.Proofs.YthgnkhchpjcboaaGreat
open Go Go.Ab
set_option maxRecDepth 20000 in
set_option maxHeartbeats 4000000 in
theorem drosslaw31_OdmineAll_con {D : Prop} (t1 : Table) (r2 : Bool) (h : drosslaw31_OdmineAll t1 = some r2) : Con D Tryz.prog 4 [(encTable t1)] (.bool r2) := by
 refine zP Tryz.call4 Tryz.func4 rfl Tryz.ntmps4 fun X w => ?_
 simp only [drosslaw31_OdmineAll] at h
 refine zs (zr ?_)
 refine zU (zl (zn (zs ?_)))
 obtain ⟨t3, h4, h⟩ := zB h
 refine zJ (fun (o5 : Bool) => tE (cX Tryz.f4 X w D) .normal ⟨[(1, .loc 1 1 0 0), (17, .p (.bool o5))], [(1, .arr 25 3 1 [.p (encTable t1)])]⟩) t3 ?_ ?_
 replace h := h4
 clear h4
 refine zr ?_
 obtain ⟨r6, h7, h⟩ := zB h
 refine zc (drosslaw31_awake_con  _ h7) ?_
 refine zU ?_
 rcases zI h with ⟨h8, h⟩ | ⟨h8, h⟩
 refine zw 13 false ?_
 refine zg ?_
 obtain ⟨r9, h10, h⟩ := zB h
 replace h := h.symm
 refine zc (drosslaw31_few_con t1 _ h10) ?_
 refine zg ?_
 refine zU (zl ?_)
 cases h
 exact ⟨rfl, zE⟩
 refine zw 13 true ?_
 refine zh ?_
 refine zU (zl ?_)
 cases h
 exact ⟨rfl, zE⟩
 try simp only at h
 refine zA (zn ?_)
 rcases zI h with ⟨h11, h⟩ | ⟨h11, h⟩
 refine zi (zs (zr ?_))
 obtain ⟨r12, h13, h⟩ := zB h
 refine zc (drosslaw31_awake_con  _ h13) ?_
 refine zU (zl (zn (zq (zt ?_))))
 cases h
 exact zT Tryz.results4
 refine zj (zk (zn (zs (zr ?_))))
 refine zU ?_
 obtain ⟨r14, h15, h⟩ := zB h
 refine zc (odmine_All_con t1 _ h15) ?_
 refine zU (zl (zn (zs (zr ?_))))
 refine zU ?_
 obtain ⟨r16, h17, h⟩ := zB h
 refine zc (drossref31_All_con t1 _ h17) ?_
 refine zU (zl (zn (zs (zr ?_))))
 refine zU ?_
 obtain ⟨r18, h19, h⟩ := zB h
 refine zc (odmine_Constants_con t1 _ h19) ?_
 refine zU (zl (zn (zs (zr ?_))))
 refine zU ?_
 obtain ⟨r20, h21, h⟩ := zB h
 refine zc (drossref31_Constants_con t1 _ h21) ?_
 refine zU (zl (zn (zs (zr ?_))))
 refine zU ?_
 rcases zI h with ⟨h22, h⟩ | ⟨h22, h⟩
 refine zw 42 true ?_
 refine zg ?_
 refine zg ?_
 refine zg ?_
 refine zU ?_
 rcases zI h with ⟨h23, h⟩ | ⟨h23, h⟩
 refine zw 47 true ?_
 refine zg ?_
 refine zg ?_
 obtain ⟨r24, h25, h⟩ := zB h
 refine zc (drossref17_Same_con r14.1 r16.1 _ h25) ?_
 refine zU ?_
 rcases zI h with ⟨h26, h⟩ | ⟨h26, h⟩
 refine zw 52 true ?_
 refine zg ?_
 refine zg ?_
 obtain ⟨r27, h28, h⟩ := zB h
 refine zc (drossref17_Same_con r18.1 r20.1 _ h28) ?_
 refine zU (zl (zn (zq ?_)))
 cases h
 exact zT Tryz.results4
 refine zw 52 false ?_
 refine zh ?_
 refine zU (zl (zn (zq ?_)))
 cases h
 exact zT Tryz.results4
 refine zw 47 false ?_
 refine zh ?_
 refine zU ?_
 refine zh ?_
 refine zU (zl (zn (zq ?_)))
 cases h
 exact zT Tryz.results4
 refine zw 42 false ?_
 refine zh ?_
 refine zU ?_
 refine zh ?_
 refine zU ?_
 refine zh ?_
 refine zU (zl (zn (zq ?_)))
 cases h
 exact zT Tryz.results4
end Go.Proofs.YthgnkhchpjcboaaGreat
