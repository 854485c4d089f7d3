/- Each function of the program computes what its Lean function says, where that has a value. -/
import Derived.Test.YthgnkhchpjcboaaGreatW1
set_option linter.unusedVariables false
set_option linter.unusedSimpArgs false
namespace Go.Proofs.YthgnkhchpjcboaaGreat
open Go Go.Ab
set_option maxHeartbeats 4000000 in
theorem drossref17_Once_con {D : Prop} (l1 : List Int) (r2 : List Int) (h : drossref17_Once l1 = some r2) : Con D Tryz.prog 81 [(.slc (List.map (PV.int .i64) l1))] (.slc (List.map (PV.int .i64) r2)) := by
 refine zP Tryz.call81 Tryz.func81 rfl Tryz.ntmps81 fun X w => ?_
 simp only [drossref17_Once] at h
 refine zs (zr ?_)
 refine zU (zl (zn (zs (zr ?_))))
 refine zU (zl (zn (zs (zs (zr ?_)))))
 refine zU (zl (zn (zb ?_)))
 obtain ⟨o3, h4, h⟩ := zB h
 refine zO (fun (s : List Int × Int) => ⟨[(0, .p (.slc (List.map (PV.int .i64) l1))), (3, .own 24 1 0 s.1.length), (4, .p (.int .i64 s.2))], [(24, .arr 3 1 1 (List.map AV.p (List.map (PV.int .i64) s.1)))]⟩) (fun (o5 : List Int) => tE (cX Tryz.f81 X w D) (.exit 0) ⟨[(3, .own 24 1 0 o5.length)], [(24, .arr 3 1 1 (List.map AV.p (List.map (PV.int .i64) o5)))]⟩) h4 ?_ ?_
 clear h h4
 intro s x h
 obtain ⟨o6, i7⟩ := s
 simp only [drossref17_Once_l1] at h
 dsimp only
 refine zs (zs (zr ?_))
 refine zU (zl (zn ?_))
 rcases zI h with ⟨h8, h⟩ | ⟨h8, h⟩
 refine zi (zk (zn (zs (zb (zs (zr ?_))))))
 obtain ⟨x9, h10, h10a, h10b, h⟩ := zX h
 refine zU ?_
 obtain ⟨r11, h12, h⟩ := zB h
 refine zc (drossref17_in_con o6 x9 _ h12) ?_
 refine zU (zl (zn ?_))
 rcases zI h with ⟨h13, h⟩ | ⟨h13, h⟩
 refine zi (zr ?_)
 obtain ⟨h14, h⟩ := ite_some h
 refine zU (zl (yn (zn (zr ?_))))
 refine zU (zl ?_)
 cases h
 exact ⟨rfl, zE⟩
 refine zj (zk (yn (zn (zr ?_))))
 refine zU (zl ?_)
 cases h
 exact ⟨rfl, zE⟩
 refine zj (zx (ze ?_))
 cases h
 exact ⟨rfl, zE⟩
 try simp only at h
 refine zA (yh (zn (zs (zr ?_))))
 refine zU (zl (zn (zq ?_)))
 cases h
 exact zT Tryz.results81
end Go.Proofs.YthgnkhchpjcboaaGreat
set_option linter.unusedVariables false
set_option linter.unusedSimpArgs false
namespace Go.Proofs.YthgnkhchpjcboaaGreat
open Go Go.Ab
set_option maxHeartbeats 4000000 in
theorem drossref17_set_con {D : Prop} (l1 : List Int) (n2 : Int) (r3 : Int) (h : drossref17_set l1 n2 = some r3) : Con D Tryz.prog 84 [(.slc (List.map (PV.int .i64) l1)), (.int .i64 n2)] (.int .u32 r3) := by
 refine zP Tryz.call84 Tryz.func84 rfl Tryz.ntmps84 fun X w => ?_
 simp only [drossref17_set] at h
 refine zs (zr ?_)
 refine zU (zl (zn (zs (zr ?_))))
 refine zU (zl (zn (zs (zs (zr ?_)))))
 refine zU (zl (zn (zb ?_)))
 obtain ⟨s4, h5, h⟩ := zB h
 refine zO (fun (s : Int × Int) => ⟨[(0, .p (.slc (List.map (PV.int .i64) l1))), (1, .p (.int .i64 n2)), (5, .p (.int .u32 s.1)), (6, .p (.int .i64 s.2))], []⟩) (fun (o6 : Int) => tE (cX Tryz.f84 X w D) (.exit 0) ⟨[(5, .p (.int .u32 o6))], []⟩) h5 ?_ ?_
 clear h h5
 intro s x h
 obtain ⟨s7, i8⟩ := s
 simp only [drossref17_set_l1] at h
 dsimp only
 refine zs (zs (zr ?_))
 refine zU (zl (zn ?_))
 rcases zI h with ⟨h9, h⟩ | ⟨h9, h⟩
 refine zi (zk (zn (zs (zb (zr ?_)))))
 obtain ⟨x10, h11, h11a, h11b, h⟩ := zX h
 obtain ⟨h12, h⟩ := ite_none h
 refine zU (zl (yn (zn (zr ?_))))
 refine zU (zl ?_)
 cases h
 exact ⟨rfl, zE⟩
 refine zj (zx (ze ?_))
 cases h
 exact ⟨rfl, zE⟩
 try simp only at h
 refine zA (yh (zn (zs (zr ?_))))
 refine zU (zl (zn (zq ?_)))
 cases h
 exact zT Tryz.results84
end Go.Proofs.YthgnkhchpjcboaaGreat
set_option linter.unusedVariables false
set_option linter.unusedSimpArgs false
namespace Go.Proofs.YthgnkhchpjcboaaGreat
open Go Go.Ab
set_option maxHeartbeats 4000000 in
theorem drossref02_Has_con {D : Prop} (s1 : Int) (i2 : Int) (r3 : Bool) (h : drossref02_Has s1 i2 = some r3) : Con D Tryz.prog 89 [(.int .u32 s1), (.int .i64 i2)] (.bool r3) := by
 refine zP Tryz.call89 Tryz.func89 rfl Tryz.ntmps89 fun X w => ?_
 simp only [drossref02_Has] at h
 refine zs (zr ?_)
 refine zU (zl (zn (zs (zr ?_))))
 refine zU ?_
 rcases zI h with ⟨h4, h⟩ | ⟨h4, h⟩
 refine zw 7 true ?_
 refine zg ?_
 refine zg ?_
 refine zU ?_
 rcases zI h with ⟨h5, h⟩ | ⟨h5, h⟩
 refine zw 11 true ?_
 refine zg ?_
 refine zg ?_
 obtain ⟨h6, h⟩ := ite_none h
 replace h := h.symm
 refine zg ?_
 refine zg ?_
 refine zg ?_
 refine zU (zl (zn (zq ?_)))
 cases h
 exact zT Tryz.results89
 refine zw 11 false ?_
 refine zh ?_
 refine zU (zl (zn (zq ?_)))
 cases h
 exact zT Tryz.results89
 refine zw 7 false ?_
 refine zh ?_
 refine zU ?_
 refine zh ?_
 refine zU (zl (zn (zq ?_)))
 cases h
 exact zT Tryz.results89
end Go.Proofs.YthgnkhchpjcboaaGreat
set_option linter.unusedVariables false
set_option linter.unusedSimpArgs false
namespace Go.Proofs.YthgnkhchpjcboaaGreat
open Go Go.Ab
set_option maxRecDepth 20000 in
set_option maxHeartbeats 4000000 in
theorem drossref17_Canonical_con {D : Prop} (d1 : OD) (r2 : List Canonical × Int) (h : drossref17_Canonical d1 = some r2) : Con D Tryz.prog 51 [(encOD d1)] (.tup [(.slc (List.map encCanonical r2.1)), (.int .i64 r2.2)]) := by
 refine zP Tryz.call51 Tryz.func51 rfl Tryz.ntmps51 fun X w => ?_
 simp only [drossref17_Canonical] at h
 refine zs (zr ?_)
 refine zU (zl (zn (zs (zs (zr ?_)))))
 refine zU ?_
 obtain ⟨r3, h4, h⟩ := zB h
 refine zc (drossref17_Valid_con 16 d1 _ h4) ?_
 refine zU (zl (zn ?_))
 rcases zI h with ⟨h5, h⟩ | ⟨h5, h⟩
 refine zj (zk (zn (zs (zd ?_))))
 refine yU ?_
 obtain ⟨r6, h7, h⟩ := zB h
 refine yc (drossref17_Once_con d1.Lhs _ h7) ?_
 refine yU ?_
 obtain ⟨r8, h9, h⟩ := zB h
 refine yc (drossref17_Once_con d1.Rhs _ h9) ?_
 refine yU ?_
 refine yd (zn (zs (zr ?_)))
 refine zU (zl (zn (zs (zs (zr ?_)))))
 refine zU (zl (zn (zb ?_)))
 obtain ⟨o10, h11, h⟩ := zB h
 refine zO (fun (s : List Canonical × Int) => ⟨[(4, .p (.slc (List.map (PV.int .i64) r6))), (5, .p (.slc (List.map (PV.int .i64) r8))), (6, .own 118 1 0 s.1.length), (7, .p (.int .i64 s.2))], [(118, .arr 38 3 1 (List.map AV.p (List.map encCanonical s.1)))]⟩) (fun (o12 : List Canonical) => tE (cX Tryz.f51 X w D) (.exit 0) ⟨[(4, .p (.slc (List.map (PV.int .i64) r6))), (5, .p (.slc (List.map (PV.int .i64) r8))), (6, .own 118 1 0 o12.length)], [(118, .arr 38 3 1 (List.map AV.p (List.map encCanonical o12)))]⟩) h11 ?_ ?_
 clear h h4 h5 h7 h9 h11
 intro s x h
 obtain ⟨o13, a14⟩ := s
 simp only [drossref17_Canonical_l4] at h
 dsimp only
 refine zs (zs (zr ?_))
 refine zU (zl (zn ?_))
 rcases zI h with ⟨h15, h⟩ | ⟨h15, h⟩
 have h15T := eq_true h15
 refine zi (zk (zn (zs (zb (zs (zr ?_))))))
 refine zU ?_
 obtain ⟨r16, h17, h⟩ := zB h
 refine zc (drossref17_in_con r8 a14 _ h17) ?_
 refine zU (zl (zn ?_))
 rcases zI h with ⟨h18, h⟩ | ⟨h18, h⟩
 have h18T := eq_true h18
 refine zi (zr ?_)
 refine zU ?_
 obtain ⟨r19, h20, h⟩ := zB h
 refine zc (drossref17_set_con r6 (r6.length : Int) _ h20) ?_
 refine zU ?_
 refine zM ⟨[(4, .p (.slc (List.map (PV.int .i64) r6))), (5, .p (.slc (List.map (PV.int .i64) r8))), (7, .p (.int .i64 a14)), (27, .own 118 1 0 o13.length), (33, .p (.agg [.int .u32 r19, .int .i64 a14, .int .i64 (-1)]))], [(118, .arr 38 3 1 (List.map AV.p (List.map encCanonical o13)))]⟩ ?_
 refine AL_inline (avs := [.own 118 1 0 o13.length, .p (.agg [.int .u32 r19, .int .i64 a14, .int .i64 (-1)])]) 162 rfl (guard_none rfl) rfl Tryz.func83 rfl Tryz.call83 Tryz.ntmps83 (by simp) (by simp only [go_sem, seval, h15T, h18T]; all_goals rfl) ?_
 intro i21 w22
 show AWp _ _ _ ⟨[(0, .own 118 1 0 o13.length), (1, .p (.agg [.int .u32 r19, .int .i64 a14, .int .i64 (-1)]))], [(118, .arr 38 3 1 (List.map AV.p (List.map encCanonical o13)))]⟩
 refine zs (zr ?_)
 refine zU (zl (zn (zs (zs (zr ?_)))))
 refine zU ?_
 rcases zI h with ⟨h23, h⟩ | ⟨h23, h⟩
 refine zw 11 true ?_
 refine zh ?_
 refine zU ?_
 refine zh ?_
 refine zU (zl (zn ?_))
 refine zi (zs (zr ?_))
 refine zU (zl (zn (zq (zt ?_))))
 refine inlQ_ret (by simp only [Tryz.results83]; simp only [go_sem, seval, h15T, h18T, h23]; exact rfl) ?_
 refine zU (zl (yn (zn (zr ?_))))
 refine zU (zl ?_)
 cases h
 exact ⟨rfl, zE⟩
 have h23F := Bool.eq_false_iff.2 h23
 refine zw 11 false ?_
 refine zg ?_
 refine zg ?_
 refine zg ?_
 refine zg ?_
 obtain ⟨r24, h25, h⟩ := zB h
 refine zc (drossref02_Has_con r19 a14 _ h25) ?_
 refine zU ?_
 rcases zI h with ⟨h26, h⟩ | ⟨h26, h⟩
 refine zw 18 true ?_
 refine zh ?_
 refine zU (zl (zn ?_))
 refine zi (zs (zr ?_))
 refine zU (zl (zn (zq (zt ?_))))
 refine inlQ_ret (by simp only [Tryz.results83]; simp only [go_sem, seval, h15T, h18T, h23F, h26]; exact rfl) ?_
 refine zU (zl (yn (zn (zr ?_))))
 refine zU (zl ?_)
 cases h
 exact ⟨rfl, zE⟩
 have h26F := Bool.eq_false_iff.2 h26
 refine zw 18 false ?_
 refine zg ?_
 refine zg ?_
 refine zg ?_
 refine zg ?_
 obtain ⟨r27, h28, h⟩ := zB h
 refine zc (drossref02_Has_con r19 (-1) _ h28) ?_
 refine zU (zl (zn ?_))
 rcases zI h with ⟨h29, h⟩ | ⟨h29, h⟩
 refine zi (zs (zr ?_))
 refine zU (zl (zn (zq (zt ?_))))
 refine inlQ_ret (by simp only [Tryz.results83]; simp only [go_sem, seval, h15T, h18T, h23F, h26F, h29]; exact rfl) ?_
 refine zU (zl (yn (zn (zr ?_))))
 refine zU (zl ?_)
 cases h
 exact ⟨rfl, zE⟩
 have h29F := Bool.eq_false_iff.2 h29
 refine zj (zk (zn (zs (zs (zr ?_)))))
 refine zU (zl (zn (zb ?_)))
 obtain ⟨o30, h31, h⟩ := zB h
 refine zO (fun (s : Int) => ⟨[(0, .own 118 1 0 o13.length), (3, .loc 165 1 0 0), (5, .p (.int .i64 s))], [(118, .arr 38 3 1 (List.map AV.p (List.map encCanonical o13))), (165, .arr 38 3 1 [.p (.agg [.int .u32 r19, .int .i64 a14, .int .i64 (-1)])])]⟩) (fun (o : (Unit) ⊕ (Unit)) => match o with | .inl o32 => tE ⟨Tryz.prog, 43, 162, X, [(118, .arr 38 3 1 (List.map AV.p (List.map encCanonical o13)))], i21, w22, D⟩ (.exit 0) ⟨[(0, .own 118 1 0 o13.length), (3, .loc 165 1 0 0)], [(118, .arr 38 3 1 (List.map AV.p (List.map encCanonical o13))), (165, .arr 38 3 1 [.p (.agg [.int .u32 r19, .int .i64 a14, .int .i64 (-1)])])]⟩ | .inr o33 => tE ⟨Tryz.prog, 43, 162, X, [(118, .arr 38 3 1 (List.map AV.p (List.map encCanonical o13)))], i21, w22, D⟩ .ret ⟨[(4, .own 118 1 0 o13.length)], [(118, .arr 38 3 1 (List.map AV.p (List.map encCanonical o13)))]⟩) h31 ?_ ?_
 clear h h15 h15T h17 h18 h18T h20 h23 h23F h25 h26 h26F h28 h29 h29F h31
 intro i34 x h
 simp only [drossref17_Canonical_l3] at h
 refine zs (zs (zr ?_))
 refine zU (zl (zn ?_))
 rcases zI h with ⟨h35, h⟩ | ⟨h35, h⟩
 refine zi (zk (zn (zs (zb (zs (zd ?_))))))
 obtain ⟨x36, h37, h37a, h37b, h⟩ := zX h
 refine yU ?_
 refine yd (zn ?_)
 rcases zI h with ⟨h38, h⟩ | ⟨h38, h⟩
 refine zi (zs (zr ?_))
 refine zU (zl (zn (zq (yr (zt ?_)))))
 cases h
 exact ⟨rfl, zE⟩
 refine zj (zk (yn (zn (zr ?_))))
 refine zU (zl ?_)
 cases h
 exact ⟨rfl, zE⟩
 refine zj (zx (ze ?_))
 cases h
 exact ⟨rfl, zE⟩
 rcases o30 with ⟨⟩ | ⟨⟩
 try simp only at h
 refine zA (yh (zn (zs (zr ?_))))
 obtain ⟨h39, h⟩ := ite_some h
 refine zU (zl (zn (zq ?_)))
 refine inlQ_ret (by simp only [Tryz.results83]; simp only [go_sem, seval, h15T, h18T, h23F, h26F, h29F]; exact rfl) ?_
 refine zU (zl (yn (zn (zr ?_))))
 refine zU (zl ?_)
 cases h
 exact ⟨rfl, zE⟩
 try simp only at h
 refine zA (yr (zt ?_))
 refine inlQ_ret (by simp only [Tryz.results83]; simp only [go_sem, seval, h15T, h18T, h23F, h26F, h29F]; exact rfl) ?_
 refine zU (zl (yn (zn (zr ?_))))
 refine zU (zl ?_)
 cases h
 exact ⟨rfl, zE⟩
 have h18T := eq_false h18
 refine zj (zk (yn (zn (zr ?_))))
 refine zU (zl ?_)
 cases h
 exact ⟨rfl, zE⟩
 have h15T := eq_false h15
 refine zj (zx (ze ?_))
 cases h
 exact ⟨rfl, zE⟩
 try simp only at h
 refine zA (yh (zn (zs (zs (zr ?_)))))
 refine zU (zl (zn (zb ?_)))
 obtain ⟨o40, h41, h⟩ := zB h
 refine zO (fun (s : List Canonical × Int) => ⟨[(4, .p (.slc (List.map (PV.int .i64) r6))), (5, .p (.slc (List.map (PV.int .i64) r8))), (6, .own 118 1 0 s.1.length), (8, .p (.int .i64 s.2))], [(118, .arr 38 3 1 (List.map AV.p (List.map encCanonical s.1)))]⟩) (fun (o42 : List Canonical) => tE (cX Tryz.f51 X w D) (.exit 2) ⟨[(6, .own 118 1 0 o42.length)], [(118, .arr 38 3 1 (List.map AV.p (List.map encCanonical o42)))]⟩) h41 ?_ ?_
 clear h h4 h5 h7 h9 h11 h41
 intro s x h
 obtain ⟨o43, i44⟩ := s
 simp only [drossref17_Canonical_l17] at h
 dsimp only
 refine zs (zs (zr ?_))
 refine zU (zl (zn ?_))
 rcases zI h with ⟨h45, h⟩ | ⟨h45, h⟩
 refine zi (zk (zn (zs (zb (zs (zr ?_))))))
 refine zU (zl (zn (zb ?_)))
 obtain ⟨o46, h47, h⟩ := zB h
 refine zO (fun (s : List Canonical × Int) => ⟨[(4, .p (.slc (List.map (PV.int .i64) r6))), (5, .p (.slc (List.map (PV.int .i64) r8))), (6, .own 118 1 0 s.1.length), (8, .p (.int .i64 i44)), (9, .p (.int .i64 s.2))], [(118, .arr 38 3 1 (List.map AV.p (List.map encCanonical s.1)))]⟩) (fun (o48 : List Canonical) => tE (cX Tryz.f51 X w D) (.exit 4) ⟨[(4, .p (.slc (List.map (PV.int .i64) r6))), (5, .p (.slc (List.map (PV.int .i64) r8))), (6, .own 118 1 0 o48.length), (8, .p (.int .i64 i44))], [(118, .arr 38 3 1 (List.map AV.p (List.map encCanonical o48)))]⟩) h47 ?_ ?_
 clear h h45 h47
 intro s x h
 obtain ⟨o49, k50⟩ := s
 simp only [drossref17_Canonical_l16] at h
 dsimp only
 refine zs (zs (zr ?_))
 refine zU (zl (zn ?_))
 rcases zI h with ⟨h51, h⟩ | ⟨h51, h⟩
 have h51T := eq_true h51
 refine zi (zk (zn (zs (zb ?_))))
 refine zdl 27 ?_
 refine yU ?_
 obtain ⟨r52, h53, h⟩ := zB h
 refine yc (drossref17_set_con r6 i44 _ h53) ?_
 refine yU ?_
 obtain ⟨r54, h55, h⟩ := zB h
 refine yc (drossref17_set_con r8 k50 _ h55) ?_
 obtain ⟨x56, h57, h57a, h57b, h⟩ := zX h
 obtain ⟨x58, h59, h59a, h59b, h⟩ := zX h
 refine yU ?_
 refine ydl ?_
 refine zM ⟨[(4, .p (.slc (List.map (PV.int .i64) r6))), (5, .p (.slc (List.map (PV.int .i64) r8))), (8, .p (.int .i64 i44)), (9, .p (.int .i64 k50)), (47, .own 118 1 0 o49.length), (73, .p (.agg [.int .u32 (IntKind.u32.wrap ((BitVec.ofInt 32 r52 ||| (BitVec.ofInt 32 r54)).toNat : Int)), .int .i64 (if x58 < x56 then x58 else x56), .int .i64 (if x58 > x56 then x58 else x56)]))], [(118, .arr 38 3 1 (List.map AV.p (List.map encCanonical o49)))]⟩ ?_
 refine AL_inline (avs := [.own 118 1 0 o49.length, .p (.agg [.int .u32 (IntKind.u32.wrap ((BitVec.ofInt 32 r52 ||| (BitVec.ofInt 32 r54)).toNat : Int)), .int .i64 (if x58 < x56 then x58 else x56), .int .i64 (if x58 > x56 then x58 else x56)])]) 549 rfl (guard_none rfl) rfl Tryz.func83 rfl Tryz.call83 Tryz.ntmps83 (by simp) (by simp only [go_sem, seval, h51T]; all_goals rfl) ?_
 intro i60 w61
 show AWp _ _ _ ⟨[(0, .own 118 1 0 o49.length), (1, .p (.agg [.int .u32 (IntKind.u32.wrap ((BitVec.ofInt 32 r52 ||| (BitVec.ofInt 32 r54)).toNat : Int)), .int .i64 (if x58 < x56 then x58 else x56), .int .i64 (if x58 > x56 then x58 else x56)]))], [(118, .arr 38 3 1 (List.map AV.p (List.map encCanonical o49)))]⟩
 refine zs (zr ?_)
 refine zU (zl (zn (zs (zs (zr ?_)))))
 refine zU ?_
 rcases zI h with ⟨h62, h⟩ | ⟨h62, h⟩
 refine zw 11 true ?_
 refine zh ?_
 refine zU ?_
 refine zh ?_
 refine zU (zl (zn ?_))
 refine zi (zs (zr ?_))
 refine zU (zl (zn (zq (zt ?_))))
 refine inlQ_ret (by simp only [Tryz.results83]; simp only [go_sem, seval, h51T, h62]; exact rfl) ?_
 refine zU (zl (yn (zn (zr ?_))))
 refine zU (zl ?_)
 cases h
 exact ⟨rfl, zE⟩
 have h62F := Bool.eq_false_iff.2 h62
 refine zw 11 false ?_
 refine zg ?_
 refine zg ?_
 refine zg ?_
 refine zg ?_
 obtain ⟨r63, h64, h⟩ := zB h
 refine zc (drossref02_Has_con (IntKind.u32.wrap ((BitVec.ofInt 32 r52 ||| (BitVec.ofInt 32 r54)).toNat : Int)) (if x58 < x56 then x58 else x56) _ h64) ?_
 refine zU ?_
 rcases zI h with ⟨h65, h⟩ | ⟨h65, h⟩
 refine zw 18 true ?_
 refine zh ?_
 refine zU (zl (zn ?_))
 refine zi (zs (zr ?_))
 refine zU (zl (zn (zq (zt ?_))))
 refine inlQ_ret (by simp only [Tryz.results83]; simp only [go_sem, seval, h51T, h62F, h65]; exact rfl) ?_
 refine zU (zl (yn (zn (zr ?_))))
 refine zU (zl ?_)
 cases h
 exact ⟨rfl, zE⟩
 have h65F := Bool.eq_false_iff.2 h65
 refine zw 18 false ?_
 refine zg ?_
 refine zg ?_
 refine zg ?_
 refine zg ?_
 obtain ⟨r66, h67, h⟩ := zB h
 refine zc (drossref02_Has_con (IntKind.u32.wrap ((BitVec.ofInt 32 r52 ||| (BitVec.ofInt 32 r54)).toNat : Int)) (if x58 > x56 then x58 else x56) _ h67) ?_
 refine zU (zl (zn ?_))
 rcases zI h with ⟨h68, h⟩ | ⟨h68, h⟩
 refine zi (zs (zr ?_))
 refine zU (zl (zn (zq (zt ?_))))
 refine inlQ_ret (by simp only [Tryz.results83]; simp only [go_sem, seval, h51T, h62F, h65F, h68]; exact rfl) ?_
 refine zU (zl (yn (zn (zr ?_))))
 refine zU (zl ?_)
 cases h
 exact ⟨rfl, zE⟩
 have h68F := Bool.eq_false_iff.2 h68
 refine zj (zk (zn (zs (zs (zr ?_)))))
 refine zU (zl (zn (zb ?_)))
 obtain ⟨o69, h70, h⟩ := zB h
 refine zO (fun (s : Int) => ⟨[(0, .own 118 1 0 o49.length), (3, .loc 552 1 0 0), (5, .p (.int .i64 s))], [(118, .arr 38 3 1 (List.map AV.p (List.map encCanonical o49))), (552, .arr 38 3 1 [.p (.agg [.int .u32 (IntKind.u32.wrap ((BitVec.ofInt 32 r52 ||| (BitVec.ofInt 32 r54)).toNat : Int)), .int .i64 (if x58 < x56 then x58 else x56), .int .i64 (if x58 > x56 then x58 else x56)])])]⟩) (fun (o : (Unit) ⊕ (Unit)) => match o with | .inl o71 => tE ⟨Tryz.prog, 43, 549, X, [(118, .arr 38 3 1 (List.map AV.p (List.map encCanonical o49)))], i60, w61, D⟩ (.exit 0) ⟨[(0, .own 118 1 0 o49.length), (3, .loc 552 1 0 0)], [(118, .arr 38 3 1 (List.map AV.p (List.map encCanonical o49))), (552, .arr 38 3 1 [.p (.agg [.int .u32 (IntKind.u32.wrap ((BitVec.ofInt 32 r52 ||| (BitVec.ofInt 32 r54)).toNat : Int)), .int .i64 (if x58 < x56 then x58 else x56), .int .i64 (if x58 > x56 then x58 else x56)])])]⟩ | .inr o72 => tE ⟨Tryz.prog, 43, 549, X, [(118, .arr 38 3 1 (List.map AV.p (List.map encCanonical o49)))], i60, w61, D⟩ .ret ⟨[(4, .own 118 1 0 o49.length)], [(118, .arr 38 3 1 (List.map AV.p (List.map encCanonical o49)))]⟩) h70 ?_ ?_
 clear h h51 h51T h53 h55 h57 h57a h57b h59 h59a h59b h62 h62F h64 h65 h65F h67 h68 h68F h70
 intro i73 x h
 simp only [drossref17_Canonical_l15] at h
 refine zs (zs (zr ?_))
 refine zU (zl (zn ?_))
 rcases zI h with ⟨h74, h⟩ | ⟨h74, h⟩
 refine zi (zk (zn (zs (zb (zs (zd ?_))))))
 obtain ⟨x75, h76, h76a, h76b, h⟩ := zX h
 refine yU ?_
 refine yd (zn ?_)
 rcases zI h with ⟨h77, h⟩ | ⟨h77, h⟩
 refine zi (zs (zr ?_))
 refine zU (zl (zn (zq (yr (zt ?_)))))
 cases h
 exact ⟨rfl, zE⟩
 refine zj (zk (yn (zn (zr ?_))))
 refine zU (zl ?_)
 cases h
 exact ⟨rfl, zE⟩
 refine zj (zx (ze ?_))
 cases h
 exact ⟨rfl, zE⟩
 rcases o69 with ⟨⟩ | ⟨⟩
 try simp only at h
 refine zA (yh (zn (zs (zr ?_))))
 obtain ⟨h78, h⟩ := ite_some h
 refine zU (zl (zn (zq ?_)))
 refine inlQ_ret (by simp only [Tryz.results83]; simp only [go_sem, seval, h51T, h62F, h65F, h68F]; exact rfl) ?_
 refine zU (zl (yn (zn (zr ?_))))
 refine zU (zl ?_)
 cases h
 exact ⟨rfl, zE⟩
 try simp only at h
 refine zA (yr (zt ?_))
 refine inlQ_ret (by simp only [Tryz.results83]; simp only [go_sem, seval, h51T, h62F, h65F, h68F]; exact rfl) ?_
 refine zU (zl (yn (zn (zr ?_))))
 refine zU (zl ?_)
 cases h
 exact ⟨rfl, zE⟩
 have h51T := eq_false h51
 refine zj (zx (ze ?_))
 cases h
 exact ⟨rfl, zE⟩
 try simp only at h
 refine zA (yh (yn (zn (zr ?_))))
 refine zU (zl ?_)
 cases h
 exact ⟨rfl, zE⟩
 refine zj (zx (ze ?_))
 cases h
 exact ⟨rfl, zE⟩
 try simp only at h
 refine zA (yh (zn (zs (zr ?_))))
 refine zU (zl (zn (zq ?_)))
 cases h
 exact zT Tryz.results51
 refine zi (zs (zr ?_))
 refine zU (zl (zn (zq (zt ?_))))
 cases h
 exact zT Tryz.results51
end Go.Proofs.YthgnkhchpjcboaaGreat
set_option linter.unusedVariables false
set_option linter.unusedSimpArgs false
namespace Go.Proofs.YthgnkhchpjcboaaGreat
open Go Go.Ab
set_option maxHeartbeats 4000000 in
theorem drossref02_Sub_con {D : Prop} (a1 : Int) (b2 : Int) (r3 : Bool) (h : drossref02_Sub a1 b2 = some r3) : Con D Tryz.prog 39 [(.int .u32 a1), (.int .u32 b2)] (.bool r3) := by
 refine zP Tryz.call39 Tryz.func39 rfl Tryz.ntmps39 fun X w => ?_
 simp only [drossref02_Sub] at h
 refine zs (zr ?_)
 refine zU (zl (zn (zs (zr ?_))))
 refine zU (zl (zn (zq ?_)))
 cases h
 exact zT Tryz.results39
end Go.Proofs.YthgnkhchpjcboaaGreat
set_option linter.unusedVariables false
set_option linter.unusedSimpArgs false
namespace Go.Proofs.YthgnkhchpjcboaaGreat
open Go Go.Ab
set_option maxRecDepth 20000 in
set_option maxHeartbeats 4000000 in
theorem drossref31_Trivial_con {D : Prop} (c1 : Canonical) (r2 : Bool) (h : drossref31_Trivial c1 = some r2) : Con D Tryz.prog 57 [(encCanonical c1)] (.bool r2) := by
 refine zP Tryz.call57 Tryz.func57 rfl Tryz.ntmps57 fun X w => ?_
 simp only [drossref31_Trivial] at h
 refine zs (zr ?_)
 refine zU (zl (zn (zs (zs (zr ?_)))))
 refine zU ?_
 obtain ⟨r3, h4, h⟩ := zB h
 refine zc (drossref02_Has_con c1.Context c1.A _ h4) ?_
 refine zl (zn ?_)
 rcases zI h with ⟨h5, h⟩ | ⟨h5, h⟩
 refine zi (zs (zr ?_))
 refine zU (zl (zn (zq (zt ?_))))
 cases h
 exact zT Tryz.results57
 refine zj (zk (zn (zs (zr ?_))))
 refine zU ?_
 rcases zI h with ⟨h6, h⟩ | ⟨h6, h⟩
 refine zw 11 true ?_
 refine zg ?_
 refine zg ?_
 refine zg ?_
 refine zg ?_
 refine zg ?_
 refine zg ?_
 rcases zI h with ⟨h7, h⟩ | ⟨h7, h⟩
 replace h := h.symm
 refine zw 17 true ?_
 refine zh ?_
 refine zg ?_
 refine zU (zl (zn (zq ?_)))
 cases h
 exact zT Tryz.results57
 refine zw 17 false ?_
 refine zg ?_
 refine zg ?_
 refine zg ?_
 refine zg ?_
 obtain ⟨r8, h9, h⟩ := zB h
 replace h := h.symm
 refine zc (drossref02_Has_con c1.Context c1.B _ h9) ?_
 refine zg ?_
 refine zU (zl (zn (zq ?_)))
 cases h
 exact zT Tryz.results57
 refine zw 11 false ?_
 refine zh ?_
 refine zU (zl (zn (zq ?_)))
 cases h
 exact zT Tryz.results57
end Go.Proofs.YthgnkhchpjcboaaGreat
set_option linter.unusedVariables false
set_option linter.unusedSimpArgs false
namespace Go.Proofs.YthgnkhchpjcboaaGreat
open Go Go.Ab
set_option maxRecDepth 20000 in
set_option maxHeartbeats 4000000 in
theorem drossref31_Implied_con {D : Prop} (l1 : List Canonical) (c2 : Canonical) (r3 : Bool) (h : drossref31_Implied l1 c2 = some r3) : Con D Tryz.prog 52 [(.slc (List.map encCanonical l1)), (encCanonical c2)] (.bool r3) := by
 refine zP Tryz.call52 Tryz.func52 rfl Tryz.ntmps52 fun X w => ?_
 simp only [drossref31_Implied] at h
 refine zs (zr ?_)
 refine zU (zl (zn (zs (zs (zr ?_)))))
 refine zU ?_
 obtain ⟨r4, h5, h⟩ := zB h
 refine zc (drossref31_Trivial_con c2 _ h5) ?_
 refine zl (zn ?_)
 rcases zI h with ⟨h6, h⟩ | ⟨h6, h⟩
 refine zi (zs (zr ?_))
 refine zU (zl (zn (zq (zt ?_))))
 cases h
 exact zT Tryz.results52
 refine zj (zk (zn (zs (zs (zr ?_)))))
 refine zU (zl (zn (zb ?_)))
 obtain ⟨o7, h8, h⟩ := zB h
 refine zO (fun (s : Int) => ⟨[(0, .p (.slc (List.map encCanonical l1))), (3, .loc 3 1 0 0), (5, .p (.int .i64 s))], [(3, .arr 38 3 1 [.p (encCanonical c2)])]⟩) (fun (o : (Unit) ⊕ (Bool)) => match o with | .inl o9 => tE (cX Tryz.f52 X w D) (.exit 0) ⟨[], []⟩ | .inr o10 => tR Tryz.prog Tryz.f52 (.bool o10)) h8 ?_ ?_
 clear h h5 h6 h8
 intro i11 x h
 simp only [drossref31_Implied_l1] at h
 refine zs (zs (zr ?_))
 refine zU (zl (zn ?_))
 rcases zI h with ⟨h12, h⟩ | ⟨h12, h⟩
 refine zi (zk (zn (zs (zb (zs (zs (zd ?_)))))))
 obtain ⟨x13, h14, h14a, h14b, h⟩ := zX h
 refine yU ?_
 obtain ⟨r15, h16, h⟩ := zB h
 refine yc (drossref02_Sub_con x13.Context c2.Context _ h16) ?_
 refine yU ?_
 refine yd (zn ?_)
 rcases zI h with ⟨h17, h⟩ | ⟨h17, h⟩
 refine zj (zk (zn (zs (zs (zd ?_)))))
 refine yU ?_
 rcases zI h with ⟨h18, h⟩ | ⟨h18, h⟩
 refine yw 29 true ?_
 refine yg ?_
 refine yg ?_
 refine yg ?_
 refine yg ?_
 refine yg ?_
 refine yg ?_
 refine yg ?_
 refine yg ?_
 refine yg ?_
 rcases zI h with ⟨h19, h⟩ | ⟨h19, h⟩
 replace h := h.symm
 refine yw 38 true ?_
 refine yk ?_
 refine yg ?_
 refine yU ?_
 refine yd (zn ?_)
 refine zi (zs (zr ?_))
 refine zU (zl (zn (zq (zt (yr (zt ?_))))))
 cases h
 exact ⟨rfl, zT Tryz.results52⟩
 refine yw 38 false ?_
 refine yg ?_
 refine yg ?_
 refine yg ?_
 refine yg ?_
 rcases zI h with ⟨h20, h⟩ | ⟨h20, h⟩
 refine yw 42 true ?_
 refine yg ?_
 refine yg ?_
 refine yg ?_
 refine yg ?_
 refine yg ?_
 refine yg ?_
 refine yg ?_
 refine yg ?_
 refine yg ?_
 refine yg ?_
 refine yU ?_
 refine yd (zn ?_)
 rcases zI h with ⟨h21, h⟩ | ⟨h21, h⟩
 refine zi (zs (zr ?_))
 refine zU (zl (zn (zq (zt (yr (zt ?_))))))
 cases h
 exact ⟨rfl, zT Tryz.results52⟩
 refine zj (zk (zn (zs (zd ?_))))
 refine yU ?_
 rcases zI h with ⟨h22, h⟩ | ⟨h22, h⟩
 replace h := h.symm
 refine yw 60 true ?_
 refine yg ?_
 refine yg ?_
 refine yg ?_
 refine yU ?_
 refine yw 65 true ?_
 refine yg ?_
 refine yg ?_
 refine yg ?_
 refine yg ?_
 refine yg ?_
 refine yg ?_
 refine yg ?_
 refine yg ?_
 refine yg ?_
 refine yw 74 false ?_
 refine yk ?_
 refine yg ?_
 refine yg ?_
 refine yg ?_
 refine yg ?_
 refine yg ?_
 refine yg ?_
 refine yg ?_
 refine yg ?_
 refine yg ?_
 refine yg ?_
 refine yg ?_
 refine yw 93 false ?_
 refine yk ?_
 refine yg ?_
 refine yg ?_
 refine yU ?_
 refine yd (zn ?_)
 refine zj (zk (yn (zn (zr ?_))))
 refine zU (zl ?_)
 cases h
 exact ⟨rfl, zE⟩
 refine yw 60 false ?_
 refine yk ?_
 refine yU ?_
 refine yk ?_
 refine yU ?_
 refine yd (zn ?_)
 refine zj (zk (yn (zn (zr ?_))))
 refine zU (zl ?_)
 cases h
 exact ⟨rfl, zE⟩
 refine yw 42 false ?_
 refine yk ?_
 refine yg ?_
 refine yg ?_
 refine yU ?_
 refine yd (zn ?_)
 refine zj (zk (zn (zs (zd ?_))))
 refine yU ?_
 rcases zI h with ⟨h23, h⟩ | ⟨h23, h⟩
 replace h := h.symm
 refine yw 60 true ?_
 refine yg ?_
 refine yg ?_
 refine yg ?_
 refine yU ?_
 refine yw 65 false ?_
 refine yk ?_
 refine yU ?_
 refine yd (zn ?_)
 refine zj (zk (yn (zn (zr ?_))))
 refine zU (zl ?_)
 cases h
 exact ⟨rfl, zE⟩
 refine yw 60 false ?_
 refine yk ?_
 refine yU ?_
 refine yk ?_
 refine yU ?_
 refine yd (zn ?_)
 refine zj (zk (yn (zn (zr ?_))))
 refine zU (zl ?_)
 cases h
 exact ⟨rfl, zE⟩
 refine yw 29 false ?_
 refine yk ?_
 refine yU ?_
 refine yd (zn ?_)
 refine zj (zk (zn (zs (zd ?_))))
 refine yU ?_
 rcases zI h with ⟨h24, h⟩ | ⟨h24, h⟩
 refine yw 60 true ?_
 refine yg ?_
 refine yg ?_
 refine yg ?_
 refine yU ?_
 rcases zI h with ⟨h25, h⟩ | ⟨h25, h⟩
 refine yw 65 true ?_
 refine yg ?_
 refine yg ?_
 refine yg ?_
 refine yg ?_
 refine yg ?_
 refine yg ?_
 refine yg ?_
 refine yg ?_
 refine yg ?_
 rcases zI h with ⟨h26, h⟩ | ⟨h26, h⟩
 refine yw 74 true ?_
 refine yg ?_
 refine yg ?_
 refine yg ?_
 refine yg ?_
 refine yg ?_
 refine yg ?_
 refine yg ?_
 refine yg ?_
 refine yg ?_
 refine yg ?_
 rcases zI h with ⟨h27, h⟩ | ⟨h27, h⟩
 replace h := h.symm
 refine yw 84 true ?_
 refine yk ?_
 refine yg ?_
 refine yU ?_
 refine yd (zn ?_)
 refine zi (zs (zr ?_))
 refine zU (zl (zn (zq (yr (zt ?_)))))
 cases h
 exact ⟨rfl, zT Tryz.results52⟩
 refine yw 84 false ?_
 refine yg ?_
 refine yg ?_
 refine yg ?_
 refine yg ?_
 refine yg ?_
 refine yg ?_
 refine yg ?_
 refine yg ?_
 refine yg ?_
 rcases zI h with ⟨h28, h⟩ | ⟨h28, h⟩
 refine yw 93 true ?_
 refine yg ?_
 refine yg ?_
 refine yg ?_
 refine yg ?_
 refine yg ?_
 refine yg ?_
 refine yg ?_
 refine yg ?_
 refine yg ?_
 refine yg ?_
 refine yU ?_
 refine yd (zn ?_)
 rcases zI h with ⟨h29, h⟩ | ⟨h29, h⟩
 refine zi (zs (zr ?_))
 refine zU (zl (zn (zq (yr (zt ?_)))))
 cases h
 exact ⟨rfl, zT Tryz.results52⟩
 refine zj (zk (yn (zn (zr ?_))))
 refine zU (zl ?_)
 cases h
 exact ⟨rfl, zE⟩
 replace h := h.symm
 refine yw 93 false ?_
 refine yk ?_
 refine yg ?_
 refine yg ?_
 refine yU ?_
 refine yd (zn ?_)
 refine zj (zk (yn (zn (zr ?_))))
 refine zU (zl ?_)
 cases h
 exact ⟨rfl, zE⟩
 refine yw 74 false ?_
 refine yk ?_
 refine yg ?_
 refine yg ?_
 refine yg ?_
 refine yg ?_
 refine yg ?_
 refine yg ?_
 refine yg ?_
 refine yg ?_
 refine yg ?_
 refine yg ?_
 refine yg ?_
 rcases zI h with ⟨h30, h⟩ | ⟨h30, h⟩
 refine yw 93 true ?_
 refine yg ?_
 refine yg ?_
 refine yg ?_
 refine yg ?_
 refine yg ?_
 refine yg ?_
 refine yg ?_
 refine yg ?_
 refine yg ?_
 refine yg ?_
 refine yU ?_
 refine yd (zn ?_)
 rcases zI h with ⟨h31, h⟩ | ⟨h31, h⟩
 refine zi (zs (zr ?_))
 refine zU (zl (zn (zq (yr (zt ?_)))))
 cases h
 exact ⟨rfl, zT Tryz.results52⟩
 refine zj (zk (yn (zn (zr ?_))))
 refine zU (zl ?_)
 cases h
 exact ⟨rfl, zE⟩
 replace h := h.symm
 refine yw 93 false ?_
 refine yk ?_
 refine yg ?_
 refine yg ?_
 refine yU ?_
 refine yd (zn ?_)
 refine zj (zk (yn (zn (zr ?_))))
 refine zU (zl ?_)
 cases h
 exact ⟨rfl, zE⟩
 refine yw 65 false ?_
 refine yk ?_
 refine yU ?_
 refine yd (zn ?_)
 refine zj (zk (yn (zn (zr ?_))))
 refine zU (zl ?_)
 cases h
 exact ⟨rfl, zE⟩
 refine yw 60 false ?_
 refine yk ?_
 refine yU ?_
 refine yk ?_
 refine yU ?_
 refine yd (zn ?_)
 refine zj (zk (yn (zn (zr ?_))))
 refine zU (zl ?_)
 cases h
 exact ⟨rfl, zE⟩
 refine zi (zx (ze (yh (zn (zr ?_)))))
 refine zU (zl ?_)
 cases h
 exact ⟨rfl, zE⟩
 refine zj (zx (ze ?_))
 cases h
 exact ⟨rfl, zE⟩
 rcases o7 with ⟨⟩ | r32
 try simp only at h
 refine zA (yh (zn (zs (zr ?_))))
 refine zU (zl (zn (zq ?_)))
 cases h
 exact zT Tryz.results52
 try simp only at h
 refine zZ fun s hq => ?_
 refine yr (zt ?_)
 cases h
 exact hq
end Go.Proofs.YthgnkhchpjcboaaGreat
set_option linter.unusedVariables false
set_option linter.unusedSimpArgs false
namespace Go.Proofs.YthgnkhchpjcboaaGreat
open Go Go.Ab
set_option maxHeartbeats 4000000 in
theorem drossref31_Orders_con {D : Prop} (t1 : Table) (l2 : List Canonical) (d3 : OD) (r4 : Bool × Int) (h : drossref31_Orders t1 l2 d3 = some r4) : Con D Tryz.prog 24 [(encTable t1), (.slc (List.map encCanonical l2)), (encOD d3)] (.tup [(.bool r4.1), (.int .i64 r4.2)]) := by
 refine zP Tryz.call24 Tryz.func24 rfl Tryz.ntmps24 fun X w => ?_
 simp only [drossref31_Orders] at h
 refine zs (zr ?_)
 refine zU (zl (zn (zs (zs (zr ?_)))))
 refine zU ?_
 obtain ⟨r5, h6, h⟩ := zB h
 refine zc (drossref31_Error_con t1 _ h6) ?_
 refine zU (zl (zn (zs (zr ?_))))
 refine zU (zl (zn ?_))
 rcases zI h with ⟨h7, h⟩ | ⟨h7, h⟩
 refine zi (zs (zr ?_))
 refine zU (zl (zn (zq (zt ?_))))
 cases h
 exact zT Tryz.results24
 refine zj (zk (zn (zs (zs (zr ?_)))))
 refine zU ?_
 obtain ⟨r8, h9, h⟩ := zB h
 refine zc (drossref17_Valid_con (t1.Attrs.length : Int) d3 _ h9) ?_
 refine zU (zl (zn ?_))
 rcases zI h with ⟨h10, h⟩ | ⟨h10, h⟩
 refine zj (zk (zn (zs (zr ?_))))
 refine zU ?_
 obtain ⟨r11, h12, h⟩ := zB h
 refine zc (drossref17_Canonical_con d3 _ h12) ?_
 refine zU (zl (zn (zs (zs (zr ?_)))))
 refine zU (zl (zn (zb ?_)))
 obtain ⟨o13, h14, h⟩ := zB h
 refine zO (fun (s : Int) => ⟨[(1, .p (.slc (List.map encCanonical l2))), (9, .p (.slc (List.map encCanonical r11.1))), (11, .p (.int .i64 s))], []⟩) (fun (o : (Unit) ⊕ (Bool × Int)) => match o with | .inl o15 => tE (cX Tryz.f24 X w D) (.exit 0) ⟨[], []⟩ | .inr o16 => tR Tryz.prog Tryz.f24 (.tup [(.bool o16.1), (.int .i64 o16.2)])) h14 ?_ ?_
 clear h h6 h7 h9 h10 h12 h14
 intro i17 x h
 simp only [drossref31_Orders_l1] at h
 refine zs (zs (zr ?_))
 refine zU (zl (zn ?_))
 rcases zI h with ⟨h18, h⟩ | ⟨h18, h⟩
 refine zi (zk (zn (zs (zb (zs (zr ?_))))))
 obtain ⟨x19, h20, h20a, h20b, h⟩ := zX h
 refine zU ?_
 obtain ⟨r21, h22, h⟩ := zB h
 refine zc (drossref31_Implied_con l2 x19 _ h22) ?_
 refine zU (zl (zn ?_))
 rcases zI h with ⟨h23, h⟩ | ⟨h23, h⟩
 refine zj (zk (yn (zn (zr ?_))))
 refine zU (zl ?_)
 cases h
 exact ⟨rfl, zE⟩
 refine zi (zs (zr ?_))
 refine zU (zl (zn (zq (yr (zt ?_)))))
 cases h
 exact ⟨rfl, zT Tryz.results24⟩
 refine zj (zx (ze ?_))
 cases h
 exact ⟨rfl, zE⟩
 rcases o13 with ⟨⟩ | r24
 try simp only at h
 refine zA (yh (zn (zs (zr ?_))))
 refine zU (zl (zn (zq ?_)))
 cases h
 exact zT Tryz.results24
 try simp only at h
 refine zZ fun s hq => ?_
 refine yr (zt ?_)
 cases h
 exact hq
 refine zi (zs (zr ?_))
 refine zU (zl (zn (zq (zt ?_))))
 cases h
 exact zT Tryz.results24
end Go.Proofs.YthgnkhchpjcboaaGreat
set_option linter.unusedVariables false
set_option linter.unusedSimpArgs false
namespace Go.Proofs.YthgnkhchpjcboaaGreat
open Go Go.Ab
set_option maxRecDepth 20000 in
set_option maxHeartbeats 4000000 in
theorem drosslaw31_OdmineOrdersAny_con (t1 : Table) (l2 : List Canonical) (d3 : OD) (r4 : Bool) (h : drosslaw31_OdmineOrdersAny t1 l2 d3 = some r4) : Con False Tryz.prog 7 [(encTable t1), (.slc (List.map encCanonical l2)), (encOD d3)] (.bool r4) := by
 refine zP Tryz.call7 Tryz.func7 rfl Tryz.ntmps7 fun X w => ?_
 simp only [drosslaw31_OdmineOrdersAny] at h
 refine zs (zr ?_)
 refine zU (zl (zn (zs ?_)))
 obtain ⟨t5, h6, h⟩ := zB h
 refine zJ (fun (o7 : Bool) => tE (cX Tryz.f7 X w False) .normal ⟨[(1, .p (.slc (List.map encCanonical l2))), (3, .loc 3 1 0 0), (5, .loc 5 1 0 0), (34, .p (.bool o7))], [(3, .arr 25 3 1 [.p (encTable t1)]), (5, .arr 55 2 1 [.p (encOD d3)])]⟩) t5 ?_ ?_
 replace h := h6
 clear h6
 refine zr ?_
 obtain ⟨r8, h9, h⟩ := zB h
 refine zc (drosslaw31_awake_con  _ h9) ?_
 refine zU ?_
 rcases zI h with ⟨h10, h⟩ | ⟨h10, h⟩
 refine zw 13 false ?_
 refine zg ?_
 obtain ⟨r11, h12, h⟩ := zB h
 refine zc (drosslaw31_few_con t1 _ h12) ?_
 refine zg ?_
 refine zU ?_
 rcases zI h with ⟨h13, h⟩ | ⟨h13, h⟩
 refine zw 18 false ?_
 refine zg ?_
 refine zg ?_
 refine zg ?_
 refine zU ?_
 rcases zI h with ⟨h14, h⟩ | ⟨h14, h⟩
 refine zw 23 true ?_
 refine zh ?_
 refine zU ?_
 refine zh ?_
 refine zU (zl ?_)
 cases h
 exact ⟨rfl, zE⟩
 refine zw 23 false ?_
 refine zg ?_
 refine zg ?_
 refine zg ?_
 refine zg ?_
 refine zU ?_
 rcases zI h with ⟨h15, h⟩ | ⟨h15, h⟩
 refine zw 29 true ?_
 refine zh ?_
 refine zU (zl ?_)
 cases h
 exact ⟨rfl, zE⟩
 replace h := h.symm
 refine zw 29 false ?_
 refine zg ?_
 refine zg ?_
 refine zg ?_
 refine zg ?_
 refine zU (zl ?_)
 cases h
 exact ⟨rfl, zE⟩
 refine zw 18 true ?_
 refine zh ?_
 refine zU ?_
 refine zh ?_
 refine zU ?_
 refine zh ?_
 refine zU (zl ?_)
 cases h
 exact ⟨rfl, zE⟩
 refine zw 13 true ?_
 refine zh ?_
 refine zU ?_
 refine zh ?_
 refine zU ?_
 refine zh ?_
 refine zU ?_
 refine zh ?_
 refine zU (zl ?_)
 cases h
 exact ⟨rfl, zE⟩
 try simp only at h
 refine zA (zn ?_)
 rcases zI h with ⟨h16, h⟩ | ⟨h16, h⟩
 refine zi (zs (zr ?_))
 obtain ⟨r17, h18, h⟩ := zB h
 refine zc (drosslaw31_awake_con  _ h18) ?_
 refine zU (zl (zn (zq (zt ?_))))
 cases h
 exact zT Tryz.results7
 refine zj (zk (zn (zs (zd ?_))))
 refine yU ?_
 obtain ⟨r19, h20, h⟩ := zB h
 refine yc (slices_Clone_Canonical_con l2 _ h20) ?_
 refine yU ?_
 obtain ⟨r21, h22, h⟩ := zB h
 refine yc (odmine_Orders_con t1 r19 d3 _ h22) ?_
 refine yU ?_
 refine yd (zn (zs (zr ?_)))
 refine zU ?_
 obtain ⟨r23, h24, h⟩ := zB h
 refine zc (drossref31_Orders_con t1 l2 d3 _ h24) ?_
 refine zU (zl (zn (zs (zr ?_))))
 refine zU ?_
 rcases zI h with ⟨h25, h⟩ | ⟨h25, h⟩
 replace h := h.symm
 refine zw 54 true ?_
 refine zg ?_
 refine zg ?_
 refine zg ?_
 refine zU (zl (zn (zq ?_)))
 cases h
 exact zT Tryz.results7
 refine zw 54 false ?_
 refine zh ?_
 refine zU (zl (zn (zq ?_)))
 cases h
 exact zT Tryz.results7
end Go.Proofs.YthgnkhchpjcboaaGreat
