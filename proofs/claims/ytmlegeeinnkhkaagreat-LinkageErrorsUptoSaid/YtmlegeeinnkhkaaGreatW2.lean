/- Each function of the program computes what its Lean function says, where that has a value. -/
import Derived.Test.YtmlegeeinnkhkaaGreatW1
set_option linter.unusedVariables false
set_option linter.unusedSimpArgs false
namespace Go.Proofs.YtmlegeeinnkhkaaGreat
open Go Go.Ab
set_option maxRecDepth 20000 in
set_option maxHeartbeats 4000000 in
theorem linkage_places_con {D:Prop} (d1:List (List Int)) (r2:(List (Int×Int))×Int×Bool) (h:linkage_places d1=some r2):Con D Tryz.prog 68 [(.slc (List.map (encL (PV.int .i64)) d1))] (.tup [(.mapv (encK (PV.int .i64) r2.1) (encW (PV.int .i64) r2.1)),(.int .i64 r2.2.1),(.bool r2.2.2)]):=by
 refine zP Tryz.call68 Tryz.func68 rfl Tryz.ntmps68 fun X w hT=>?_
 simp only [linkage_places] at h
 refine zs (zr ?_)
 refine zU (zl (zn (zs (zr ?_))))
 refine zU (zl (zn (zs (zr ?_))))
 refine zU (zl (zn (zs (zs (zr ?_)))))
 refine zU (zl (zn (zb ?_)))
 obtain ⟨o3,h4,h⟩:=zB h
 refine zO (fun (s:(List (Int×Int))×Int×Int)=>⟨[(5,.mapo 15 1),(6,.p (.int .i64 s.2.1)),(16,.p (.slc (List.map (encL (PV.int .i64)) d1))),(17,.p (.int .i64 (d1.length:Int))),(18,.p (.int .i64 s.2.2))],[(15,.map 1 (List.map AV.p (encK (PV.int .i64) s.1)) (List.map AV.p (encW (PV.int .i64) s.1)))]⟩) (fun (o:((List (Int×Int))×Int) ⊕ ((List (Int×Int))×Int×Bool))=>match o with | .inl o5=>tE (cX Tryz.f68 X w D hT) (.exit 0) ⟨[(5,.mapo 15 1),(6,.p (.int .i64 o5.2))],[(15,.map 1 (List.map AV.p (encK (PV.int .i64) o5.1)) (List.map AV.p (encW (PV.int .i64) o5.1)))]⟩ | .inr o6=>tR Tryz.prog Tryz.f68 (.tup [(.mapv (encK (PV.int .i64) o6.1) (encW (PV.int .i64) o6.1)),(.int .i64 o6.2.1),(.bool o6.2.2)])) h4 ?_ ?_
 clear h h4
 intro s x h
 obtain ⟨o7,p8,t9⟩:=s
 simp only [linkage_places_l4] at h
 dsimp only
 refine zs (zr ?_)
 refine zU (zl (zn (zs ?_)))
 rcases zI h with ⟨h10,h⟩ | ⟨h10,h⟩
 refine zi (zk (zn (zs (zb (zs (zr ?_))))))
 obtain ⟨x11,h12,h12a,h12b,h⟩:=zX h
 refine zU (zl (zn (zs (zs (zr ?_)))))
 refine zU (zl (zn ?_))
 rcases zI h with ⟨h13,h⟩ | ⟨h13,h⟩
 refine zi (zs (zr ?_))
 refine zU (zl (zn (zq (zt (yr (zt ?_))))))
 cases h
 exact ⟨rfl,zT Tryz.results68⟩
 refine zj (zk (zn (zs (zr ?_))))
 refine zU (zl (zn (zs (zs (zr ?_)))))
 refine zU (zl (zn (zb ?_)))
 obtain ⟨o14,h15,h⟩:=zB h
 refine zO (fun (s:(List (Int×Int))×Int×Int)=>⟨[(5,.mapo 15 1),(6,.p (.int .i64 p8)),(7,.p (.int .i64 t9)),(8,.p (.slc (List.map (PV.int .i64) x11))),(9,.p (.int .i64 s.2.1)),(16,.p (.slc (List.map (encL (PV.int .i64)) d1))),(17,.p (.int .i64 (d1.length:Int))),(18,.p (.int .i64 t9)),(26,.p (.slc (List.map (PV.int .i64) x11))),(27,.p (.int .i64 (x11.length:Int))),(28,.p (.int .i64 s.2.2))],[(15,.map 1 (List.map AV.p (encK (PV.int .i64) s.1)) (List.map AV.p (encW (PV.int .i64) s.1)))]⟩) (fun (o:((List (Int×Int))) ⊕ ((List (Int×Int))×Int×Bool))=>match o with | .inl o16=>tE (cX Tryz.f68 X w D hT) (.exit 2) ⟨[(5,.mapo 15 1),(6,.p (.int .i64 p8)),(8,.p (.slc (List.map (PV.int .i64) x11))),(16,.p (.slc (List.map (encL (PV.int .i64)) d1))),(17,.p (.int .i64 (d1.length:Int))),(18,.p (.int .i64 t9))],[(15,.map 1 (List.map AV.p (encK (PV.int .i64) o16)) (List.map AV.p (encW (PV.int .i64) o16)))]⟩ | .inr o17=>tR Tryz.prog Tryz.f68 (.tup [(.mapv (encK (PV.int .i64) o17.1) (encW (PV.int .i64) o17.1)),(.int .i64 o17.2.1),(.bool o17.2.2)])) h15 ?_ ?_
 clear h h10 h12 h12a h12b h13 h15
 intro s x h
 obtain ⟨o18,b19,t20⟩:=s
 simp only [linkage_places_l3] at h
 dsimp only
 refine zs (zr ?_)
 refine zU (zl (zn (zs ?_)))
 rcases zI h with ⟨h21,h⟩ | ⟨h21,h⟩
 refine zi (zk (zn (zs (zb (zs (zr ?_))))))
 obtain ⟨x22,h23,h23a,h23b,h⟩:=zX h
 refine zU (zl (zn (zs (zs (zr ?_)))))
 refine zU (zl (zn (zs (zr ?_))))
 refine zU ?_
 rcases zI h with ⟨h24,h⟩ | ⟨h24,h⟩
 refine zw 39 true ?_
 refine zh ?_
 refine zU (zl (zn ?_))
 refine zi (zs (zr ?_))
 refine zU (zl (zn (zq (zt (yr (zt ?_))))))
 cases h
 exact ⟨rfl,zT Tryz.results68⟩
 refine zw 39 false ?_
 refine zg ?_
 refine zg ?_
 refine zg ?_
 refine zU (zl (zn ?_))
 rcases zI h with ⟨h25,h⟩ | ⟨h25,h⟩
 refine zi (zs (zr ?_))
 refine zU (zl (zn (zq (zt (yr (zt ?_))))))
 cases h
 exact ⟨rfl,zT Tryz.results68⟩
 refine zj (zk (zn (zs (zr ?_))))
 refine zU (zl (zn (zr ?_)))
 refine zU (zl (yn (zn (zr ?_))))
 refine zU (zl ?_)
 cases h
 exact ⟨rfl,zE⟩
 refine zj (zx (ze ?_))
 cases h
 exact ⟨rfl,zE⟩
 rcases o14 with o26 | r27
 try simp only at h
 refine zA (yh (zn (zs (zr ?_))))
 refine zU (zl (zn (zr ?_)))
 refine zU (zl (yn (zn (zr ?_))))
 refine zU (zl ?_)
 cases h
 exact ⟨rfl,zE⟩
 try simp only at h
 refine zZ fun s hq=>?_
 refine yr (zt (yr (zt ?_)))
 cases h
 refine ⟨rfl,?_⟩
 exact hq
 refine zj (zx (ze ?_))
 cases h
 exact ⟨rfl,zE⟩
 rcases o3 with ⟨o28,p29⟩ | r30
 try simp only at h
 refine zA (yh (zn (zs (zr ?_))))
 refine zU (zl (zn (zq ?_)))
 cases h
 exact zT Tryz.results68
 try simp only at h
 refine zZ fun s hq=>?_
 refine yr (zt ?_)
 cases h
 exact hq
set_option maxRecDepth 20000 in
set_option maxHeartbeats 4000000 in
theorem linkage_Precision_con {D:Prop} (f1:List (List Int)) (t2:List (List Int)) (r3:Ratio×Int) (h:linkage_Precision f1 t2=some r3):Con D Tryz.prog 30 [(.slc (List.map (encL (PV.int .i64)) f1)),(.slc (List.map (encL (PV.int .i64)) t2))] (.tup [(encRatio r3.1),(.int .i64 r3.2)]):=by
 refine zP Tryz.call30 Tryz.func30 rfl Tryz.ntmps30 fun X w hT=>?_
 simp only [linkage_Precision] at h
 refine zs (zr ?_)
 refine zU (zl (zn (zs (zr ?_))))
 refine zU ?_
 obtain ⟨r4,h5,h⟩:=zB h
 refine zc (linkage_places_con f1 _ h5) ?_
 refine zU (zl (zn (zs (zr ?_))))
 refine zU ?_
 obtain ⟨r6,h7,h⟩:=zB h
 refine zc (linkage_places_con t2 _ h7) ?_
 refine zU (zl (zn (zs (zs (zr ?_)))))
 refine zU ?_
 rcases zI h with ⟨h8,h⟩ | ⟨h8,h⟩
 refine zw 34 false ?_
 refine zg ?_
 refine zg ?_
 refine zU (zl (zn ?_))
 rcases zI h with ⟨h9,h⟩ | ⟨h9,h⟩
 refine zj (zk (zn (zs (zs (zr ?_)))))
 refine zU (zl (zn ?_))
 rcases zI h with ⟨h10,h⟩ | ⟨h10,h⟩
 refine zi (zs (zr ?_))
 refine zU (zl (zn (zq (zt ?_))))
 cases h
 exact zT Tryz.results30
 refine zj (zk (zn (zs (zr ?_))))
 refine zU (zl (zn (zs (zs (zr ?_)))))
 refine zU (zl (zn (zb ?_)))
 obtain ⟨b11,h12,h⟩:=zB h
 refine zO (fun (s:Int×Int)=>⟨[(4,.loc 4 1 0 0),(7,.p (.int .i64 r4.2.1)),(9,.p (.mapv (encK (PV.int .i64) r6.1) (encW (PV.int .i64) r6.1))),(12,.p (.int .i64 s.1)),(42,.p (.slc (List.map (encL (PV.int .i64)) f1))),(43,.p (.int .i64 (f1.length:Int))),(44,.p (.int .i64 s.2))],[(4,.arr 76 2 1 [.p (.agg [.int .i64 0,.int .i64 0])])]⟩) (fun (o13:Int)=>tE (cX Tryz.f30 X w D hT) (.exit 0) ⟨[(4,.loc 4 1 0 0),(7,.p (.int .i64 r4.2.1)),(12,.p (.int .i64 o13))],[(4,.arr 76 2 1 [.p (.agg [.int .i64 0,.int .i64 0])])]⟩) h12 ?_ ?_
 clear h h5 h7 h8 h9 h10 h12
 intro s x h
 obtain ⟨b14,t15⟩:=s
 simp only [linkage_Precision_l4] at h
 dsimp only
 refine zs (zr ?_)
 refine zU (zl (zn (zs ?_)))
 rcases zI h with ⟨h16,h⟩ | ⟨h16,h⟩
 refine zi (zk (zn (zs (zb (zs (zr ?_))))))
 obtain ⟨x17,h18,h18a,h18b,h⟩:=zX h
 refine zU (zl (zn (zs (zr ?_))))
 refine zU (zl (zn (zs (zr ?_))))
 refine zU (zl (zn (zb ?_)))
 obtain ⟨b19,h20,h⟩:=zB h
 refine zO (fun (s:Int×(List (Int×Int))×Int)=>⟨[(4,.loc 4 1 0 0),(7,.p (.int .i64 r4.2.1)),(9,.p (.mapv (encK (PV.int .i64) r6.1) (encW (PV.int .i64) r6.1))),(12,.p (.int .i64 s.1)),(15,.mapo 48 1),(42,.p (.slc (List.map (encL (PV.int .i64)) f1))),(43,.p (.int .i64 (f1.length:Int))),(44,.p (.int .i64 t15)),(49,.p (.slc (List.map (PV.int .i64) x17))),(50,.p (.int .i64 (x17.length:Int))),(51,.p (.int .i64 s.2.2))],[(4,.arr 76 2 1 [.p (.agg [.int .i64 0,.int .i64 0])]),(48,.map 1 (List.map AV.p (encK (PV.int .i64) s.2.1)) (List.map AV.p (encW (PV.int .i64) s.2.1)))]⟩) (fun (o21:Int)=>tE (cX Tryz.f30 X w D hT) (.exit 2) ⟨[(4,.loc 4 1 0 0),(7,.p (.int .i64 r4.2.1)),(9,.p (.mapv (encK (PV.int .i64) r6.1) (encW (PV.int .i64) r6.1))),(12,.p (.int .i64 o21)),(42,.p (.slc (List.map (encL (PV.int .i64)) f1))),(43,.p (.int .i64 (f1.length:Int))),(44,.p (.int .i64 t15))],[(4,.arr 76 2 1 [.p (.agg [.int .i64 0,.int .i64 0])])]⟩) h20 ?_ ?_
 clear h h16 h18 h18a h18b h20
 intro s x h
 obtain ⟨b22,c23,t24⟩:=s
 simp only [linkage_Precision_l3] at h
 dsimp only
 refine zs (zr ?_)
 refine zU (zl (zn (zs ?_)))
 rcases zI h with ⟨h25,h⟩ | ⟨h25,h⟩
 refine zi (zk (zn (zs (zb (zs (zr ?_))))))
 obtain ⟨x26,h27,h27a,h27b,h⟩:=zX h
 refine zU (zl (zn (zs (zr ?_))))
 refine zU (zl (zn (zs (zr ?_))))
 refine zU (zl (zn ?_))
 rcases zI h with ⟨h28,h⟩ | ⟨h28,h⟩
 refine zi (zs (zr ?_))
 refine zU (zl (zn (zr ?_)))
 refine zU (zl (yn (zn (zr ?_))))
 refine zU (zl ?_)
 cases h
 exact ⟨rfl,zE⟩
 refine zj (zk (yn (zn (zr ?_))))
 refine zU (zl ?_)
 cases h
 exact ⟨rfl,zE⟩
 refine zj (zx (ze ?_))
 cases h
 exact ⟨rfl,zE⟩
 try simp only at h
 refine zA (yh (yn (zn (zr ?_))))
 refine zU (zl ?_)
 cases h
 exact ⟨rfl,zE⟩
 refine zj (zx (ze ?_))
 cases h
 exact ⟨rfl,zE⟩
 try simp only at h
 refine zA (yh (zn (zs (zr ?_))))
 refine zU ?_
 obtain ⟨r29,h30,h⟩:=zB h
 refine zc (ratio_Make_con b11 r4.2.1 _ h30) ?_
 refine zU (zl (zn (zq ?_)))
 cases h
 exact zT Tryz.results30
 refine zi (zs (zr ?_))
 refine zU (zl (zn (zq (zt ?_))))
 cases h
 exact zT Tryz.results30
 refine zw 34 true ?_
 refine zh ?_
 refine zU (zl (zn ?_))
 refine zi (zs (zr ?_))
 refine zU (zl (zn (zq (zt ?_))))
 cases h
 exact zT Tryz.results30
set_option maxHeartbeats 4000000 in
theorem linkage_Recall_con {D:Prop} (f1:List (List Int)) (t2:List (List Int)) (r3:Ratio×Int) (h:linkage_Recall f1 t2=some r3):Con D Tryz.prog 32 [(.slc (List.map (encL (PV.int .i64)) f1)),(.slc (List.map (encL (PV.int .i64)) t2))] (.tup [(encRatio r3.1),(.int .i64 r3.2)]):=by
 refine zP Tryz.call32 Tryz.func32 rfl Tryz.ntmps32 fun X w hT=>?_
 simp only [linkage_Recall] at h
 refine zs (zr ?_)
 refine zU (zl (zn (zs (zr ?_))))
 refine zU ?_
 obtain ⟨r4,h5,h⟩:=zB h
 refine zc (linkage_Precision_con t2 f1 _ h5) ?_
 refine zU (zl (zn (zq ?_)))
 cases h
 exact zT Tryz.results32
set_option maxHeartbeats 4000000 in
theorem drosslaw56_example_con {D:Prop} (r1:Table×Linkage) (h:drosslaw56_example=some r1):Con D Tryz.prog 39 [] (.tup [(encTable r1.1),(encLinkage r1.2)]):=by
 refine zP Tryz.call39 Tryz.func39 rfl Tryz.ntmps39 fun X w hT=>?_
 simp only [drosslaw56_example] at h
 refine zs (zr ?_)
 refine zU (zl (zn (zs (zr ?_))))
 refine zU (zl (zn (zs (zs (zr ?_)))))
 refine zU (zl (zn (zb ?_)))
 refine zL ⟨[(0,.loc 0 1 0 0),(1,.loc 1 1 0 0),(2,.loc 2 1 0 0),(7,.own 7 1 0 4),(8,.p (.int .i64 4)),(9,.p (.int .i64 0))],[(0,.arr 41 3 1 [.agg [.p (.str []),.nils,.nils]]),(1,.arr 25 3 1 [.agg [.nils,.nils,.nils]]),(2,.arr 41 3 1 [.agg [.p (.str [112]),.own 5 1 0 1,.nils]]),(5,.arr 9 1 1 [.p (.str [110,97,109,101])]),(7,.arr 9 1 1 [.p (.str [97,110,110]),.p (.str [97,110,110,101]),.p (.str [97,110,110,101,115]),.p (.str [98,111,98])])]⟩ ?_
 obtain ⟨l2,h3,h⟩:=zB h
 replace h3:=Option.some.inj h3
 refine awp_le (st':=⟨[(0,.loc 0 1 0 0),(1,.loc 1 1 0 0),(2,.loc 2 1 0 0),(7,.own 7 1 0 l2.length),(8,.p (.int .i64 4)),(9,.p (.int .i64 0))],[(0,.arr 41 3 1 [.agg [.p (.str []),.nils,.nils]]),(1,.arr 25 3 1 [.agg [.nils,.nils,.nils]]),(2,.arr 41 3 1 [.agg [.p (.str [112]),.own 5 1 0 1,.nils]]),(5,.arr 9 1 1 [.p (.str [110,97,109,101])]),(7,.arr 9 1 1 (List.map AV.p (List.map PV.str l2)))]⟩) (by simp only [go_sem,seval,←h3];all_goals ((repeat' refine And.intro ?_ ?_) <;> first | rfl | (simp;done) | (simp;rfl) | (simp [*];done) | (simp [*];rfl))) ?_
 have h3n:l2.length=4:=by rw [←h3];rfl
 clear h3
 obtain ⟨t4,h5,h⟩:=zB h
 refine zO (fun (s:List Row×Int)=>⟨[(0,.loc 0 1 0 0),(1,.loc 1 1 0 0),(2,.loc 2 1 0 0),(7,.own 7 1 0 l2.length),(8,.p (.int .i64 4)),(9,.p (.int .i64 s.2))],[(0,.arr 41 3 1 [.agg [.p (.str []),.nils,.nils]]),(1,.arr 25 3 1 [.agg [.nils,.nils,.nils]]),(2,.arr 41 3 1 [.agg [.p (.str [112]),.own 5 1 0 ([[110,97,109,101]]).length,.own 23 1 0 s.1.length]]),(5,.arr 9 1 1 (List.map AV.p (List.map PV.str [[110,97,109,101]]))),(7,.arr 9 1 1 (List.map AV.p (List.map PV.str l2))),(23,.arr 66 2 1 (List.map AV.p (List.map encRow s.1)))]⟩) (fun (o6:List Row)=>tE (cX Tryz.f39 X w D hT) (.exit 0) ⟨[(0,.loc 0 1 0 0),(1,.loc 1 1 0 0),(2,.loc 2 1 0 0)],[(0,.arr 41 3 1 [.agg [.p (.str []),.nils,.nils]]),(1,.arr 25 3 1 [.agg [.nils,.nils,.nils]]),(2,.arr 41 3 1 [.agg [.p (.str [112]),.own 5 1 0 ([[110,97,109,101]]).length,.own 23 1 0 o6.length]]),(5,.arr 9 1 1 (List.map AV.p (List.map PV.str [[110,97,109,101]]))),(23,.arr 66 2 1 (List.map AV.p (List.map encRow o6)))]⟩) h5 ?_ ?_
 clear h h3n h5
 intro s x h
 obtain ⟨t7,t8⟩:=s
 simp only [drosslaw56_example_l1] at h
 dsimp only
 refine zs (zr ?_)
 refine zU (zl (zn (zs ?_)))
 rcases zI h with ⟨h9,h⟩ | ⟨h9,h⟩
 refine zi (zk (zn (zs (zb (zs (zr ?_))))))
 obtain ⟨x10,h11,h11a,h11b,h⟩:=zX h
 refine zU (zl (zn (zr ?_)))
 refine zW 9 ?_
 refine zM ⟨[(0,.loc 0 1 0 0),(1,.loc 1 1 0 0),(2,.loc 2 1 0 0),(7,.own 7 1 0 l2.length),(8,.p (.int .i64 4)),(9,.p (.int .i64 t8)),(15,.own 23 1 0 t7.length),(22,.own 22 1 0 1)],[(0,.arr 41 3 1 [.agg [.p (.str []),.nils,.nils]]),(1,.arr 25 3 1 [.agg [.nils,.nils,.nils]]),(2,.arr 41 3 1 [.agg [.p (.str [112]),.own 5 1 0 ([[110,97,109,101]]).length,.own 23 1 0 t7.length]]),(5,.arr 9 1 1 (List.map AV.p (List.map PV.str [[110,97,109,101]]))),(7,.arr 9 1 1 (List.map AV.p (List.map PV.str l2))),(22,.arr 66 2 1 [.p (.agg [.int .i64 (IntKind.i64.wrap (t8+1)),.slc (List.map encValue [(Value.mk 2 0 x10)])])]),(23,.arr 66 2 1 (List.map AV.p (List.map encRow t7)))]⟩ ?_
 obtain ⟨h12,h⟩:=ite_some h
 refine zU (zl (yn (zn (zr ?_))))
 refine zU (zl ?_)
 cases h
 exact ⟨rfl,zE⟩
 refine zj (zx (ze ?_))
 cases h
 exact ⟨rfl,zE⟩
 try simp only at h
 refine zA (yh (zn (zs (zr ?_))))
 refine zU (zl (zn (zq ?_)))
 cases h
 exact zT Tryz.results39
set_option maxHeartbeats 4000000 in
theorem drossref04_zero_con {D:Prop} (a1:Drossref04_Wide) (r2:Bool) (h:drossref04_zero a1=some r2):Con D Tryz.prog 191 [(encDrossref04_Wide a1)] (.bool r2):=by
 refine zP Tryz.call191 Tryz.func191 rfl Tryz.ntmps191 fun X w hT=>?_
 simp only [drossref04_zero] at h
 refine zs (zr ?_)
 refine zU (zl (zn (zs (zr ?_))))
 refine zU ?_
 rcases zI h with ⟨h3,h⟩ | ⟨h3,h⟩
 replace h:=h.symm
 refine zw 6 true ?_
 refine zg ?_
 refine zg ?_
 refine zg ?_
 refine zU (zl (zn (zq ?_)))
 cases h
 exact zT Tryz.results191
 refine zw 6 false ?_
 refine zh ?_
 refine zU (zl (zn (zq ?_)))
 cases h
 exact zT Tryz.results191
set_option maxRecDepth 20000 in
set_option maxHeartbeats 4000000 in
theorem drossref04_less_con {D:Prop} (a1:Drossref04_Wide) (b2:Drossref04_Wide) (r3:Bool) (h:drossref04_less a1 b2=some r3):Con D Tryz.prog 193 [(encDrossref04_Wide a1),(encDrossref04_Wide b2)] (.bool r3):=by
 refine zP Tryz.call193 Tryz.func193 rfl Tryz.ntmps193 fun X w hT=>?_
 simp only [drossref04_less] at h
 refine zs (zr ?_)
 refine zU (zl (zn (zs (zr ?_))))
 refine zU ?_
 rcases zI h with ⟨h4,h⟩ | ⟨h4,h⟩
 refine zw 10 true ?_
 refine zh ?_
 refine zU (zl (zn (zq ?_)))
 cases h
 exact zT Tryz.results193
 refine zw 10 false ?_
 refine zg ?_
 refine zg ?_
 refine zg ?_
 refine zg ?_
 refine zg ?_
 refine zg ?_
 rcases zI h with ⟨h5,h⟩ | ⟨h5,h⟩
 replace h:=h.symm
 refine zw 16 true ?_
 refine zg ?_
 refine zg ?_
 refine zg ?_
 refine zg ?_
 refine zg ?_
 refine zg ?_
 refine zU (zl (zn (zq ?_)))
 cases h
 exact zT Tryz.results193
 replace h:=h.symm
 refine zw 16 false ?_
 refine zh ?_
 refine zg ?_
 refine zU (zl (zn (zq ?_)))
 cases h
 exact zT Tryz.results193
set_option maxHeartbeats 4000000 in
theorem drossref04_plus_con {D:Prop} (a1:Drossref04_Wide) (b2:Drossref04_Wide) (r3:Drossref04_Wide) (h:drossref04_plus a1 b2=some r3):Con D Tryz.prog 228 [(encDrossref04_Wide a1),(encDrossref04_Wide b2)] (encDrossref04_Wide r3):=by
 refine zP Tryz.call228 Tryz.func228 rfl Tryz.ntmps228 fun X w hT=>?_
 simp only [drossref04_plus] at h
 refine zs (zr ?_)
 refine zU (zl (zn (zs (zr ?_))))
 refine zU ?_
 obtain ⟨r4,h5,h⟩:=zB h
 refine zE3 (add_run ext248 h5) ?_
 refine zU (zl (zn (zs (zr ?_))))
 refine zU ?_
 obtain ⟨r6,h7,h⟩:=zB h
 refine zE3 (add_run ext248 h7) ?_
 refine zU (zl (zn (zs (zr ?_))))
 refine zU (zl (zn (zq ?_)))
 cases h
 exact zT Tryz.results228
set_option maxHeartbeats 4000000 in
theorem drossref04_minus_con {D:Prop} (a1:Drossref04_Wide) (b2:Drossref04_Wide) (r3:Drossref04_Wide) (h:drossref04_minus a1 b2=some r3):Con D Tryz.prog 229 [(encDrossref04_Wide a1),(encDrossref04_Wide b2)] (encDrossref04_Wide r3):=by
 refine zP Tryz.call229 Tryz.func229 rfl Tryz.ntmps229 fun X w hT=>?_
 simp only [drossref04_minus] at h
 refine zs (zr ?_)
 refine zU (zl (zn (zs (zr ?_))))
 refine zU ?_
 obtain ⟨r4,h5,h⟩:=zB h
 refine zE3 (sub_run ext249 h5) ?_
 refine zU (zl (zn (zs (zr ?_))))
 refine zU ?_
 obtain ⟨r6,h7,h⟩:=zB h
 refine zE3 (sub_run ext249 h7) ?_
 refine zU (zl (zn (zs (zr ?_))))
 refine zU (zl (zn (zq ?_)))
 cases h
 exact zT Tryz.results229
set_option maxRecDepth 20000 in
set_option maxHeartbeats 4000000 in
theorem drossref04_parts_con {D:Prop} (a1:Drossref04_Wide) (b2:Drossref04_Wide) (r3:Drossref04_Wide×Drossref04_Wide) (h:drossref04_parts a1 b2=some r3):Con D Tryz.prog 192 [(encDrossref04_Wide a1),(encDrossref04_Wide b2)] (.tup [(encDrossref04_Wide r3.1),(encDrossref04_Wide r3.2)]):=by
 refine zP Tryz.call192 Tryz.func192 rfl Tryz.ntmps192 fun X w hT=>?_
 simp only [drossref04_parts] at h
 refine zs (zr ?_)
 refine zU (zl (zn (zs (zr ?_))))
 refine zU (zl (zn (zs (zs (zr ?_)))))
 refine zU (zl (zn (zb ?_)))
 obtain ⟨o4,h5,h⟩:=zB h
 refine zO (fun (s:Drossref04_Wide×Drossref04_Wide×Int)=>⟨[(2,.loc 2 1 0 0),(3,.loc 3 1 0 0),(4,.loc 4 1 0 0),(5,.loc 5 1 0 0),(6,.loc 6 1 0 0),(7,.loc 7 1 0 0),(8,.p (.int .i64 s.2.2))],[(2,.arr 191 2 1 [.p (encDrossref04_Wide a1)]),(3,.arr 191 2 1 [.p (encDrossref04_Wide b2)]),(4,.arr 191 2 1 [.p (.agg [.int .u64 0,.int .u64 0])]),(5,.arr 191 2 1 [.p (.agg [.int .u64 0,.int .u64 0])]),(6,.arr 191 2 1 [.p (encDrossref04_Wide s.1)]),(7,.arr 191 2 1 [.p (encDrossref04_Wide s.2.1)])]⟩) (fun (o6:Drossref04_Wide×Drossref04_Wide)=>tE (cX Tryz.f192 X w D hT) (.exit 0) ⟨[(4,.loc 4 1 0 0),(5,.loc 5 1 0 0),(6,.loc 6 1 0 0),(7,.loc 7 1 0 0)],[(4,.arr 191 2 1 [.p (.agg [.int .u64 0,.int .u64 0])]),(5,.arr 191 2 1 [.p (.agg [.int .u64 0,.int .u64 0])]),(6,.arr 191 2 1 [.p (encDrossref04_Wide o6.1)]),(7,.arr 191 2 1 [.p (encDrossref04_Wide o6.2)])]⟩) h5 ?_ ?_
 clear h h5
 intro s x h
 obtain ⟨q7,r8,i9⟩:=s
 simp only [drossref04_parts_l1] at h
 dsimp only
 refine zs (zs (zr ?_))
 refine zU (zl (zn ?_))
 rcases zI h with ⟨h10,h⟩ | ⟨h10,h⟩
 refine zi (zk (zn (zs (zb (zs (zr ?_))))))
 refine zU (zl (zn (zs (zs (zr ?_)))))
 refine zU (zl (zn ?_))
 rcases zI h with ⟨h11,h⟩ | ⟨h11,h⟩
 refine zi (zr ?_)
 refine zU (zl (zn (zs (zr ?_))))
 refine zU ?_
 obtain ⟨r12,h13,h⟩:=zB h
 refine zc (drossref04_plus_con r8 r8 _ h13) ?_
 refine zU (zl (zn (zs (zd ?_))))
 obtain ⟨h14,h⟩:=ite_none h
 refine yU ?_
 refine yd (zn (zs (zr ?_)))
 refine zU ?_
 obtain ⟨r15,h16,h⟩:=zB h
 refine zc (drossref04_plus_con q7 q7 _ h16) ?_
 refine zU (zl (zn (zs (zr ?_))))
 refine zU ?_
 obtain ⟨r17,h18,h⟩:=zB h
 refine zc (drossref04_less_con (Drossref04_Wide.mk r12.Hi (IntKind.u64.wrap (r12.Lo+(Int.tmod (Int.fdiv a1.Hi (2 ^ (min ((Int.tmod i9 64)).toNat 64))) 2)))) b2 _ h18) ?_
 refine zU (zl (zn ?_))
 rcases zI h with ⟨h19,h⟩ | ⟨h19,h⟩
 refine zj (zk (yn (zn (zr ?_))))
 refine zU (zl ?_)
 cases h
 exact ⟨rfl,zE⟩
 refine zi (zs (zr ?_))
 refine zU ?_
 obtain ⟨r20,h21,h⟩:=zB h
 refine zc (drossref04_minus_con (Drossref04_Wide.mk r12.Hi (IntKind.u64.wrap (r12.Lo+(Int.tmod (Int.fdiv a1.Hi (2 ^ (min ((Int.tmod i9 64)).toNat 64))) 2)))) b2 _ h21) ?_
 refine zU (zl (zn (zr ?_)))
 refine zU (zl (yn (zn (zr ?_))))
 refine zU (zl ?_)
 cases h
 exact ⟨rfl,zE⟩
 refine zj (zk (zn (zs (zr ?_))))
 refine zU ?_
 obtain ⟨r22,h23,h⟩:=zB h
 refine zc (drossref04_plus_con r8 r8 _ h23) ?_
 refine zU (zl (zn (zs (zd ?_))))
 obtain ⟨h24,h⟩:=ite_none h
 refine yU ?_
 refine yd (zn (zs (zr ?_)))
 refine zU ?_
 obtain ⟨r25,h26,h⟩:=zB h
 refine zc (drossref04_plus_con q7 q7 _ h26) ?_
 refine zU (zl (zn (zs (zr ?_))))
 refine zU ?_
 obtain ⟨r27,h28,h⟩:=zB h
 refine zc (drossref04_less_con (Drossref04_Wide.mk r22.Hi (IntKind.u64.wrap (r22.Lo+(Int.tmod (Int.fdiv a1.Lo (2 ^ (min ((Int.tmod i9 64)).toNat 64))) 2)))) b2 _ h28) ?_
 refine zU (zl (zn ?_))
 rcases zI h with ⟨h29,h⟩ | ⟨h29,h⟩
 refine zj (zk (yn (zn (zr ?_))))
 refine zU (zl ?_)
 cases h
 exact ⟨rfl,zE⟩
 refine zi (zs (zr ?_))
 refine zU ?_
 obtain ⟨r30,h31,h⟩:=zB h
 refine zc (drossref04_minus_con (Drossref04_Wide.mk r22.Hi (IntKind.u64.wrap (r22.Lo+(Int.tmod (Int.fdiv a1.Lo (2 ^ (min ((Int.tmod i9 64)).toNat 64))) 2)))) b2 _ h31) ?_
 refine zU (zl (zn (zr ?_)))
 refine zU (zl (yn (zn (zr ?_))))
 refine zU (zl ?_)
 cases h
 exact ⟨rfl,zE⟩
 refine zj (zx (ze ?_))
 cases h
 exact ⟨rfl,zE⟩
 obtain ⟨q32,r33⟩:=o4
 try simp only at h
 refine zA (yh (zn (zs (zd ?_))))
 refine yU ?_
 refine yd (zn (zq ?_))
 cases h
 exact zT Tryz.results192
set_option maxHeartbeats 4000000 in
theorem drossref04_build_con {D:Prop} (n1:Bool) (n2:Drossref04_Wide) (d3:Drossref04_Wide) (r4:Ratio×Int) (h:drossref04_build n1 n2 d3=some r4):Con D Tryz.prog 132 [(.bool n1),(encDrossref04_Wide n2),(encDrossref04_Wide d3)] (.tup [(encRatio r4.1),(.int .i64 r4.2)]):=by
 refine zP Tryz.call132 Tryz.func132 rfl Tryz.ntmps132 fun X w hT=>?_
 simp only [drossref04_build] at h
 refine zs (zr ?_)
 refine zU (zl (zn (zs (zd ?_))))
 refine yU ?_
 refine yd (zn (zs (zb ?_)))
 obtain ⟨x5,h6,h⟩:=zB h
 refine zO (fun (s:Drossref04_Wide×Drossref04_Wide)=>⟨[(0,.p (.bool n1)),(4,.loc 4 1 0 0),(5,.loc 5 1 0 0),(6,.loc 6 1 0 0),(8,.loc 8 1 0 0),(9,.loc 9 1 0 0)],[(4,.arr 191 2 1 [.p (encDrossref04_Wide n2)]),(5,.arr 191 2 1 [.p (encDrossref04_Wide d3)]),(6,.arr 76 2 1 [.p (.agg [.int .i64 0,.int .i64 0])]),(8,.arr 191 2 1 [.p (encDrossref04_Wide s.1)]),(9,.arr 191 2 1 [.p (encDrossref04_Wide s.2)])]⟩) (fun (o7:Drossref04_Wide)=>tE (cX Tryz.f132 X w D hT) (.exit 0) ⟨[(0,.p (.bool n1)),(4,.loc 4 1 0 0),(5,.loc 5 1 0 0),(6,.loc 6 1 0 0),(8,.loc 8 1 0 0)],[(4,.arr 191 2 1 [.p (encDrossref04_Wide n2)]),(5,.arr 191 2 1 [.p (encDrossref04_Wide d3)]),(6,.arr 76 2 1 [.p (.agg [.int .i64 0,.int .i64 0])]),(8,.arr 191 2 1 [.p (encDrossref04_Wide o7)])]⟩) h6 ?_ ?_
 clear h h6
 intro s x h
 obtain ⟨x8,y9⟩:=s
 simp only [drossref04_build_l1] at h
 dsimp only
 refine zs (zs (zr ?_))
 refine zU ?_
 obtain ⟨r10,h11,h⟩:=zB h
 refine zc (drossref04_zero_con y9 _ h11) ?_
 refine zU (zl (zn ?_))
 rcases zI h with ⟨h12,h⟩ | ⟨h12,h⟩
 refine zj (zx (ze ?_))
 cases h
 exact ⟨rfl,zE⟩
 refine zi (zk (zn (zb (zs (zr ?_)))))
 refine zU ?_
 obtain ⟨r13,h14,h⟩:=zB h
 refine zc (drossref04_parts_con x8 y9 _ h14) ?_
 refine zU (zl (zn (zd ?_)))
 refine yU ?_
 refine yd (yn ?_)
 cases h
 exact ⟨rfl,zE⟩
 try simp only at h
 refine zA (yh (zn (zs (zr ?_))))
 refine zU ?_
 obtain ⟨r15,h16,h⟩:=zB h
 refine zc (drossref04_parts_con n2 x5 _ h16) ?_
 refine zU (zl (zn (zs (zr ?_))))
 refine zU ?_
 obtain ⟨r17,h18,h⟩:=zB h
 refine zc (drossref04_parts_con d3 x5 _ h18) ?_
 refine zU (zl (zn (zs (zr ?_))))
 refine zU (zl (zn (zs (zs (zr ?_)))))
 refine zU ?_
 obtain ⟨r19,h20,h⟩:=zB h
 refine zc (drossref04_less_con (Drossref04_Wide.mk 0 9223372036854775807) r15.1 _ h20) ?_
 refine zU ?_
 rcases zI h with ⟨h21,h⟩ | ⟨h21,h⟩
 refine zw 43 true ?_
 refine zh ?_
 refine zU (zl (zn ?_))
 refine zi (zs (zr ?_))
 refine zU (zl (zn (zq (zt ?_))))
 cases h
 exact zT Tryz.results132
 refine zw 43 false ?_
 refine zg ?_
 refine zg ?_
 obtain ⟨r22,h23,h⟩:=zB h
 refine zc (drossref04_less_con (Drossref04_Wide.mk 0 9223372036854775807) r17.1 _ h23) ?_
 refine zU (zl (zn ?_))
 rcases zI h with ⟨h24,h⟩ | ⟨h24,h⟩
 refine zi (zs (zr ?_))
 refine zU (zl (zn (zq (zt ?_))))
 cases h
 exact zT Tryz.results132
 refine zj (zk (zn (zs (zr ?_))))
 refine zU (zl (zn (zs (zs (zr ?_)))))
 refine zU (zl (zn ?_))
 rcases zI h with ⟨h25,h⟩ | ⟨h25,h⟩
 refine zi (zr ?_)
 refine zU (zl (zn (zs (zr ?_))))
 refine zU (zl (zn (zq ?_)))
 cases h
 exact zT Tryz.results132
 refine zj (zk (zn (zs (zr ?_))))
 refine zU (zl (zn (zq ?_)))
 cases h
 exact zT Tryz.results132
set_option maxHeartbeats 4000000 in
theorem drossref04_size_con {D:Prop} (n1:Int) (r2:Drossref04_Wide) (h:drossref04_size n1=some r2):Con D Tryz.prog 133 [(.int .i64 n1)] (encDrossref04_Wide r2):=by
 refine zP Tryz.call133 Tryz.func133 rfl Tryz.ntmps133 fun X w hT=>?_
 simp only [drossref04_size] at h
 refine zs (zr ?_)
 refine zU (zl (zn (zs (zs (zr ?_)))))
 refine zU (zl (zn ?_))
 rcases zI h with ⟨h3,h⟩ | ⟨h3,h⟩
 refine zi (zs (zr ?_))
 refine zU (zl (zn (zq (zt ?_))))
 cases h
 exact zT Tryz.results133
 refine zj (zk (zn (zs (zr ?_))))
 refine zU (zl (zn (zq ?_)))
 cases h
 exact zT Tryz.results133
set_option maxHeartbeats 4000000 in
theorem drossref04_Make_con {D:Prop} (n1:Int) (d2:Int) (r3:Ratio×Int) (h:drossref04_Make n1 d2=some r3):Con D Tryz.prog 79 [(.int .i64 n1),(.int .i64 d2)] (.tup [(encRatio r3.1),(.int .i64 r3.2)]):=by
 refine zP Tryz.call79 Tryz.func79 rfl Tryz.ntmps79 fun X w hT=>?_
 simp only [drossref04_Make] at h
 refine zs (zr ?_)
 refine zU (zl (zn (zs (zs (zr ?_)))))
 refine zU (zl (zn ?_))
 rcases zI h with ⟨h4,h⟩ | ⟨h4,h⟩
 refine zi (zs (zr ?_))
 refine zU (zl (zn (zq (zt ?_))))
 cases h
 exact zT Tryz.results79
 refine zj (zk (zn (zs (zr ?_))))
 refine zU ?_
 obtain ⟨r5,h6,h⟩:=zB h
 refine zc (drossref04_size_con n1 _ h6) ?_
 refine zU ?_
 obtain ⟨r7,h8,h⟩:=zB h
 refine zc (drossref04_size_con d2 _ h8) ?_
 obtain ⟨r9,h10,h⟩:=zB h
 refine zc (drossref04_build_con (!((decide (n1 < 0)) == (decide (d2 < 0)))) r5 r7 _ h10) ?_
 refine zU (zl (zn (zq ?_)))
 cases h
 exact zT Tryz.results79
set_option maxHeartbeats 4000000 in
theorem drossref04_Of_con {D:Prop} (n1:Int) (d2:Int) (r3:Ratio) (h:drossref04_Of n1 d2=some r3):Con D Tryz.prog 40 [(.int .i64 n1),(.int .i64 d2)] (encRatio r3):=by
 refine zP Tryz.call40 Tryz.func40 rfl Tryz.ntmps40 fun X w hT=>?_
 simp only [drossref04_Of] at h
 refine zs (zr ?_)
 refine zU (zl (zn (zs (zr ?_))))
 refine zU ?_
 obtain ⟨r4,h5,h⟩:=zB h
 refine zc (drossref04_Make_con n1 d2 _ h5) ?_
 refine zU (zl (zn (zs (zs (zr ?_)))))
 refine zU (zl (zn ?_))
 rcases zI h with ⟨h6,h⟩ | ⟨h6,h⟩
 refine zi (zs (zr ?_))
 refine zU (zl (zn (zq (zt ?_))))
 cases h
 exact zT Tryz.results40
 refine zj (zk (zn (zs (zr ?_))))
 refine zU (zl (zn (zq ?_)))
 cases h
 exact zT Tryz.results40
set_option maxRecDepth 20000 in
set_option maxHeartbeats 4000000 in
theorem drosslaw56_awake_con  (r1:Bool) (h:drosslaw56_awake=some r1):Con False Tryz.prog 12 [] (.bool r1):=by
 refine zP Tryz.call12 Tryz.func12 rfl Tryz.ntmps12 fun X w hT=>?_
 simp only [drosslaw56_awake] at h
 refine zs (zr ?_)
 refine zU (zl (zn (zs (zr ?_))))
 obtain ⟨r2,h3,h⟩:=zB h
 refine zc (drosslaw56_example_con  _ h3) ?_
 refine zU (zl (zn (zs (zr ?_))))
 refine zU ?_
 obtain ⟨r4,h5,h⟩:=zB h
 refine zc (linkage_Matches_con r2.1 r2.2 _ h5) ?_
 refine zU (zl (zn (zs (zr ?_))))
 refine zU ?_
 obtain ⟨r6,h7,h⟩:=zB h
 refine zc (linkage_Clusters_con r2.1 r2.2 _ h7) ?_
 refine zU (zl (zn (zs (zr ?_))))
 refine zU ?_
 obtain ⟨r8,h9,h⟩:=zB h
 refine zc (linkage_Precision_con r6.1 [[1,2],[3],[4]] _ h9) ?_
 refine zU (zl (zn (zs (zr ?_))))
 refine zU ?_
 obtain ⟨r10,h11,h⟩:=zB h
 refine zc (linkage_Recall_con r6.1 [[1,2],[3],[4]] _ h11) ?_
 refine zU (zl (zn (zs (zd ?_))))
 refine yU ?_
 rcases zI h with ⟨h12,h⟩ | ⟨h12,h⟩
 refine yw 47 true ?_
 refine yg ?_
 refine yg ?_
 refine yg ?_
 refine yg ?_
 obtain ⟨r13,h14,h⟩:=zB h
 refine yc (drossref56_SamePairs_con r4.1 [(Arr2_int64.mk 1 2),(Arr2_int64.mk 2 3)] _ h14) ?_
 refine yU ?_
 rcases zI h with ⟨h15,h⟩ | ⟨h15,h⟩
 refine yw 54 true ?_
 refine yg ?_
 refine yg ?_
 refine yU ?_
 rcases zI h with ⟨h16,h⟩ | ⟨h16,h⟩
 refine yw 58 true ?_
 refine yg ?_
 refine yg ?_
 refine yg ?_
 refine yg ?_
 obtain ⟨r17,h18,h⟩:=zB h
 refine yc (drossref55_Lists_con r6.1 [[1,2,3],[4]] _ h18) ?_
 refine yU ?_
 rcases zI h with ⟨h19,h⟩ | ⟨h19,h⟩
 refine yw 65 true ?_
 refine yg ?_
 refine yg ?_
 refine yU ?_
 rcases zI h with ⟨h20,h⟩ | ⟨h20,h⟩
 refine yw 69 true ?_
 refine yg ?_
 obtain ⟨r21,h22,h⟩:=zB h
 refine yc (drossref04_Of_con 1 3 _ h22) ?_
 refine yg ?_
 refine yU ?_
 rcases zI h with ⟨h23,h⟩ | ⟨h23,h⟩
 refine yw 74 true ?_
 refine yg ?_
 refine yg ?_
 refine yU ?_
 rcases zI h with ⟨h24,h⟩ | ⟨h24,h⟩
 refine yw 78 true ?_
 refine yg ?_
 obtain ⟨r25,h26,h⟩:=zB h
 replace h:=h.symm
 refine yc (drossref04_Of_con 1 1 _ h26) ?_
 refine yg ?_
 refine yU ?_
 refine yd (zn (zq ?_))
 cases h
 exact zT Tryz.results12
 refine yw 78 false ?_
 refine yk ?_
 refine yU ?_
 refine yd (zn (zq ?_))
 cases h
 exact zT Tryz.results12
 refine yw 74 false ?_
 refine yk ?_
 refine yU ?_
 refine yk ?_
 refine yU ?_
 refine yd (zn (zq ?_))
 cases h
 exact zT Tryz.results12
 refine yw 69 false ?_
 refine yk ?_
 refine yU ?_
 refine yk ?_
 refine yU ?_
 refine yk ?_
 refine yU ?_
 refine yd (zn (zq ?_))
 cases h
 exact zT Tryz.results12
 refine yw 65 false ?_
 refine yk ?_
 refine yU ?_
 refine yk ?_
 refine yU ?_
 refine yk ?_
 refine yU ?_
 refine yk ?_
 refine yU ?_
 refine yd (zn (zq ?_))
 cases h
 exact zT Tryz.results12
 refine yw 58 false ?_
 refine yk ?_
 refine yU ?_
 refine yk ?_
 refine yU ?_
 refine yk ?_
 refine yU ?_
 refine yk ?_
 refine yU ?_
 refine yk ?_
 refine yU ?_
 refine yd (zn (zq ?_))
 cases h
 exact zT Tryz.results12
 refine yw 54 false ?_
 refine yk ?_
 refine yU ?_
 refine yk ?_
 refine yU ?_
 refine yk ?_
 refine yU ?_
 refine yk ?_
 refine yU ?_
 refine yk ?_
 refine yU ?_
 refine yk ?_
 refine yU ?_
 refine yd (zn (zq ?_))
 cases h
 exact zT Tryz.results12
 refine yw 47 false ?_
 refine yk ?_
 refine yU ?_
 refine yk ?_
 refine yU ?_
 refine yk ?_
 refine yU ?_
 refine yk ?_
 refine yU ?_
 refine yk ?_
 refine yU ?_
 refine yk ?_
 refine yU ?_
 refine yk ?_
 refine yU ?_
 refine yd (zn (zq ?_))
 cases h
 exact zT Tryz.results12
set_option maxRecDepth 20000 in
set_option maxHeartbeats 4000000 in
theorem drosslaw56_few_con {D:Prop} (l1:Linkage) (r2:Bool) (h:drosslaw56_few l1=some r2):Con D Tryz.prog 13 [(encLinkage l1)] (.bool r2):=by
 refine zP Tryz.call13 Tryz.func13 rfl Tryz.ntmps13 fun X w hT=>?_
 simp only [drosslaw56_few] at h
 refine zs (zr ?_)
 refine zU (zl (zn (zs (zs (zr ?_)))))
 refine zU ?_
 rcases zI h with ⟨h3,h⟩ | ⟨h3,h⟩
 refine zw 9 true ?_
 refine zh ?_
 refine zU ?_
 refine zh ?_
 refine zU (zl (zn ?_))
 refine zi (zs (zr ?_))
 refine zU (zl (zn (zq (zt ?_))))
 cases h
 exact zT Tryz.results13
 refine zw 9 false ?_
 refine zg ?_
 refine zg ?_
 refine zg ?_
 refine zg ?_
 refine zU ?_
 rcases zI h with ⟨h4,h⟩ | ⟨h4,h⟩
 refine zw 15 true ?_
 refine zh ?_
 refine zU (zl (zn ?_))
 refine zi (zs (zr ?_))
 refine zU (zl (zn (zq (zt ?_))))
 cases h
 exact zT Tryz.results13
 refine zw 15 false ?_
 refine zg ?_
 refine zg ?_
 refine zg ?_
 refine zg ?_
 refine zU (zl (zn ?_))
 rcases zI h with ⟨h5,h⟩ | ⟨h5,h⟩
 refine zi (zs (zr ?_))
 refine zU (zl (zn (zq (zt ?_))))
 cases h
 exact zT Tryz.results13
 refine zj (zk (zn (zs (zs (zr ?_)))))
 refine zU (zl (zn (zb ?_)))
 obtain ⟨o6,h7,h⟩:=zB h
 refine zO (fun (s:Int)=>⟨[(22,.p (.slc (List.map (encL encSimilar) l1.Rules))),(23,.p (.int .i64 (l1.Rules.length:Int))),(24,.p (.int .i64 s))],[]⟩) (fun (o:(Unit) ⊕ (Bool))=>match o with | .inl o8=>tE (cX Tryz.f13 X w D hT) (.exit 0) ⟨[],[]⟩ | .inr o9=>tR Tryz.prog Tryz.f13 (.bool o9)) h7 ?_ ?_
 clear h h3 h4 h5 h7
 intro t10 x h
 simp only [drosslaw56_few_l1] at h
 refine zs (zr ?_)
 refine zU (zl (zn (zs ?_)))
 rcases zI h with ⟨h11,h⟩ | ⟨h11,h⟩
 refine zi (zk (zn (zs (zb (zs (zr ?_))))))
 obtain ⟨x12,h13,h13a,h13b,h⟩:=zX h
 refine zU (zl (zn (zs (zr ?_))))
 refine zU (zl (zn ?_))
 rcases zI h with ⟨h14,h⟩ | ⟨h14,h⟩
 refine zi (zs (zr ?_))
 refine zU (zl (zn (zq (yr (zt ?_)))))
 cases h
 exact ⟨rfl,zT Tryz.results13⟩
 refine zj (zk (yn (zn (zr ?_))))
 refine zU (zl ?_)
 cases h
 exact ⟨rfl,zE⟩
 refine zj (zx (ze ?_))
 cases h
 exact ⟨rfl,zE⟩
 rcases o6 with ⟨⟩ | r15
 try simp only at h
 refine zA (yh (zn (zs (zr ?_))))
 refine zU (zl (zn (zq ?_)))
 cases h
 exact zT Tryz.results13
 try simp only at h
 refine zZ fun s hq=>?_
 refine yr (zt ?_)
 cases h
 exact hq
set_option maxHeartbeats 4000000 in
theorem slices_IndexFunc_Row_con {D:Prop} (s1:List Row) (f2:Row→Option (Bool)) (f2_k:FuncId) (f2_cs:List PV) (f2_h:∀(y3:Row) (r4:Bool),f2 y3=some r4→Con D Tryz.prog f2_k ((encRow y3) :: f2_cs) (.bool r4)) (r5:Int) (h:slices_IndexFunc_Row s1 f2=some r5):Con D Tryz.prog 109 [(.slc (List.map encRow s1)),.func (.func f2_k) f2_cs] (.int .i64 r5):=by
 refine zP Tryz.call109 Tryz.func109 rfl Tryz.ntmps109 fun X w hT=>?_
 simp only [slices_IndexFunc_Row] at h
 refine zs (zr ?_)
 refine zU (zl (zn (zs (zs (zr ?_)))))
 refine zU (zl (zn (zb ?_)))
 obtain ⟨o6,h7,h⟩:=zB h
 refine zO (fun (s:Int)=>⟨[(0,.p (.slc (List.map encRow s1))),(1,.p (.func (.func f2_k) f2_cs)),(7,.p (.int .i64 (s1.length:Int))),(8,.p (.int .i64 s))],[]⟩) (fun (o:(Unit) ⊕ (Int))=>match o with | .inl o8=>tE (cX Tryz.f109 X w D hT) (.exit 0) ⟨[],[]⟩ | .inr o9=>tR Tryz.prog Tryz.f109 (.int .i64 o9)) h7 ?_ ?_
 clear h h7
 intro t10 x h
 simp only [slices_IndexFunc_Row_l1] at h
 refine zs (zr ?_)
 refine zU (zl (zn (zs ?_)))
 rcases zI h with ⟨h11,h⟩ | ⟨h11,h⟩
 refine zi (zk (zn (zs (zb (zs (zr ?_))))))
 refine zU (zl (zn (zs (zr ?_))))
 obtain ⟨x12,h13,h13a,h13b,h⟩:=zX h
 refine zU ?_
 obtain ⟨r14,h15,h⟩:=zB h
 refine zc (f2_h x12 _ h15) ?_
 refine zl (zn ?_)
 rcases zI h with ⟨h16,h⟩ | ⟨h16,h⟩
 refine zi (zs (zr ?_))
 refine zU (zl (zn (zq (yr (zt ?_)))))
 cases h
 exact ⟨rfl,zT Tryz.results109⟩
 refine zj (zk (yn (zn (zr ?_))))
 refine zU (zl ?_)
 cases h
 exact ⟨rfl,zE⟩
 refine zj (zx (ze ?_))
 cases h
 exact ⟨rfl,zE⟩
 rcases o6 with ⟨⟩ | r17
 try simp only at h
 refine zA (yh (zn (zs (zr ?_))))
 refine zU (zl (zn (zq ?_)))
 cases h
 exact zT Tryz.results109
 try simp only at h
 refine zZ fun s hq=>?_
 refine yr (zt ?_)
 cases h
 exact hq
set_option maxHeartbeats 4000000 in
theorem table_Find_1_con {D:Prop} (r1:Row) (c2:Int) (r3:Bool) (h:table_Find_1 r1 c2=some r3):Con D Tryz.prog 110 [(encRow r1),.imm [.int .i64 c2]] (.bool r3):=by
 refine zP Tryz.call110 Tryz.func110 rfl Tryz.ntmps110 fun X w hT=>?_
 simp only [table_Find_1] at h
 refine zs (zr ?_)
 refine zU (zl (zn (zs (zr ?_))))
 refine zU (zl (zn (zq ?_)))
 cases h
 exact zT Tryz.results110
set_option maxHeartbeats 4000000 in
theorem table_Find_con {D:Prop} (t1:Table) (i2:Int) (r3:Int×Bool) (h:table_Find t1 i2=some r3):Con D Tryz.prog 72 [(encTable t1),(.int .i64 i2)] (.tup [(.int .i64 r3.1),(.bool r3.2)]):=by
 refine zP Tryz.call72 Tryz.func72 rfl Tryz.ntmps72 fun X w hT=>?_
 simp only [table_Find] at h
 refine zs (zr ?_)
 refine zU (zl (zn (zs (zr ?_))))
 refine zU ?_
 obtain ⟨r4,h5,h⟩:=zB h
 refine zc (slices_IndexFunc_Row_con t1.Rows (fun (y6:Row)=>table_Find_1 y6 i2) 110 [.imm [.int .i64 i2]] (fun y6 r h=>table_Find_1_con y6 i2 r h) _ h5) ?_
 refine zU (zl (zn (zs (zr ?_))))
 refine zU (zl (zn (zq ?_)))
 cases h
 exact zT Tryz.results72
set_option maxRecDepth 20000 in
set_option maxHeartbeats 4000000 in
theorem linkage_Explain_con (t1:Table) (l2:Linkage) (a3:Int) (b4:Int) (r5:Int×Int) (h:linkage_Explain t1 l2 a3 b4=some r5):Con False Tryz.prog 33 [(encTable t1),(encLinkage l2),(.int .i64 a3),(.int .i64 b4)] (.tup [(.int .i64 r5.1),(.int .i64 r5.2)]):=by
 refine zP Tryz.call33 Tryz.func33 rfl Tryz.ntmps33 fun X w hT=>?_
 simp only [linkage_Explain] at h
 refine zs (zr ?_)
 refine zU (zl (zn (zs (zs (zr ?_)))))
 refine zU ?_
 obtain ⟨r6,h7,h⟩:=zB h
 refine zc (linkage_limits_con t1 l2 _ h7) ?_
 refine zU (zl (zn (zs (zr ?_))))
 refine zU (zl (zn ?_))
 rcases zI h with ⟨h8,h⟩ | ⟨h8,h⟩
 refine zi (zs (zr ?_))
 refine zU (zl (zn (zq (zt ?_))))
 cases h
 exact zT Tryz.results33
 refine zj (zk (zn (zs (zr ?_))))
 refine zU ?_
 obtain ⟨r9,h10,h⟩:=zB h
 refine zc (table_Find_con t1 a3 _ h10) ?_
 refine zU (zl (zn (zs (zr ?_))))
 refine zU ?_
 obtain ⟨r11,h12,h⟩:=zB h
 refine zc (table_Find_con t1 b4 _ h12) ?_
 refine zU (zl (zn (zs (zs (zr ?_)))))
 refine zU ?_
 rcases zI h with ⟨h13,h⟩ | ⟨h13,h⟩
 refine zw 36 false ?_
 refine zg ?_
 refine zg ?_
 refine zU (zl (zn ?_))
 rcases zI h with ⟨h14,h⟩ | ⟨h14,h⟩
 refine zj (zk (zn (zs (zd ?_))))
 obtain ⟨x15,h16,h16a,h16b,h⟩:=zX h
 obtain ⟨x17,h18,h18a,h18b,h⟩:=zX h
 refine yU ?_
 obtain ⟨r19,h20,h⟩:=zB h
 refine yc (linkage_holds_con l2 x15 x17 _ h20) ?_
 refine yU ?_
 refine yd (zn (zs (zs (zr ?_))))
 refine zU (zl (zn ?_))
 rcases zI h with ⟨h21,h⟩ | ⟨h21,h⟩
 refine zi (zs (zr ?_))
 refine zU (zl (zn (zq (zt ?_))))
 cases h
 exact zT Tryz.results33
 refine zj (zk (zn (zs (zr ?_))))
 refine zU (zl (zn (zq ?_)))
 cases h
 exact zT Tryz.results33
 refine zi (zs (zr ?_))
 refine zU (zl (zn (zq (zt ?_))))
 cases h
 exact zT Tryz.results33
 refine zw 36 true ?_
 refine zh ?_
 refine zU (zl (zn ?_))
 refine zi (zs (zr ?_))
 refine zU (zl (zn (zq (zt ?_))))
 cases h
 exact zT Tryz.results33
set_option maxHeartbeats 4000000 in
theorem survivor_validRule_con {D:Prop} (r1:Int) (r2:Bool) (h:survivor_validRule r1=some r2):Con D Tryz.prog 117 [(.int .i64 r1)] (.bool r2):=by
 refine zP Tryz.call117 Tryz.func117 rfl Tryz.ntmps117 fun X w hT=>?_
 simp only [survivor_validRule] at h
 refine zs (zr ?_)
 refine zU (zl (zn (zs (zr ?_))))
 refine zU ?_
 rcases zI h with ⟨h3,h⟩ | ⟨h3,h⟩
 replace h:=h.symm
 refine zw 5 true ?_
 refine zg ?_
 refine zg ?_
 refine zU (zl (zn (zq ?_)))
 cases h
 exact zT Tryz.results117
 refine zw 5 false ?_
 refine zh ?_
 refine zU (zl (zn (zq ?_)))
 cases h
 exact zT Tryz.results117
set_option maxHeartbeats 4000000 in
theorem survivor_Table_1_con {D:Prop} (r1:Int) (r2:Bool) (h:survivor_Table_1 r1=some r2):Con D Tryz.prog 116 [(.int .i64 r1)] (.bool r2):=by
 refine zP Tryz.call116 Tryz.func116 rfl Tryz.ntmps116 fun X w hT=>?_
 simp only [survivor_Table_1] at h
 refine zs (zr ?_)
 refine zU (zl (zn (zs (zr ?_))))
 refine zU ?_
 obtain ⟨r3,h4,h⟩:=zB h
 refine zc (survivor_validRule_con r1 _ h4) ?_
 refine zU (zl (zn (zq ?_)))
 cases h
 exact zT Tryz.results116
set_option maxRecDepth 20000 in
set_option maxHeartbeats 4000000 in
theorem survivor_ascending_con {D:Prop} (l1:List Int) (r2:Bool) (h:survivor_ascending l1=some r2):Con D Tryz.prog 220 [(.slc (List.map (PV.int .i64) l1))] (.bool r2):=by
 refine zP Tryz.call220 Tryz.func220 rfl Tryz.ntmps220 fun X w hT=>?_
 simp only [survivor_ascending] at h
 refine zs (zr ?_)
 refine zU (zl (zn (zs (zs (zr ?_)))))
 refine zU (zl (zn (zb ?_)))
 obtain ⟨o3,h4,h⟩:=zB h
 refine zO (fun (s:Int)=>⟨[(0,.p (.slc (List.map (PV.int .i64) l1))),(3,.p (.int .i64 s))],[]⟩) (fun (o:(Unit) ⊕ (Bool))=>match o with | .inl o5=>tE (cX Tryz.f220 X w D hT) (.exit 0) ⟨[(0,.p (.slc (List.map (PV.int .i64) l1)))],[]⟩ | .inr o6=>tR Tryz.prog Tryz.f220 (.bool o6)) h4 ?_ ?_
 clear h h4
 intro i7 x h
 simp only [survivor_ascending_l1] at h
 refine zs (zs (zr ?_))
 refine zU (zl (zn ?_))
 rcases zI h with ⟨h8,h⟩ | ⟨h8,h⟩
 refine zi (zk (zn (zs (zb (zs (zd ?_))))))
 obtain ⟨x9,h10,h10a,h10b,h⟩:=zX h
 obtain ⟨x11,h12,h12a,h12b,h⟩:=zX h
 refine yU ?_
 refine yd (zn ?_)
 rcases zI h with ⟨h13,h⟩ | ⟨h13,h⟩
 refine zi (zs (zr ?_))
 refine zU (zl (zn (zq (yr (zt ?_)))))
 cases h
 exact ⟨rfl,zT Tryz.results220⟩
 refine zj (zk (yn (zn (zr ?_))))
 refine zU (zl ?_)
 cases h
 exact ⟨rfl,zE⟩
 refine zj (zx (ze ?_))
 cases h
 exact ⟨rfl,zE⟩
 rcases o3 with ⟨⟩ | r14
 try simp only at h
 refine zA (yh (zn (zs (zr ?_))))
 refine zU (zl (zn (zq ?_)))
 cases h
 exact zT Tryz.results220
 try simp only at h
 refine zZ fun s hq=>?_
 refine yr (zt ?_)
 cases h
 exact hq
set_option maxRecDepth 20000 in
set_option maxHeartbeats 4000000 in
theorem survivor_disjoint_con {D:Prop} (c1:List (List Int)) (r2:(List (Int×Bool))×Bool) (h:survivor_disjoint c1=some r2):Con D Tryz.prog 178 [(.slc (List.map (encL (PV.int .i64)) c1))] (.tup [(.mapv (encK (PV.int .i64) r2.1) (encW PV.bool r2.1)),(.bool r2.2)]):=by
 refine zP Tryz.call178 Tryz.func178 rfl Tryz.ntmps178 fun X w hT=>?_
 simp only [survivor_disjoint] at h
 refine zs (zr ?_)
 refine zU (zl (zn (zs (zr ?_))))
 refine zU (zl (zn (zs (zs (zr ?_)))))
 refine zU (zl (zn (zb ?_)))
 obtain ⟨o3,h4,h⟩:=zB h
 refine zO (fun (s:(List (Int×Bool))×Int)=>⟨[(4,.mapo 9 1),(10,.p (.slc (List.map (encL (PV.int .i64)) c1))),(11,.p (.int .i64 (c1.length:Int))),(12,.p (.int .i64 s.2))],[(9,.map 1 (List.map AV.p (encK (PV.int .i64) s.1)) (List.map AV.p (encW PV.bool s.1)))]⟩) (fun (o:((List (Int×Bool))) ⊕ ((List (Int×Bool))×Bool))=>match o with | .inl o5=>tE (cX Tryz.f178 X w D hT) (.exit 0) ⟨[(4,.mapo 9 1)],[(9,.map 1 (List.map AV.p (encK (PV.int .i64) o5)) (List.map AV.p (encW PV.bool o5)))]⟩ | .inr o6=>tR Tryz.prog Tryz.f178 (.tup [(.mapv (encK (PV.int .i64) o6.1) (encW PV.bool o6.1)),(.bool o6.2)])) h4 ?_ ?_
 clear h h4
 intro s x h
 obtain ⟨s7,t8⟩:=s
 simp only [survivor_disjoint_l4] at h
 dsimp only
 refine zs (zr ?_)
 refine zU (zl (zn (zs ?_)))
 rcases zI h with ⟨h9,h⟩ | ⟨h9,h⟩
 refine zi (zk (zn (zs (zb (zs (zr ?_))))))
 obtain ⟨x10,h11,h11a,h11b,h⟩:=zX h
 refine zU (zl (zn (zs (zs (zr ?_)))))
 refine zU ?_
 obtain ⟨r12,h13,h⟩:=zB h
 refine zc (survivor_ascending_con x10 _ h13) ?_
 refine zU (zl (zn ?_))
 rcases zI h with ⟨h14,h⟩ | ⟨h14,h⟩
 refine zj (zk (zn (zs (zr ?_))))
 refine zU (zl (zn (zb ?_)))
 obtain ⟨o15,h16,h⟩:=zB h
 refine zO (fun (s:(List (Int×Bool))×Int)=>⟨[(4,.mapo 9 1),(10,.p (.slc (List.map (encL (PV.int .i64)) c1))),(11,.p (.int .i64 (c1.length:Int))),(12,.p (.int .i64 t8)),(19,.p (.slc (List.map (PV.int .i64) x10))),(20,.p (.int .i64 (x10.length:Int))),(21,.p (.int .i64 s.2))],[(9,.map 1 (List.map AV.p (encK (PV.int .i64) s.1)) (List.map AV.p (encW PV.bool s.1)))]⟩) (fun (o:((List (Int×Bool))) ⊕ ((List (Int×Bool))×Bool))=>match o with | .inl o17=>tE (cX Tryz.f178 X w D hT) (.exit 2) ⟨[(4,.mapo 9 1),(10,.p (.slc (List.map (encL (PV.int .i64)) c1))),(11,.p (.int .i64 (c1.length:Int))),(12,.p (.int .i64 t8))],[(9,.map 1 (List.map AV.p (encK (PV.int .i64) o17)) (List.map AV.p (encW PV.bool o17)))]⟩ | .inr o18=>tR Tryz.prog Tryz.f178 (.tup [(.mapv (encK (PV.int .i64) o18.1) (encW PV.bool o18.1)),(.bool o18.2)])) h16 ?_ ?_
 clear h h9 h11 h11a h11b h13 h14 h16
 intro s x h
 obtain ⟨s19,t20⟩:=s
 simp only [survivor_disjoint_l3] at h
 dsimp only
 refine zs (zr ?_)
 refine zU (zl (zn (zs ?_)))
 rcases zI h with ⟨h21,h⟩ | ⟨h21,h⟩
 refine zi (zk (zn (zs (zb (zs (zr ?_))))))
 obtain ⟨x22,h23,h23a,h23b,h⟩:=zX h
 refine zU (zl (zn (zs (zs (zr ?_)))))
 refine zU (zl (zn ?_))
 rcases zI h with ⟨h24,h⟩ | ⟨h24,h⟩
 refine zi (zs (zr ?_))
 refine zU (zl (zn (zq (zt (yr (zt ?_))))))
 cases h
 exact ⟨rfl,zT Tryz.results178⟩
 refine zj (zk (zn (zr ?_)))
 refine zU (zl (yn (zn (zr ?_))))
 refine zU (zl ?_)
 cases h
 exact ⟨rfl,zE⟩
 refine zj (zx (ze ?_))
 cases h
 exact ⟨rfl,zE⟩
 rcases o15 with s25 | r26
 try simp only at h
 refine zA (yh (yn (zn (zr ?_))))
 refine zU (zl ?_)
 cases h
 exact ⟨rfl,zE⟩
 try simp only at h
 refine zZ fun s hq=>?_
 refine yr (yr (zt ?_))
 cases h
 refine ⟨rfl,?_⟩
 exact hq
 refine zi (zs (zr ?_))
 refine zU (zl (zn (zq (zt (yr (zt ?_))))))
 cases h
 exact ⟨rfl,zT Tryz.results178⟩
 refine zj (zx (ze ?_))
 cases h
 exact ⟨rfl,zE⟩
 rcases o3 with s27 | r28
 try simp only at h
 refine zA (yh (zn (zs (zr ?_))))
 refine zU (zl (zn (zq ?_)))
 cases h
 exact zT Tryz.results178
 try simp only at h
 refine zZ fun s hq=>?_
 refine yr (zt ?_)
 cases h
 exact hq
set_option maxHeartbeats 4000000 in
theorem slices_ContainsFunc_Row_con {D:Prop} (s1:List Row) (f2:Row→Option (Bool)) (f2_k:FuncId) (f2_cs:List PV) (f2_h:∀(y3:Row) (r4:Bool),f2 y3=some r4→Con D Tryz.prog f2_k ((encRow y3) :: f2_cs) (.bool r4)) (r5:Bool) (h:slices_ContainsFunc_Row s1 f2=some r5):Con D Tryz.prog 179 [(.slc (List.map encRow s1)),.func (.func f2_k) f2_cs] (.bool r5):=by
 refine zP Tryz.call179 Tryz.func179 rfl Tryz.ntmps179 fun X w hT=>?_
 simp only [slices_ContainsFunc_Row] at h
 refine zs (zr ?_)
 refine zU (zl (zn (zs (zr ?_))))
 refine zU ?_
 obtain ⟨r6,h7,h⟩:=zB h
 refine zc (slices_IndexFunc_Row_con s1 f2 f2_k f2_cs f2_h _ h7) ?_
 refine zU (zl (zn (zq ?_)))
 cases h
 exact zT Tryz.results179
set_option maxHeartbeats 4000000 in
theorem survivor_divides_1_con {D:Prop} (r1:Row) (c2:List (Int×Bool)) (r3:Bool) (h:survivor_divides_1 r1 c2=some r3):Con D Tryz.prog 180 [(encRow r1),.imm [.mapv (encK (PV.int .i64) c2) (encW PV.bool c2)]] (.bool r3):=by
 refine zP Tryz.call180 Tryz.func180 rfl Tryz.ntmps180 fun X w hT=>?_
 simp only [survivor_divides_1] at h
 refine zs (zr ?_)
 refine zU (zl (zn (zs (zr ?_))))
 refine zU (zl (zn (zq ?_)))
 cases h
 exact zT Tryz.results180
set_option maxHeartbeats 4000000 in
theorem survivor_divides_con {D:Prop} (t1:Table) (c2:List (List Int)) (r3:Bool) (h:survivor_divides t1 c2=some r3):Con D Tryz.prog 118 [(encTable t1),(.slc (List.map (encL (PV.int .i64)) c2))] (.bool r3):=by
 refine zP Tryz.call118 Tryz.func118 rfl Tryz.ntmps118 fun X w hT=>?_
 simp only [survivor_divides] at h
 refine zs (zr ?_)
 refine zU (zl (zn (zs (zr ?_))))
 refine zU ?_
 obtain ⟨r4,h5,h⟩:=zB h
 refine zc (survivor_disjoint_con c2 _ h5) ?_
 refine zU (zl (zn (zs (zs (zr ?_)))))
 refine zU ?_
 rcases zI h with ⟨h6,h⟩ | ⟨h6,h⟩
 refine zw 14 false ?_
 refine zg ?_
 refine zg ?_
 refine zg ?_
 refine zg ?_
 refine zg ?_
 refine zg ?_
 refine zU (zl (zn ?_))
 rcases zI h with ⟨h7,h⟩ | ⟨h7,h⟩
 refine zi (zs (zr ?_))
 refine zU (zl (zn (zq (zt ?_))))
 cases h
 exact zT Tryz.results118
 refine zj (zk (zn (zs (zr ?_))))
 refine zU ?_
 obtain ⟨r8,h9,h⟩:=zB h
 refine zc (slices_ContainsFunc_Row_con t1.Rows (fun (y10:Row)=>survivor_divides_1 y10 r4.1) 180 [.imm [.mapv (encK (PV.int .i64) r4.1) (encW PV.bool r4.1)]] (fun y10 r h=>survivor_divides_1_con y10 r4.1 r h) _ h9) ?_
 refine zU (zl (zn (zq ?_)))
 cases h
 exact zT Tryz.results118
 refine zw 14 true ?_
 refine zh ?_
 refine zU (zl (zn ?_))
 refine zi (zs (zr ?_))
 refine zU (zl (zn (zq (zt ?_))))
 cases h
 exact zT Tryz.results118
set_option maxHeartbeats 4000000 in
theorem survivor_Table_2_con {D:Prop} (a1:List Int) (b2:List Int) (r3:Int) (h:survivor_Table_2 a1 b2=some r3):Con D Tryz.prog 120 [(.slc (List.map (PV.int .i64) a1)),(.slc (List.map (PV.int .i64) b2))] (.int .i64 r3):=by
 refine zP Tryz.call120 Tryz.func120 rfl Tryz.ntmps120 fun X w hT=>?_
 simp only [survivor_Table_2] at h
 refine zs (zr ?_)
 refine zU (zl (zn (zs (zd ?_))))
 obtain ⟨x4,h5,h5l,h5L,h⟩:=zY 0 h
 obtain ⟨x6,h7,h7l,h7L,h⟩:=zY 0 h
 refine yU ?_
 obtain ⟨r8,h9,h⟩:=zB h
 refine yc (cmp_Compare_int64_con x4 x6 _ h9) ?_
 refine yU ?_
 refine yd (zn (zq ?_))
 cases h
 exact zT Tryz.results120
set_option maxHeartbeats 4000000 in
theorem slices_Clone_string_con {D:Prop} (l:List (List UInt8)) (r:List (List UInt8)) (h:slices_Clone_string l=some r):Con D Tryz.prog 121 [(.slc (List.map PV.str l))] (.slc (List.map PV.str r)):=by
  obtain ⟨hc,h⟩:=ite_some h
  cases h
  refine ⟨Tryz.call121,?_⟩
  refine pure_of_awp Tryz.func121 rfl Tryz.ntmps121 (by simp) fun X w hT=>?_
  show AWp _ _ _ ⟨[(0,.p (.slc (List.map PV.str l)))],[]⟩
  refine awp_seq ?_
  refine awp_region ?_
  refine AL_upto (by exact rfl) (by simp only [go_sem,seval];exact rfl) ?_
  refine AL_nil ?_
  refine thenA_n ?_
  refine awp_seq ?_
  refine awp_seq ?_
  refine awp_region ?_
  refine AL_take 1 (by simp only [go_sem,seval];exact rfl) ?_
  refine AL_nileq (by simp only [go_sem,seval];exact rfl) (by simp only [go_sem,seval]) Tryz.underlying38 rfl ?_
  intro b hb
  refine AL_nil ?_
  refine thenA_n ?_
  cases b
  · refine awp_cf (by simp only [go_sem,seval]) ?_
    refine awp_skip ?_
    refine thenA_n ?_
    refine awp_seq ?_
    refine awp_region ?_
    refine AL_upto (by exact rfl) (by simp only [go_sem,seval,hc];exact rfl) ?_
    refine AL_nil ?_
    refine thenA_n ?_
    refine awp_ret ?_
    refine retQ_ret (by simp only [Tryz.results121];simp only [go_sem,seval];exact rfl) ?_
    simp only [go_sem,seval]
    all_goals ((repeat' refine And.intro ?_ ?_) <;> first | rfl | (simp;done) | (simp;rfl) | (simp [*];done) | (simp [*];rfl))
  · refine awp_ct (by simp only [go_sem,seval]) ?_
    have hl:l=[]:=by
      cases l with
      | nil=>rfl
      | cons x l=>exact absurd (hb (by simp)) (by simp)
    subst hl
    refine awp_seq ?_
    refine awp_region ?_
    refine AL_upto (by exact rfl) (by simp only [go_sem,seval];exact rfl) ?_
    refine AL_nil ?_
    refine thenA_n ?_
    refine awp_ret ?_
    refine thenA_ret ?_
    refine retQ_ret (by simp only [Tryz.results121];simp only [go_sem,seval];exact rfl) ?_
    simp only [go_sem,seval]
    all_goals ((repeat' refine And.intro ?_ ?_) <;> first | rfl | (simp;done) | (simp;rfl) | (simp [*];done) | (simp [*];rfl))
set_option maxHeartbeats 4000000 in
theorem survivor_checkRows_con {D:Prop} (r1:List Row) (r2:Int) (h:survivor_checkRows r1=some r2):Con D Tryz.prog 181 [(.slc (List.map encRow r1))] (.int .i64 r2):=by
 refine zP Tryz.call181 Tryz.func181 rfl Tryz.ntmps181 fun X w hT=>?_
 simp only [survivor_checkRows] at h
 refine zs (zr ?_)
 refine zU (zl (zn (zs (zs (zr ?_)))))
 refine zU (zl (zn ?_))
 rcases zI h with ⟨h3,h⟩ | ⟨h3,h⟩
 refine zi (zs (zr ?_))
 refine zU (zl (zn (zq (zt ?_))))
 cases h
 exact zT Tryz.results181
 refine zj (zk (zn (zs (zs (zr ?_)))))
 refine zU (zl (zn (zb ?_)))
 obtain ⟨o4,h5,h⟩:=zB h
 refine zO (fun (s:Int)=>⟨[(0,.p (.slc (List.map encRow r1))),(8,.p (.slc (List.map encRow r1))),(9,.p (.int .i64 (r1.length:Int))),(10,.p (.int .i64 s))],[]⟩) (fun (o:(Unit) ⊕ (Int))=>match o with | .inl o6=>tE (cX Tryz.f181 X w D hT) (.exit 0) ⟨[],[]⟩ | .inr o7=>tR Tryz.prog Tryz.f181 (.int .i64 o7)) h5 ?_ ?_
 clear h h3 h5
 intro t8 x h
 simp only [survivor_checkRows_l1] at h
 refine zs (zr ?_)
 refine zU (zl (zn (zs ?_)))
 rcases zI h with ⟨h9,h⟩ | ⟨h9,h⟩
 refine zi (zk (zn (zs (zb (zs (zr ?_))))))
 obtain ⟨x10,h11,h11a,h11b,h⟩:=zX h
 refine zU (zl (zn (zs (zd ?_))))
 obtain ⟨x12,h13,h13l,h13L,h⟩:=zY 0 h
 refine yU ?_
 refine yd (zn ?_)
 rcases zI h with ⟨h14,h⟩ | ⟨h14,h⟩
 refine zi (zs (zr ?_))
 refine zU (zl (zn (zq (yr (zt ?_)))))
 cases h
 exact ⟨rfl,zT Tryz.results181⟩
 refine zj (zk (yn (zn (zr ?_))))
 refine zU (zl ?_)
 cases h
 exact ⟨rfl,zE⟩
 refine zj (zx (ze ?_))
 cases h
 exact ⟨rfl,zE⟩
 rcases o4 with ⟨⟩ | r15
 try simp only at h
 refine zA (yh (zn (zs (zr ?_))))
 refine zU (zl (zn (zq ?_)))
 cases h
 exact zT Tryz.results181
 try simp only at h
 refine zZ fun s hq=>?_
 refine yr (zt ?_)
 cases h
 exact hq
set_option maxHeartbeats 4000000 in
theorem survivor_checkValues_1_con {D:Prop} (v1:Value) (r2:Bool) (h:survivor_checkValues_1 v1=some r2):Con D Tryz.prog 221 [(encValue v1)] (.bool r2):=by
 refine zP Tryz.call221 Tryz.func221 rfl Tryz.ntmps221 fun X w hT=>?_
 simp only [survivor_checkValues_1] at h
 refine zs (zr ?_)
 refine zU (zl (zn (zs (zr ?_))))
 refine zU ?_
 obtain ⟨r3,h4,h⟩:=zB h
 refine zc (value_Valid_con v1 _ h4) ?_
 refine zU (zl (zn (zq ?_)))
 cases h
 exact zT Tryz.results221
set_option maxHeartbeats 4000000 in
theorem survivor_checkValues_con {D:Prop} (r1:List Row) (r2:Int) (h:survivor_checkValues r1=some r2):Con D Tryz.prog 182 [(.slc (List.map encRow r1))] (.int .i64 r2):=by
 refine zP Tryz.call182 Tryz.func182 rfl Tryz.ntmps182 fun X w hT=>?_
 simp only [survivor_checkValues] at h
 refine zs (zr ?_)
 refine zU (zl (zn (zs (zr ?_))))
 refine zU (zl (zn (zs (zs (zr ?_)))))
 refine zU (zl (zn (zb ?_)))
 obtain ⟨o3,h4,h⟩:=zB h
 refine zO (fun (s:Int×Int)=>⟨[(3,.p (.int .i64 s.1)),(6,.p (.slc (List.map encRow r1))),(7,.p (.int .i64 (r1.length:Int))),(8,.p (.int .i64 s.2))],[]⟩) (fun (o:(Unit) ⊕ (Int))=>match o with | .inl o5=>tE (cX Tryz.f182 X w D hT) (.exit 0) ⟨[],[]⟩ | .inr o6=>tR Tryz.prog Tryz.f182 (.int .i64 o6)) h4 ?_ ?_
 clear h h4
 intro s x h
 obtain ⟨l7,t8⟩:=s
 simp only [survivor_checkValues_l1] at h
 dsimp only
 refine zs (zr ?_)
 refine zU (zl (zn (zs ?_)))
 rcases zI h with ⟨h9,h⟩ | ⟨h9,h⟩
 refine zi (zk (zn (zs (zb (zs (zr ?_))))))
 obtain ⟨x10,h11,h11a,h11b,h⟩:=zX h
 refine zU (zl (zn (zs (zs (zr ?_)))))
 refine zU ?_
 rcases zI h with ⟨h12,h⟩ | ⟨h12,h⟩
 refine zw 16 true ?_
 refine zh ?_
 refine zU (zl (zn ?_))
 refine zi (zs (zr ?_))
 refine zU (zl (zn (zq (zt (yr (zt ?_))))))
 cases h
 exact ⟨rfl,zT Tryz.results182⟩
 refine zw 16 false ?_
 refine zg ?_
 refine zg ?_
 obtain ⟨r13,h14,h⟩:=zB h
 refine zc (slices_ContainsFunc_Value_con x10.Values (fun (y15:Value)=>survivor_checkValues_1 y15) 221 [] (fun y15 r h=>survivor_checkValues_1_con y15 r h) _ h14) ?_
 refine zU (zl (zn ?_))
 rcases zI h with ⟨h16,h⟩ | ⟨h16,h⟩
 refine zi (zs (zr ?_))
 refine zU (zl (zn (zq (zt (yr (zt ?_))))))
 cases h
 exact ⟨rfl,zT Tryz.results182⟩
 refine zj (zk (zn (zr ?_)))
 refine zU (zl (yn (zn (zr ?_))))
 refine zU (zl ?_)
 cases h
 exact ⟨rfl,zE⟩
 refine zj (zx (ze ?_))
 cases h
 exact ⟨rfl,zE⟩
 rcases o3 with ⟨⟩ | r17
 try simp only at h
 refine zA (yh (zn (zs (zr ?_))))
 refine zU (zl (zn (zq ?_)))
 cases h
 exact zT Tryz.results182
 try simp only at h
 refine zZ fun s hq=>?_
 refine yr (zt ?_)
 cases h
 exact hq
set_option maxHeartbeats 4000000 in
theorem survivor_Merge_1_con {D:Prop} (r1:Int) (r2:Bool) (h:survivor_Merge_1 r1=some r2):Con D Tryz.prog 183 [(.int .i64 r1)] (.bool r2):=by
 refine zP Tryz.call183 Tryz.func183 rfl Tryz.ntmps183 fun X w hT=>?_
 simp only [survivor_Merge_1] at h
 refine zs (zr ?_)
 refine zU (zl (zn (zs (zr ?_))))
 refine zU ?_
 obtain ⟨r3,h4,h⟩:=zB h
 refine zc (survivor_validRule_con r1 _ h4) ?_
 refine zU (zl (zn (zq ?_)))
 cases h
 exact zT Tryz.results183
set_option maxHeartbeats 4000000 in
theorem survivor_count_con {D:Prop} (l1:List Value) (v2:Value) (r3:Int) (h:survivor_count l1 v2=some r3):Con D Tryz.prog 244 [(.slc (List.map encValue l1)),(encValue v2)] (.int .i64 r3):=by
 refine zP Tryz.call244 Tryz.func244 rfl Tryz.ntmps244 fun X w hT=>?_
 simp only [survivor_count] at h
 refine zs (zr ?_)
 refine zU (zl (zn (zs (zr ?_))))
 refine zU (zl (zn (zs (zs (zr ?_)))))
 refine zU (zl (zn (zb ?_)))
 obtain ⟨n4,h5,h⟩:=zB h
 refine zO (fun (s:Int×Int)=>⟨[(3,.loc 3 1 0 0),(5,.p (.int .i64 s.1)),(8,.p (.slc (List.map encValue l1))),(9,.p (.int .i64 (l1.length:Int))),(10,.p (.int .i64 s.2))],[(3,.arr 142 3 1 [.p (encValue v2)])]⟩) (fun (o6:Int)=>tE (cX Tryz.f244 X w D hT) (.exit 0) ⟨[(5,.p (.int .i64 o6))],[]⟩) h5 ?_ ?_
 clear h h5
 intro s x h
 obtain ⟨n7,t8⟩:=s
 simp only [survivor_count_l1] at h
 dsimp only
 refine zs (zr ?_)
 refine zU (zl (zn (zs ?_)))
 rcases zI h with ⟨h9,h⟩ | ⟨h9,h⟩
 refine zi (zk (zn (zs (zb (zs (zr ?_))))))
 obtain ⟨x10,h11,h11a,h11b,h⟩:=zX h
 refine zU (zl (zn (zs (zr ?_))))
 refine zU (zl (zn ?_))
 rcases zI h with ⟨h12,h⟩ | ⟨h12,h⟩
 refine zi (zr ?_)
 refine zU (zl (yn (zn (zr ?_))))
 refine zU (zl ?_)
 cases h
 exact ⟨rfl,zE⟩
 refine zj (zk (yn (zn (zr ?_))))
 refine zU (zl ?_)
 cases h
 exact ⟨rfl,zE⟩
 refine zj (zx (ze ?_))
 cases h
 exact ⟨rfl,zE⟩
 try simp only at h
 refine zA (yh (zn (zs (zr ?_))))
 refine zU (zl (zn (zq ?_)))
 cases h
 exact zT Tryz.results244
set_option maxHeartbeats 4000000 in
theorem cmp_Or_int_con {D:Prop} (v1:List Int) (r2:Int) (h:cmp_Or_int v1=some r2):Con D Tryz.prog 263 [(.slc (List.map (PV.int .i64) v1))] (.int .i64 r2):=by
 refine zP Tryz.call263 Tryz.func263 rfl Tryz.ntmps263 fun X w hT=>?_
 simp only [cmp_Or_int] at h
 refine zs (zr ?_)
 refine zU (zl (zn (zs (zr ?_))))
 refine zU (zl (zn (zs (zs (zr ?_)))))
 refine zU (zl (zn (zb ?_)))
 obtain ⟨o3,h4,h⟩:=zB h
 refine zO (fun (s:Int)=>⟨[(3,.p (.int .i64 0)),(6,.p (.slc (List.map (PV.int .i64) v1))),(7,.p (.int .i64 (v1.length:Int))),(8,.p (.int .i64 s))],[]⟩) (fun (o:(Unit) ⊕ (Int))=>match o with | .inl o5=>tE (cX Tryz.f263 X w D hT) (.exit 0) ⟨[(3,.p (.int .i64 0))],[]⟩ | .inr o6=>tR Tryz.prog Tryz.f263 (.int .i64 o6)) h4 ?_ ?_
 clear h h4
 intro t7 x h
 simp only [cmp_Or_int_l1] at h
 refine zs (zr ?_)
 refine zU (zl (zn (zs ?_)))
 rcases zI h with ⟨h8,h⟩ | ⟨h8,h⟩
 refine zi (zk (zn (zs (zb (zs (zr ?_))))))
 obtain ⟨x9,h10,h10a,h10b,h⟩:=zX h
 refine zU (zl (zn (zs (zr ?_))))
 refine zU (zl (zn ?_))
 rcases zI h with ⟨h11,h⟩ | ⟨h11,h⟩
 refine zi (zs (zr ?_))
 refine zU (zl (zn (zq (yr (zt ?_)))))
 cases h
 exact ⟨rfl,zT Tryz.results263⟩
 refine zj (zk (yn (zn (zr ?_))))
 refine zU (zl ?_)
 cases h
 exact ⟨rfl,zE⟩
 refine zj (zx (ze ?_))
 cases h
 exact ⟨rfl,zE⟩
 rcases o3 with ⟨⟩ | r12
 try simp only at h
 refine zA (yh (zn (zs (zr ?_))))
 refine zU (zl (zn (zq ?_)))
 cases h
 exact zT Tryz.results263
 try simp only at h
 refine zZ fun s hq=>?_
 refine yr (zt ?_)
 cases h
 exact hq
set_option maxHeartbeats 4000000 in
theorem cmp_isNaN_int_con {D:Prop} (x1:Int) (r2:Bool) (h:cmp_isNaN_int x1=some r2):Con D Tryz.prog 205 [(.int .i64 x1)] (.bool r2):=by
 refine zP Tryz.call205 Tryz.func205 rfl Tryz.ntmps205 fun X w hT=>?_
 simp only [cmp_isNaN_int] at h
 refine zs (zr ?_)
 refine zU (zl (zn (zs (zr ?_))))
 refine zU (zl (zn (zq ?_)))
 cases h
 exact zT Tryz.results205
set_option maxHeartbeats 4000000 in
theorem cmp_Compare_int_con {D:Prop} (x1:Int) (y2:Int) (r3:Int) (h:cmp_Compare_int x1 y2=some r3):Con D Tryz.prog 264 [(.int .i64 x1),(.int .i64 y2)] (.int .i64 r3):=by
 refine zP Tryz.call264 Tryz.func264 rfl Tryz.ntmps264 fun X w hT=>?_
 simp only [cmp_Compare_int] at h
 refine zs (zr ?_)
 refine zU (zl (zn (zs (zr ?_))))
 refine zU ?_
 obtain ⟨r4,h5,h⟩:=zB h
 refine zc (cmp_isNaN_int_con x1 _ h5) ?_
 refine zU (zl (zn (zs (zr ?_))))
 refine zU ?_
 obtain ⟨r6,h7,h⟩:=zB h
 refine zc (cmp_isNaN_int_con y2 _ h7) ?_
 refine zU (zl (zn (zs (zs (zr ?_)))))
 refine zU (zl (zn ?_))
 rcases zI h with ⟨h8,h⟩ | ⟨h8,h⟩
 refine zi (zs (zs (zr ?_)))
 refine zU (zl (zn ?_))
 rcases zI h with ⟨h9,h⟩ | ⟨h9,h⟩
 refine zi (zs (zr ?_))
 refine zU (zl (zn (zq (zt (zt ?_)))))
 cases h
 exact zT Tryz.results264
 refine zj (zk (zn (zs (zr ?_))))
 refine zU (zl (zn (zq (zt ?_))))
 cases h
 exact zT Tryz.results264
 refine zj (zk (zn (zs (zs (zr ?_)))))
 refine zU (zl (zn ?_))
 rcases zI h with ⟨h10,h⟩ | ⟨h10,h⟩
 refine zi (zs (zr ?_))
 refine zU (zl (zn (zq (zt ?_))))
 cases h
 exact zT Tryz.results264
 refine zj (zk (zn (zs (zs (zr ?_)))))
 refine zU (zl (zn ?_))
 rcases zI h with ⟨h11,h⟩ | ⟨h11,h⟩
 refine zi (zs (zr ?_))
 refine zU (zl (zn (zq (zt ?_))))
 cases h
 exact zT Tryz.results264
 refine zj (zk (zn (zs (zs (zr ?_)))))
 refine zU (zl (zn ?_))
 rcases zI h with ⟨h12,h⟩ | ⟨h12,h⟩
 refine zi (zs (zr ?_))
 refine zU (zl (zn (zq (zt ?_))))
 cases h
 exact zT Tryz.results264
 refine zj (zk (zn (zs (zr ?_))))
 refine zU (zl (zn (zq ?_)))
 cases h
 exact zT Tryz.results264
set_option maxRecDepth 20000 in
set_option maxHeartbeats 4000000 in
theorem value_Compare_con {D:Prop} (a1:Value) (b2:Value) (r3:Int) (h:value_Compare a1 b2=some r3):Con D Tryz.prog 245 [(encValue a1),(encValue b2)] (.int .i64 r3):=by
 refine zP Tryz.call245 Tryz.func245 rfl Tryz.ntmps245 fun X w hT=>?_
 simp only [value_Compare] at h
 refine zs (zr ?_)
 refine zU (zl (zn (zs (zd ?_))))
 refine yU ?_
 obtain ⟨r4,h5,h⟩:=zB h
 refine yc (cmp_Compare_int_con a1.Kind b2.Kind _ h5) ?_
 refine yU ?_
 obtain ⟨r6,h7,h⟩:=zB h
 refine yc (cmp_Compare_int64_con a1.Num b2.Num _ h7) ?_
 refine yU ?_
 obtain ⟨r8,h9,h⟩:=zB h
 refine yc (strings_Compare_con a1.Str b2.Str _ h9) ?_
 refine yU ?_
 obtain ⟨r10,h11,h⟩:=zB h
 refine yc (cmp_Or_int_con [r4,r6,r8] _ h11) ?_
 refine yU ?_
 refine yd (zn (zq ?_))
 cases h
 exact zT Tryz.results245
set_option maxRecDepth 20000 in
set_option maxHeartbeats 4000000 in
theorem survivor_better_con {D:Prop} (l1:List Value) (v2:Value) (b3:Value) (r4:Int) (r5:Bool) (h:survivor_better l1 v2 b3 r4=some r5):Con D Tryz.prog 222 [(.slc (List.map encValue l1)),(encValue v2),(encValue b3),(.int .i64 r4)] (.bool r5):=by
 refine zP Tryz.call222 Tryz.func222 rfl Tryz.ntmps222 fun X w hT=>?_
 simp only [survivor_better] at h
 refine zs (zr ?_)
 refine zU (zl (zn (zs (zs (zr ?_)))))
 refine zU (zl (zn (zb (zs (zr ?_)))))
 refine zU (zl (zn ?_))
 rcases zI h with ⟨h6,h⟩ | ⟨h6,h⟩
 refine zi (zs (zd ?_))
 refine yU ?_
 obtain ⟨r7,h8,h⟩:=zB h
 refine yc (survivor_count_con l1 v2 _ h8) ?_
 refine yU ?_
 obtain ⟨r9,h10,h⟩:=zB h
 refine yc (survivor_count_con l1 b3 _ h10) ?_
 refine yU ?_
 refine yd (zn (zq (yr (zt ?_))))
 cases h
 exact zT Tryz.results222
 refine zj (zs (zr ?_))
 refine zU (zl (zn ?_))
 rcases zI h with ⟨h11,h⟩ | ⟨h11,h⟩
 refine zi (zs (zr ?_))
 refine zU ?_
 rcases zI h with ⟨h12,h⟩ | ⟨h12,h⟩
 refine zw 24 true ?_
 refine zg ?_
 refine zg ?_
 refine zg ?_
 refine zg ?_
 rcases zI h with ⟨h13,h⟩ | ⟨h13,h⟩
 replace h:=h.symm
 refine zw 28 true ?_
 refine zh ?_
 refine zg ?_
 refine zU (zl (zn (zq (yr (zt ?_)))))
 cases h
 exact zT Tryz.results222
 replace h:=h.symm
 refine zw 28 false ?_
 refine zg ?_
 refine zg ?_
 refine zg ?_
 refine zg ?_
 refine zg ?_
 refine zg ?_
 refine zg ?_
 refine zg ?_
 refine zU (zl (zn (zq (yr (zt ?_)))))
 cases h
 exact zT Tryz.results222
 refine zw 24 false ?_
 refine zh ?_
 refine zU (zl (zn (zq (yr (zt ?_)))))
 cases h
 exact zT Tryz.results222
 refine zj (zs (zr ?_))
 refine zU (zl (zn ?_))
 rcases zI h with ⟨h14,h⟩ | ⟨h14,h⟩
 refine zi (zs (zr ?_))
 refine zU ?_
 obtain ⟨r15,h16,h⟩:=zB h
 refine zc (value_Compare_con v2 b3 _ h16) ?_
 refine zU (zl (zn (zq (yr (zt ?_)))))
 cases h
 exact zT Tryz.results222
 refine zj (zs (zr ?_))
 refine zU (zl (zn ?_))
 rcases zI h with ⟨h17,h⟩ | ⟨h17,h⟩
 refine zi (zs (zr ?_))
 refine zU ?_
 obtain ⟨r18,h19,h⟩:=zB h
 refine zc (value_Compare_con v2 b3 _ h19) ?_
 refine zU (zl (zn (zq (yr (zt ?_)))))
 cases h
 exact zT Tryz.results222
 refine zj (zk (yn (zn (zs (zr ?_)))))
 refine zU (zl (zn (zq ?_)))
 cases h
 exact zT Tryz.results222
set_option maxHeartbeats 4000000 in
theorem survivor_choose_1_con {D:Prop} (r1:Row) (c2:Int) (c3:Value) (r4:Bool) (h:survivor_choose_1 r1 c2 c3=some r4):Con D Tryz.prog 223 [(encRow r1),.imm [.int .i64 c2],.imm [.int .i64 c3.Kind,.int .i64 c3.Num,.str c3.Str]] (.bool r4):=by
 refine zP Tryz.call223 Tryz.func223 rfl Tryz.ntmps223 fun X w hT=>?_
 simp only [survivor_choose_1] at h
 refine zs (zr ?_)
 refine zU (zl (zn (zs (zd ?_))))
 obtain ⟨x5,h6,h6a,h6b,h⟩:=zX h
 refine yU ?_
 refine yd (zn (zq ?_))
 cases h
 exact zT Tryz.results223
set_option maxHeartbeats 4000000 in
theorem survivor_choose_con {D:Prop} (r1:List Row) (a2:Int) (r3:Int) (r4:Value×Int) (h:survivor_choose r1 a2 r3=some r4):Con D Tryz.prog 184 [(.slc (List.map encRow r1)),(.int .i64 a2),(.int .i64 r3)] (.tup [(encValue r4.1),(.int .i64 r4.2)]):=by
 refine zP Tryz.call184 Tryz.func184 rfl Tryz.ntmps184 fun X w hT=>?_
 simp only [survivor_choose] at h
 refine zs (zr ?_)
 refine zU (zl (zn (zs (zr ?_))))
 refine zU (zl (zn (zs (zs (zr ?_)))))
 refine zU (zl (zn (zb ?_)))
 obtain ⟨l5,h6,h⟩:=zB h
 refine zO (fun (s:List Value×Int)=>⟨[(0,.p (.slc (List.map encRow r1))),(2,.p (.int .i64 r3)),(4,.loc 4 1 0 0),(6,.loc 6 1 0 0),(8,.own 33 1 0 s.1.length),(16,.p (.slc (List.map encRow r1))),(17,.p (.int .i64 (r1.length:Int))),(18,.p (.int .i64 s.2))],[(4,.arr 3 1 1 [.p (.int .i64 a2)]),(6,.arr 142 3 1 [.p (.agg [.int .i64 0,.int .i64 0,.str []])]),(33,.arr 142 3 1 (List.map AV.p (List.map encValue s.1)))]⟩) (fun (o7:List Value)=>tE (cX Tryz.f184 X w D hT) (.exit 0) ⟨[(0,.p (.slc (List.map encRow r1))),(2,.p (.int .i64 r3)),(4,.loc 4 1 0 0),(6,.loc 6 1 0 0),(8,.own 33 1 0 o7.length)],[(4,.arr 3 1 1 [.p (.int .i64 a2)]),(6,.arr 142 3 1 [.p (.agg [.int .i64 0,.int .i64 0,.str []])]),(33,.arr 142 3 1 (List.map AV.p (List.map encValue o7)))]⟩) h6 ?_ ?_
 clear h h6
 intro s x h
 obtain ⟨l8,t9⟩:=s
 simp only [survivor_choose_l1] at h
 dsimp only
 refine zs (zr ?_)
 refine zU (zl (zn (zs ?_)))
 rcases zI h with ⟨h10,h⟩ | ⟨h10,h⟩
 refine zi (zk (zn (zs (zb (zs (zr ?_))))))
 obtain ⟨x11,h12,h12a,h12b,h⟩:=zX h
 refine zU (zl (zn (zs (zr ?_))))
 obtain ⟨x13,h14,h14a,h14b,h⟩:=zX h
 refine zU (zl (zn (zs (zr ?_))))
 refine zU (zl (zn ?_))
 rcases zI h with ⟨h15,h⟩ | ⟨h15,h⟩
 refine zi (zr ?_)
 obtain ⟨h16,h⟩:=ite_some h
 refine zU (zl (yn (zn (zr ?_))))
 refine zU (zl ?_)
 cases h
 exact ⟨rfl,zE⟩
 refine zj (zk (yn (zn (zr ?_))))
 refine zU (zl ?_)
 cases h
 exact ⟨rfl,zE⟩
 refine zj (zx (ze ?_))
 cases h
 exact ⟨rfl,zE⟩
 try simp only at h
 refine zA (yh (zn (zs (zs (zr ?_)))))
 refine zU (zl (zn ?_))
 rcases zI h with ⟨h17,h⟩ | ⟨h17,h⟩
 refine zi (zs (zd ?_))
 obtain ⟨x18,h19,h19l,h19L,h⟩:=zY 0 h
 refine yU ?_
 refine yd (zn (zq (zt ?_)))
 cases h
 exact zT Tryz.results184
 refine zj (zk (zn (zs (zr ?_))))
 obtain ⟨x20,h21,h21l,h21L,h⟩:=zY 0 h
 refine zU (zl (zn (zs (zs (zr ?_)))))
 obtain ⟨h22,h⟩:=ite_some h
 refine zU (zl (zn (zb ?_)))
 obtain ⟨b23,h24,h⟩:=zB h
 refine zO (fun (s:Value×Int)=>⟨[(0,.p (.slc (List.map encRow r1))),(2,.p (.int .i64 r3)),(4,.loc 4 1 0 0),(6,.loc 6 1 0 0),(8,.own 33 1 0 l5.length),(12,.loc 12 1 0 0),(47,.own 33 1 1 (l5.length - 1)),(48,.p (.int .i64 (((l5.length - 1):Nat):Int))),(49,.p (.int .i64 s.2))],[(4,.arr 3 1 1 [.p (.int .i64 a2)]),(6,.arr 142 3 1 [.p (.agg [.int .i64 0,.int .i64 0,.str []])]),(12,.arr 142 3 1 [.p (encValue s.1)]),(33,.arr 142 3 1 (List.map AV.p (List.map encValue l5)))]⟩) (fun (o25:Value)=>tE (cX Tryz.f184 X w D hT) (.exit 2) ⟨[(0,.p (.slc (List.map encRow r1))),(4,.loc 4 1 0 0),(6,.loc 6 1 0 0),(12,.loc 12 1 0 0)],[(4,.arr 3 1 1 [.p (.int .i64 a2)]),(6,.arr 142 3 1 [.p (.agg [.int .i64 0,.int .i64 0,.str []])]),(12,.arr 142 3 1 [.p (encValue o25)])]⟩) h24 ?_ ?_
 clear h h6 h17 h21 h21l h21L h22 h24
 intro s x h
 obtain ⟨b26,t27⟩:=s
 simp only [survivor_choose_l2] at h
 dsimp only
 refine zs (zr ?_)
 refine zU (zl (zn (zs ?_)))
 rcases zI h with ⟨h28,h⟩ | ⟨h28,h⟩
 refine zi (zk (zn (zs (zb (zs (zr ?_))))))
 obtain ⟨x29,h30,h30a,h30b,h⟩:=zX h
 obtain ⟨h31,h31n⟩:=part_get h30
 have h31N:=eq_true (part_lt h31n h30a)
 refine zU (zl (zn (zs (zr ?_))))
 refine zU ?_
 obtain ⟨r32,h33,h⟩:=zB h
 refine zc (survivor_better_con l5 x29 b26 r3 _ h33) ?_
 refine zl (zn ?_)
 rcases zI h with ⟨h34,h⟩ | ⟨h34,h⟩
 refine zi (zr ?_)
 refine zU (zl (yn (zn (zr ?_))))
 refine zU (zl ?_)
 cases h
 exact ⟨rfl,zE⟩
 refine zj (zk (yn (zn (zr ?_))))
 refine zU (zl ?_)
 cases h
 exact ⟨rfl,zE⟩
 refine zj (zx (ze ?_))
 cases h
 exact ⟨rfl,zE⟩
 try simp only at h
 refine zA (yh (zn (zs (zr ?_))))
 refine zU ?_
 obtain ⟨r35,h36,h⟩:=zB h
 refine zc (slices_IndexFunc_Row_con r1 (fun (y37:Row)=>survivor_choose_1 y37 a2 b23) 223 [.imm [.int .i64 a2],.imm [.int .i64 b23.Kind,.int .i64 b23.Num,.str b23.Str]] (fun y37 r h=>survivor_choose_1_con y37 a2 b23 r h) _ h36) ?_
 refine zU (zl (zn (zs (zd ?_))))
 obtain ⟨x38,h39,h39a,h39b,h⟩:=zX h
 refine yU ?_
 refine yd (zn (zq ?_))
 cases h
 exact zT Tryz.results184
set_option maxHeartbeats 4000000 in
theorem survivor_Merge_con {D:Prop} (r1:List Row) (r2:List Int) (r3:Row×List Int×Int) (h:survivor_Merge r1 r2=some r3):Con D Tryz.prog 122 [(.slc (List.map encRow r1)),(.slc (List.map (PV.int .i64) r2))] (.tup [(encRow r3.1),(.slc (List.map (PV.int .i64) r3.2.1)),(.int .i64 r3.2.2)]):=by
 refine zP Tryz.call122 Tryz.func122 rfl Tryz.ntmps122 fun X w hT=>?_
 simp only [survivor_Merge] at h
 refine zs (zr ?_)
 refine zU (zl (zn (zs (zs (zr ?_)))))
 refine zU ?_
 obtain ⟨r4,h5,h⟩:=zB h
 refine zc (survivor_checkRows_con r1 _ h5) ?_
 refine zU (zl (zn (zs (zr ?_))))
 refine zU (zl (zn ?_))
 rcases zI h with ⟨h6,h⟩ | ⟨h6,h⟩
 refine zi (zs (zr ?_))
 refine zU (zl (zn (zq (zt ?_))))
 cases h
 exact zT Tryz.results122
 refine zj (zk (zn (zs (zs (zr ?_)))))
 obtain ⟨x7,h8,h8l,h8L,h⟩:=zY 0 h
 refine zU (zl (zn ?_))
 rcases zI h with ⟨h9,h⟩ | ⟨h9,h⟩
 refine zi (zs (zr ?_))
 refine zU (zl (zn (zq (zt ?_))))
 cases h
 exact zT Tryz.results122
 refine zj (zk (zn (zs (zs (zr ?_)))))
 refine zU ?_
 obtain ⟨r10,h11,h⟩:=zB h
 refine zc (survivor_checkValues_con r1 _ h11) ?_
 refine zU (zl (zn (zs (zr ?_))))
 refine zU (zl (zn ?_))
 rcases zI h with ⟨h12,h⟩ | ⟨h12,h⟩
 refine zi (zs (zr ?_))
 refine zU (zl (zn (zq (zt ?_))))
 cases h
 exact zT Tryz.results122
 refine zj (zk (zn (zs (zs (zr ?_)))))
 refine zU ?_
 obtain ⟨r13,h14,h⟩:=zB h
 refine zc (slices_ContainsFunc_int_con r2 (fun (y15:Int)=>survivor_Merge_1 y15) 183 [] (fun y15 r h=>survivor_Merge_1_con y15 r h) _ h14) ?_
 refine zl (zn ?_)
 rcases zI h with ⟨h16,h⟩ | ⟨h16,h⟩
 refine zi (zs (zr ?_))
 refine zU (zl (zn (zq (zt ?_))))
 cases h
 exact zT Tryz.results122
 refine zj (zk (zn (zs (zr ?_))))
 refine zU (zl (zn (zs (zr ?_))))
 refine zU (zl (zn (zs (zs (zr ?_)))))
 refine zU (zl (zn (zb ?_)))
 obtain ⟨o17,h18,h⟩:=zB h
 refine zO (fun (s:List Value×List Int×Int)=>⟨[(0,.p (.slc (List.map encRow r1))),(4,.loc 4 1 0 0),(9,.loc 9 1 0 0),(10,.own 67 1 0 s.2.1.length),(44,.p (.slc (List.map (PV.int .i64) r2))),(45,.p (.int .i64 (r2.length:Int))),(46,.p (.int .i64 s.2.2))],[(4,.arr 66 2 1 [.agg [.p (.int .i64 0),.nils]]),(9,.arr 66 2 1 [.agg [.p (.int .i64 x7.ID),.own 62 1 0 s.1.length]]),(62,.arr 142 3 1 (List.map AV.p (List.map encValue s.1))),(67,.arr 2 1 1 (List.map AV.p (List.map (PV.int .i64) s.2.1)))]⟩) (fun (o19:List Value×List Int)=>tE (cX Tryz.f122 X w D hT) (.exit 0) ⟨[(4,.loc 4 1 0 0),(9,.loc 9 1 0 0),(10,.own 67 1 0 o19.2.length)],[(4,.arr 66 2 1 [.agg [.p (.int .i64 0),.nils]]),(9,.arr 66 2 1 [.agg [.p (.int .i64 x7.ID),.own 62 1 0 o19.1.length]]),(62,.arr 142 3 1 (List.map AV.p (List.map encValue o19.1))),(67,.arr 2 1 1 (List.map AV.p (List.map (PV.int .i64) o19.2)))]⟩) h18 ?_ ?_
 clear h h5 h6 h8 h8l h8L h9 h11 h12 h14 h16 h18
 intro s x h
 obtain ⟨o20,o21,t22⟩:=s
 simp only [survivor_Merge_l1] at h
 dsimp only
 refine zs (zr ?_)
 refine zU (zl (zn (zs ?_)))
 rcases zI h with ⟨h23,h⟩ | ⟨h23,h⟩
 refine zi (zk (zn (zs (zb (zs (zr ?_))))))
 obtain ⟨x24,h25,h25a,h25b,h⟩:=zX h
 refine zU (zl (zn (zs (zr ?_))))
 refine zU ?_
 obtain ⟨r26,h27,h⟩:=zB h
 refine zc (survivor_choose_con r1 t22 x24 _ h27) ?_
 refine zU (zl (zn (zs (zr ?_))))
 obtain ⟨h28,h⟩:=ite_some h
 refine zU (zl (zn (zr ?_)))
 obtain ⟨h29,h⟩:=ite_some h
 refine zU (zl (yn (zn (zr ?_))))
 refine zU (zl ?_)
 cases h
 exact ⟨rfl,zE⟩
 refine zj (zx (ze ?_))
 cases h
 exact ⟨rfl,zE⟩
 obtain ⟨o30,o31⟩:=o17
 try simp only at h
 refine zA (yh (zn (zs (zr ?_))))
 refine zU (zl (zn (zq ?_)))
 cases h
 exact zT Tryz.results122
set_option maxHeartbeats 4000000 in
theorem slices_Index_int64_con {D:Prop} (s1:List Int) (v2:Int) (r3:Int) (h:slices_Index_int64 s1 v2=some r3):Con D Tryz.prog 224 [(.slc (List.map (PV.int .i64) s1)),(.int .i64 v2)] (.int .i64 r3):=by
 refine zP Tryz.call224 Tryz.func224 rfl Tryz.ntmps224 fun X w hT=>?_
 simp only [slices_Index_int64] at h
 refine zs (zr ?_)
 refine zU (zl (zn (zs (zs (zr ?_)))))
 refine zU (zl (zn (zb ?_)))
 obtain ⟨o4,h5,h⟩:=zB h
 refine zO (fun (s:Int)=>⟨[(0,.p (.slc (List.map (PV.int .i64) s1))),(1,.p (.int .i64 v2)),(7,.p (.int .i64 (s1.length:Int))),(8,.p (.int .i64 s))],[]⟩) (fun (o:(Unit) ⊕ (Int))=>match o with | .inl o6=>tE (cX Tryz.f224 X w D hT) (.exit 0) ⟨[],[]⟩ | .inr o7=>tR Tryz.prog Tryz.f224 (.int .i64 o7)) h5 ?_ ?_
 clear h h5
 intro t8 x h
 simp only [slices_Index_int64_l1] at h
 refine zs (zr ?_)
 refine zU (zl (zn (zs ?_)))
 rcases zI h with ⟨h9,h⟩ | ⟨h9,h⟩
 refine zi (zk (zn (zs (zb (zs (zr ?_))))))
 refine zU (zl (zn (zs (zr ?_))))
 obtain ⟨x10,h11,h11a,h11b,h⟩:=zX h
 refine zU (zl (zn ?_))
 rcases zI h with ⟨h12,h⟩ | ⟨h12,h⟩
 refine zi (zs (zr ?_))
 refine zU (zl (zn (zq (yr (zt ?_)))))
 cases h
 exact ⟨rfl,zT Tryz.results224⟩
 refine zj (zk (yn (zn (zr ?_))))
 refine zU (zl ?_)
 cases h
 exact ⟨rfl,zE⟩
 refine zj (zx (ze ?_))
 cases h
 exact ⟨rfl,zE⟩
 rcases o4 with ⟨⟩ | r13
 try simp only at h
 refine zA (yh (zn (zs (zr ?_))))
 refine zU (zl (zn (zq ?_)))
 cases h
 exact zT Tryz.results224
 try simp only at h
 refine zZ fun s hq=>?_
 refine yr (zt ?_)
 cases h
 exact hq
set_option maxHeartbeats 4000000 in
theorem slices_Contains_int64_con {D:Prop} (s1:List Int) (v2:Int) (r3:Bool) (h:slices_Contains_int64 s1 v2=some r3):Con D Tryz.prog 185 [(.slc (List.map (PV.int .i64) s1)),(.int .i64 v2)] (.bool r3):=by
 refine zP Tryz.call185 Tryz.func185 rfl Tryz.ntmps185 fun X w hT=>?_
 simp only [slices_Contains_int64] at h
 refine zs (zr ?_)
 refine zU (zl (zn (zs (zr ?_))))
 refine zU ?_
 obtain ⟨r4,h5,h⟩:=zB h
 refine zc (slices_Index_int64_con s1 v2 _ h5) ?_
 refine zU (zl (zn (zq ?_)))
 cases h
 exact zT Tryz.results185
set_option maxHeartbeats 4000000 in
theorem slices_Clone_Value_con {D:Prop} (l:List Value) (r:List Value) (h:slices_Clone_Value l=some r):Con D Tryz.prog 246 [(.slc (List.map encValue l))] (.slc (List.map encValue r)):=by
  obtain ⟨hc,h⟩:=ite_some h
  cases h
  refine ⟨Tryz.call246,?_⟩
  refine pure_of_awp Tryz.func246 rfl Tryz.ntmps246 (by simp) fun X w hT=>?_
  show AWp _ _ _ ⟨[(0,.p (.slc (List.map encValue l)))],[]⟩
  refine awp_seq ?_
  refine awp_region ?_
  refine AL_upto (by exact rfl) (by simp only [go_sem,seval];exact rfl) ?_
  refine AL_nil ?_
  refine thenA_n ?_
  refine awp_seq ?_
  refine awp_seq ?_
  refine awp_region ?_
  refine AL_take 1 (by simp only [go_sem,seval];exact rfl) ?_
  refine AL_nileq (by simp only [go_sem,seval];exact rfl) (by simp only [go_sem,seval]) Tryz.underlying64 rfl ?_
  intro b hb
  refine AL_nil ?_
  refine thenA_n ?_
  cases b
  · refine awp_cf (by simp only [go_sem,seval]) ?_
    refine awp_skip ?_
    refine thenA_n ?_
    refine awp_seq ?_
    refine awp_region ?_
    refine AL_upto (by exact rfl) (by simp only [go_sem,seval,hc];exact rfl) ?_
    refine AL_nil ?_
    refine thenA_n ?_
    refine awp_ret ?_
    refine retQ_ret (by simp only [Tryz.results246];simp only [go_sem,seval];exact rfl) ?_
    simp only [go_sem,seval]
    all_goals ((repeat' refine And.intro ?_ ?_) <;> first | rfl | (simp;done) | (simp;rfl) | (simp [*];done) | (simp [*];rfl))
  · refine awp_ct (by simp only [go_sem,seval]) ?_
    have hl:l=[]:=by
      cases l with
      | nil=>rfl
      | cons x l=>exact absurd (hb (by simp)) (by simp)
    subst hl
    refine awp_seq ?_
    refine awp_region ?_
    refine AL_upto (by exact rfl) (by simp only [go_sem,seval];exact rfl) ?_
    refine AL_nil ?_
    refine thenA_n ?_
    refine awp_ret ?_
    refine thenA_ret ?_
    refine retQ_ret (by simp only [Tryz.results246];simp only [go_sem,seval];exact rfl) ?_
    simp only [go_sem,seval]
    all_goals ((repeat' refine And.intro ?_ ?_) <;> first | rfl | (simp;done) | (simp;rfl) | (simp [*];done) | (simp [*];rfl))
set_option maxHeartbeats 4000000 in
theorem table_copied_con {D:Prop} (r1:Row) (r2:Row) (h:table_copied r1=some r2):Con D Tryz.prog 225 [(encRow r1)] (encRow r2):=by
 refine zP Tryz.call225 Tryz.func225 rfl Tryz.ntmps225 fun X w hT=>?_
 simp only [table_copied] at h
 refine zs (zr ?_)
 refine zU (zl (zn (zs (zd ?_))))
 refine yU ?_
 obtain ⟨r3,h4,h⟩:=zB h
 refine yc (slices_Clone_Value_con r1.Values _ h4) ?_
 refine yU ?_
 refine yd (zn (zq ?_))
 cases h
 exact zT Tryz.results225
set_option maxHeartbeats 4000000 in
theorem table_with_con {D:Prop} (t1:Table) (r2:List Row) (r3:Table) (h:table_with t1 r2=some r3):Con D Tryz.prog 186 [(encTable t1),(.slc (List.map encRow r2))] (encTable r3):=by
 refine zP Tryz.call186 Tryz.func186 rfl Tryz.ntmps186 fun X w hT=>?_
 simp only [table_with] at h
 refine zs (zr ?_)
 refine zU (zl (zn (zs (zd ?_))))
 refine yU ?_
 obtain ⟨r4,h5,h⟩:=zB h
 refine yc (slices_Clone_string_con t1.Attrs _ h5) ?_
 refine yU ?_
 refine yd (zn (zs (zs (zr ?_))))
 refine zU (zl (zn (zb ?_)))
 obtain ⟨o6,h7,h⟩:=zB h
 refine zO (fun (s:List Row×Int)=>⟨[(4,.loc 4 1 0 0),(5,.loc 5 1 0 0),(14,.p (.slc (List.map encRow r2))),(15,.p (.int .i64 (r2.length:Int))),(16,.p (.int .i64 s.2))],[(4,.arr 41 3 1 [.agg [.p (.str []),.nils,.nils]]),(5,.arr 41 3 1 [.agg [.p (.str t1.Name),.p (.slc (List.map PV.str r4)),.own 25 1 0 s.1.length]]),(25,.arr 66 2 1 (List.map AV.p (List.map encRow s.1)))]⟩) (fun (o8:List Row)=>tE (cX Tryz.f186 X w D hT) (.exit 0) ⟨[(4,.loc 4 1 0 0),(5,.loc 5 1 0 0)],[(4,.arr 41 3 1 [.agg [.p (.str []),.nils,.nils]]),(5,.arr 41 3 1 [.agg [.p (.str t1.Name),.p (.slc (List.map PV.str r4)),.own 25 1 0 o8.length]]),(25,.arr 66 2 1 (List.map AV.p (List.map encRow o8)))]⟩) h7 ?_ ?_
 clear h h5 h7
 intro s x h
 obtain ⟨o9,t10⟩:=s
 simp only [table_with_l1] at h
 dsimp only
 refine zs (zr ?_)
 refine zU (zl (zn (zs ?_)))
 rcases zI h with ⟨h11,h⟩ | ⟨h11,h⟩
 refine zi (zk (zn (zs (zb (zs (zr ?_))))))
 obtain ⟨x12,h13,h13a,h13b,h⟩:=zX h
 refine zU (zl (zn (zd ?_)))
 refine yU ?_
 obtain ⟨r14,h15,h⟩:=zB h
 refine yc (table_copied_con x12 _ h15) ?_
 obtain ⟨h16,h⟩:=ite_some h
 refine yU ?_
 refine yd (yn (zn (zr ?_)))
 refine zU (zl ?_)
 cases h
 exact ⟨rfl,zE⟩
 refine zj (zx (ze ?_))
 cases h
 exact ⟨rfl,zE⟩
 try simp only at h
 refine zA (yh (zn (zs (zr ?_))))
 refine zU (zl (zn (zq ?_)))
 cases h
 exact zT Tryz.results186
set_option maxHeartbeats 4000000 in
theorem table_Keep_con {D:Prop} (t1:Table) (i2:List Int) (r3:Table) (h:table_Keep t1 i2=some r3):Con D Tryz.prog 123 [(encTable t1),(.slc (List.map (PV.int .i64) i2))] (encTable r3):=by
 refine zP Tryz.call123 Tryz.func123 rfl Tryz.ntmps123 fun X w hT=>?_
 simp only [table_Keep] at h
 refine zs (zr ?_)
 refine zU (zl (zn (zs (zr ?_))))
 refine zU (zl (zn (zs (zs (zr ?_)))))
 refine zU (zl (zn (zb ?_)))
 obtain ⟨r4,h5,h⟩:=zB h
 refine zO (fun (s:List Row×Int)=>⟨[(1,.p (.slc (List.map (PV.int .i64) i2))),(2,.loc 2 1 0 0),(4,.loc 4 1 0 0),(5,.own 22 1 0 s.1.length),(9,.p (.slc (List.map encRow t1.Rows))),(10,.p (.int .i64 (t1.Rows.length:Int))),(11,.p (.int .i64 s.2))],[(2,.arr 41 3 1 [.p (encTable t1)]),(4,.arr 41 3 1 [.agg [.p (.str []),.nils,.nils]]),(22,.arr 66 2 1 (List.map AV.p (List.map encRow s.1)))]⟩) (fun (o6:List Row)=>tE (cX Tryz.f123 X w D hT) (.exit 0) ⟨[(2,.loc 2 1 0 0),(4,.loc 4 1 0 0),(5,.own 22 1 0 o6.length)],[(2,.arr 41 3 1 [.p (encTable t1)]),(4,.arr 41 3 1 [.agg [.p (.str []),.nils,.nils]]),(22,.arr 66 2 1 (List.map AV.p (List.map encRow o6)))]⟩) h5 ?_ ?_
 clear h h5
 intro s x h
 obtain ⟨r7,t8⟩:=s
 simp only [table_Keep_l1] at h
 dsimp only
 refine zs (zr ?_)
 refine zU (zl (zn (zs ?_)))
 rcases zI h with ⟨h9,h⟩ | ⟨h9,h⟩
 refine zi (zk (zn (zs (zb (zs (zr ?_))))))
 obtain ⟨x10,h11,h11a,h11b,h⟩:=zX h
 refine zU (zl (zn (zs (zr ?_))))
 refine zU ?_
 obtain ⟨r12,h13,h⟩:=zB h
 refine zc (slices_Contains_int64_con i2 x10.ID _ h13) ?_
 refine zl (zn ?_)
 rcases zI h with ⟨h14,h⟩ | ⟨h14,h⟩
 refine zi (zr ?_)
 obtain ⟨h15,h⟩:=ite_some h
 refine zU (zl (yn (zn (zr ?_))))
 refine zU (zl ?_)
 cases h
 exact ⟨rfl,zE⟩
 refine zj (zk (yn (zn (zr ?_))))
 refine zU (zl ?_)
 cases h
 exact ⟨rfl,zE⟩
 refine zj (zx (ze ?_))
 cases h
 exact ⟨rfl,zE⟩
 try simp only at h
 refine zA (yh (zn (zs (zr ?_))))
 refine zU ?_
 refine zM ⟨[(4,.loc 4 1 0 0),(24,.p (encTable t1)),(25,.p (.slc (List.map encRow r4)))],[(4,.arr 41 3 1 [.agg [.p (.str []),.nils,.nils]])]⟩ ?_
 obtain ⟨r16,h17,h⟩:=zB h
 refine zc (table_with_con t1 r4 _ h17) ?_
 refine zU (zl (zn (zq ?_)))
 cases h
 exact zT Tryz.results123
set_option maxHeartbeats 4000000 in
theorem slices_Clone_int64_con {D:Prop} (l:List Int) (r:List Int) (h:slices_Clone_int64 l=some r):Con D Tryz.prog 124 [(.slc (List.map (PV.int .i64) l))] (.slc (List.map (PV.int .i64) r)):=by
  obtain ⟨hc,h⟩:=ite_some h
  cases h
  refine ⟨Tryz.call124,?_⟩
  refine pure_of_awp Tryz.func124 rfl Tryz.ntmps124 (by simp) fun X w hT=>?_
  show AWp _ _ _ ⟨[(0,.p (.slc (List.map (PV.int .i64) l)))],[]⟩
  refine awp_seq ?_
  refine awp_region ?_
  refine AL_upto (by exact rfl) (by simp only [go_sem,seval];exact rfl) ?_
  refine AL_nil ?_
  refine thenA_n ?_
  refine awp_seq ?_
  refine awp_seq ?_
  refine awp_region ?_
  refine AL_take 1 (by simp only [go_sem,seval];exact rfl) ?_
  refine AL_nileq (by simp only [go_sem,seval];exact rfl) (by simp only [go_sem,seval]) Tryz.underlying63 rfl ?_
  intro b hb
  refine AL_nil ?_
  refine thenA_n ?_
  cases b
  · refine awp_cf (by simp only [go_sem,seval]) ?_
    refine awp_skip ?_
    refine thenA_n ?_
    refine awp_seq ?_
    refine awp_region ?_
    refine AL_upto (by exact rfl) (by simp only [go_sem,seval,hc];exact rfl) ?_
    refine AL_nil ?_
    refine thenA_n ?_
    refine awp_ret ?_
    refine retQ_ret (by simp only [Tryz.results124];simp only [go_sem,seval];exact rfl) ?_
    simp only [go_sem,seval]
    all_goals ((repeat' refine And.intro ?_ ?_) <;> first | rfl | (simp;done) | (simp;rfl) | (simp [*];done) | (simp [*];rfl))
  · refine awp_ct (by simp only [go_sem,seval]) ?_
    have hl:l=[]:=by
      cases l with
      | nil=>rfl
      | cons x l=>exact absurd (hb (by simp)) (by simp)
    subst hl
    refine awp_seq ?_
    refine awp_region ?_
    refine AL_upto (by exact rfl) (by simp only [go_sem,seval];exact rfl) ?_
    refine AL_nil ?_
    refine thenA_n ?_
    refine awp_ret ?_
    refine thenA_ret ?_
    refine retQ_ret (by simp only [Tryz.results124];simp only [go_sem,seval];exact rfl) ?_
    simp only [go_sem,seval]
    all_goals ((repeat' refine And.intro ?_ ?_) <;> first | rfl | (simp;done) | (simp;rfl) | (simp [*];done) | (simp [*];rfl))
set_option maxHeartbeats 4000000 in
theorem survivor_Table_con {D:Prop} (t1:Table) (c2:List (List Int)) (r3:List Int) (r4:Merged×Int) (h:survivor_Table t1 c2 r3=some r4):Con D Tryz.prog 75 [(encTable t1),(.slc (List.map (encL (PV.int .i64)) c2)),(.slc (List.map (PV.int .i64) r3))] (.tup [(encMerged r4.1),(.int .i64 r4.2)]):=by
 refine zP Tryz.call75 Tryz.func75 rfl Tryz.ntmps75 fun X w hT=>?_
 simp only [survivor_Table] at h
 refine zs (zr ?_)
 refine zU (zl (zn (zs (zs (zr ?_)))))
 refine zU ?_
 obtain ⟨r5,h6,h⟩:=zB h
 refine zc (table_Valid_con t1 _ h6) ?_
 refine zU (zl (zn (zs (zr ?_))))
 refine zU (zl (zn ?_))
 rcases zI h with ⟨h7,h⟩ | ⟨h7,h⟩
 refine zi (zs (zr ?_))
 refine zU (zl (zn (zq (zt ?_))))
 cases h
 exact zT Tryz.results75
 have h7F:=Bool.eq_false_iff.2 h7
 refine zj (zk (zn (zs (zs (zr ?_)))))
 refine zU (zl (zn ?_))
 rcases zI h with ⟨h8,h⟩ | ⟨h8,h⟩
 refine zi (zs (zr ?_))
 refine zU (zl (zn (zq (zt ?_))))
 cases h
 exact zT Tryz.results75
 have h8F:=Bool.eq_false_iff.2 h8
 refine zj (zk (zn (zs (zs (zr ?_)))))
 refine zU ?_
 obtain ⟨r9,h10,h⟩:=zB h
 refine zc (slices_ContainsFunc_int_con r3 (fun (y11:Int)=>survivor_Table_1 y11) 116 [] (fun y11 r h=>survivor_Table_1_con y11 r h) _ h10) ?_
 refine zU ?_
 rcases zI h with ⟨h12,h⟩ | ⟨h12,h⟩
 refine zw 31 true ?_
 refine zh ?_
 refine zU (zl (zn ?_))
 refine zi (zs (zr ?_))
 refine zU (zl (zn (zq (zt ?_))))
 cases h
 exact zT Tryz.results75
 have h12F:=Bool.eq_false_iff.2 h12
 refine zw 31 false ?_
 refine zg ?_
 refine zg ?_
 obtain ⟨r13,h14,h⟩:=zB h
 refine zc (survivor_divides_con t1 c2 _ h14) ?_
 refine zg ?_
 refine zU (zl (zn ?_))
 rcases zI h with ⟨h15,h⟩ | ⟨h15,h⟩
 refine zj (zk (zn (zs (zr ?_))))
 refine zU ?_
 obtain ⟨h16,h⟩:=ite_some h
 refine zM ⟨[(2,.p (.slc (List.map (PV.int .i64) r3))),(3,.loc 3 1 0 0),(6,.loc 6 1 0 0),(38,.p (.slc (List.map (encL (PV.int .i64)) c2)))],[(3,.arr 41 3 1 [.p (encTable t1)]),(6,.arr 83 5 1 [.agg [.p (.str []),.nils,.nils,.nils,.nils]])]⟩ ?_
 refine AL_inline (avs:=[.p (.slc (List.map (encL (PV.int .i64)) c2))]) 92 rfl (guard_none rfl) rfl Tryz.func119 rfl Tryz.call119 Tryz.ntmps119 (by simp) (by simp only [go_sem,seval,h7F,h8F,h12F,h15,h16];all_goals rfl) ?_
 intro i17 w18 h19
 refine awp_post (T:=fun e s'=>(e=.normal∨e=.ret)∧Le ⟨Tryz.prog,8,92,X,[(3,.arr 41 3 1 [.p (encTable t1)]),(6,.arr 83 5 1 [.agg [.p (.str []),.nils,.nils,.nils,.nils]])],i17,w18,D,h19⟩ s' ⟨[(2,.own 97 1 0 c2.length)],[(3,.arr 41 3 1 [.p (encTable t1)]),(6,.arr 83 5 1 [.agg [.p (.str []),.nils,.nils,.nils,.nils]]),(97,.arr 63 1 1 (List.map AV.p (List.map (encL (PV.int .i64)) c2)))]⟩) ?_ ?_
 show AWp _ _ _ ⟨[(0,.p (.slc (List.map (encL (PV.int .i64)) c2)))],[(3,.arr 41 3 1 [.p (encTable t1)]),(6,.arr 83 5 1 [.agg [.p (.str []),.nils,.nils,.nils,.nils]])]⟩
 refine zs (zr ?_)
 refine zU (zl (zn (zs (zs (zr ?_)))))
 refine zW 1 ?_
 refine AL_nileq (by simp only [go_sem,seval,h7F,h8F,h12F,h15,h16];exact rfl) (by simp only [go_sem,seval,h7F,h8F,h12F,h15,h16]) Tryz.underlying52 rfl ?_
 intro b hb
 refine zl (zn ?_)
 cases b
 refine zj (zk (zn (zs (zr ?_))))
 refine zU (zl (zn (zq ?_)))
 refine ⟨.inr rfl,?_⟩
 exact zV
 refine zi ?_
 have h20:c2=[]:=by
   rcases hz:c2 with _ | ⟨x,z⟩
   · rfl
   · rw [hz] at hb;exact absurd (hb (by simp)) (by simp)
 refine zs (zr ?_)
 refine zU (zl (zn (zq (zt ?_))))
 refine ⟨.inr rfl,?_⟩
 exact zV
 intro e s' hT
 obtain ⟨he,hle⟩:=hT
 refine Wk.to hle ?_
 refine inlQ_any he (by simp only [Tryz.results119];simp only [go_sem,seval,h7F,h8F,h12F,h15,h16];exact rfl) ?_
 clear hle he
 refine zU (zl (zn (zs (zr ?_))))
 refine zU ?_
 refine zM ⟨[(2,.p (.slc (List.map (PV.int .i64) r3))),(3,.loc 3 1 0 0),(6,.loc 6 1 0 0),(9,.own 97 1 0 c2.length),(40,.own 97 1 0 c2.length)],[(3,.arr 41 3 1 [.p (encTable t1)]),(6,.arr 83 5 1 [.agg [.p (.str []),.nils,.nils,.nils,.nils]]),(97,.arr 63 1 1 (List.map AV.p (List.map (encL (PV.int .i64)) c2)))]⟩ ?_
 obtain ⟨l21,h22,h⟩:=zB h
 refine zSF srt56 (encL (PV.int .i64)) (fun (y23:List Int) (y24:List Int)=>survivor_Table_2 y23 y24) h22 (fun y23 y24 r h=>survivor_Table_2_con y23 y24 r h) ?_
 have h25:=srtF_len h22
 refine zM ⟨[(2,.p (.slc (List.map (PV.int .i64) r3))),(3,.loc 3 1 0 0),(6,.loc 6 1 0 0),(9,.own 97 1 0 l21.length),(41,.p (.tup []))],[(3,.arr 41 3 1 [.p (encTable t1)]),(6,.arr 83 5 1 [.agg [.p (.str []),.nils,.nils,.nils,.nils]]),(97,.arr 63 1 1 (List.map AV.p (List.map (encL (PV.int .i64)) l21)))]⟩ ?_
 clear h25
 refine zl (zn (zs (zd ?_)))
 refine yU ?_
 obtain ⟨r26,h27,h⟩:=zB h
 refine yc (slices_Clone_string_con t1.Attrs _ h27) ?_
 refine yU ?_
 refine yd (zn (zs (zs (zr ?_))))
 refine zU (zl (zn (zb ?_)))
 obtain ⟨o28,h29,h⟩:=zB h
 refine zO (fun (s:List Row×List (List Int)×List (List Int)×Int)=>⟨[(2,.p (.slc (List.map (PV.int .i64) r3))),(3,.loc 3 1 0 0),(6,.loc 6 1 0 0),(10,.loc 10 1 0 0),(49,.own 97 1 0 l21.length),(50,.p (.int .i64 ((l21.length:Nat):Int))),(51,.p (.int .i64 s.2.2.2))],[(3,.arr 41 3 1 [.p (encTable t1)]),(6,.arr 83 5 1 [.agg [.p (.str []),.nils,.nils,.nils,.nils]]),(10,.arr 83 5 1 [.agg [.p (.str t1.Name),.p (.slc (List.map PV.str r26)),.own 74 1 0 s.1.length,.own 82 1 0 s.2.1.length,.own 88 1 0 s.2.2.1.length]]),(74,.arr 66 2 1 (List.map AV.p (List.map encRow s.1))),(82,.arr 63 1 1 (List.map AV.p (List.map (encL (PV.int .i64)) s.2.1))),(88,.arr 63 1 1 (List.map AV.p (List.map (encL (PV.int .i64)) s.2.2.1))),(97,.arr 63 1 1 (List.map AV.p (List.map (encL (PV.int .i64)) l21)))]⟩) (fun (o:(List Row×List (List Int)×List (List Int)) ⊕ (Merged×Int))=>match o with | .inl o30=>tE (cX Tryz.f75 X w D hT) (.exit 0) ⟨[(6,.loc 6 1 0 0),(10,.loc 10 1 0 0)],[(6,.arr 83 5 1 [.agg [.p (.str []),.nils,.nils,.nils,.nils]]),(10,.arr 83 5 1 [.agg [.p (.str t1.Name),.p (.slc (List.map PV.str r26)),.own 74 1 0 o30.1.length,.own 82 1 0 o30.2.1.length,.own 88 1 0 o30.2.2.length]]),(74,.arr 66 2 1 (List.map AV.p (List.map encRow o30.1))),(82,.arr 63 1 1 (List.map AV.p (List.map (encL (PV.int .i64)) o30.2.1))),(88,.arr 63 1 1 (List.map AV.p (List.map (encL (PV.int .i64)) o30.2.2)))]⟩ | .inr o31=>tR Tryz.prog Tryz.f75 (.tup [(encMerged o31.1),(.int .i64 o31.2)])) h29 ?_ ?_
 clear h h6 h7 h7F h8 h8F h10 h12 h12F h14 h15 h16 h22 h27 h29
 intro s x h
 obtain ⟨o32,o33,o34,t35⟩:=s
 simp only [survivor_Table_l1] at h
 dsimp only
 refine zs (zr ?_)
 refine zU (zl (zn (zs ?_)))
 rcases zI h with ⟨h36,h⟩ | ⟨h36,h⟩
 refine zi (zk (zn (zs (zb (zs (zr ?_))))))
 obtain ⟨x37,h38,h38a,h38b,h⟩:=zX h
 refine zU (zl (zn (zs (zr ?_))))
 refine zU ?_
 obtain ⟨r39,h40,h⟩:=zB h
 refine zc (table_Keep_con t1 x37 _ h40) ?_
 refine zU ?_
 obtain ⟨r41,h42,h⟩:=zB h
 refine zc (survivor_Merge_con r39.Rows r3 _ h42) ?_
 refine zU (zl (zn (zs (zs (zr ?_)))))
 refine zU (zl (zn ?_))
 rcases zI h with ⟨h43,h⟩ | ⟨h43,h⟩
 refine zi (zs (zr ?_))
 refine zU (zl (zn (zq (zt (yr (zt ?_))))))
 cases h
 exact ⟨rfl,zT Tryz.results75⟩
 refine zj (zk (zn (zs (zr ?_))))
 obtain ⟨h44,h⟩:=ite_some h
 refine zU (zl (zn (zs (zd ?_))))
 refine yU ?_
 obtain ⟨r45,h46,h⟩:=zB h
 refine yc (slices_Clone_int64_con x37 _ h46) ?_
 obtain ⟨h47,h⟩:=ite_some h
 refine yU ?_
 refine yd (zn (zr ?_))
 obtain ⟨h48,h⟩:=ite_some h
 refine zU (zl (yn (zn (zr ?_))))
 refine zU (zl ?_)
 cases h
 exact ⟨rfl,zE⟩
 refine zj (zx (ze ?_))
 cases h
 exact ⟨rfl,zE⟩
 rcases o28 with ⟨o49,o50,o51⟩ | r52
 try simp only at h
 refine zA (yh (zn (zs (zr ?_))))
 refine zU (zl (zn (zq ?_)))
 cases h
 exact zT Tryz.results75
 try simp only at h
 refine zZ fun s hq=>?_
 refine yr (zt ?_)
 cases h
 exact hq
 refine zi (zs (zr ?_))
 refine zU (zl (zn (zq (zt ?_))))
 cases h
 exact zT Tryz.results75
set_option maxHeartbeats 4000000 in
theorem linkage_Link_con (t1:Table) (l2:Linkage) (r3:Merged×Int) (h:linkage_Link t1 l2=some r3):Con False Tryz.prog 35 [(encTable t1),(encLinkage l2)] (.tup [(encMerged r3.1),(.int .i64 r3.2)]):=by
 refine zP Tryz.call35 Tryz.func35 rfl Tryz.ntmps35 fun X w hT=>?_
 simp only [linkage_Link] at h
 refine zs (zr ?_)
 refine zU (zl (zn (zs (zr ?_))))
 refine zU ?_
 obtain ⟨r4,h5,h⟩:=zB h
 refine zc (linkage_Clusters_con t1 l2 _ h5) ?_
 refine zU (zl (zn (zs (zs (zr ?_)))))
 refine zU (zl (zn ?_))
 rcases zI h with ⟨h6,h⟩ | ⟨h6,h⟩
 refine zi (zs (zr ?_))
 refine zU (zl (zn (zq (zt ?_))))
 cases h
 exact zT Tryz.results35
 refine zj (zk (zn (zs (zr ?_))))
 refine zU ?_
 obtain ⟨r7,h8,h⟩:=zB h
 refine zc (survivor_Table_con t1 r4.1 l2.Survive _ h8) ?_
 refine zU (zl (zn (zq ?_)))
 cases h
 exact zT Tryz.results35
set_option maxHeartbeats 4000000 in
theorem drossref01_Valid_con {D:Prop} (v1:Value) (r2:Bool) (h:drossref01_Valid v1=some r2):Con D Tryz.prog 149 [(encValue v1)] (.bool r2):=by
 refine zP Tryz.call149 Tryz.func149 rfl Tryz.ntmps149 fun X w hT=>?_
 simp only [drossref01_Valid] at h
 refine zs (zr ?_)
 refine zU (zl (zn (zs (zs (zr ?_)))))
 refine zU (zl (zn (zb (zs (zr ?_)))))
 refine zU (zl (zn ?_))
 rcases zI h with ⟨h3,h⟩ | ⟨h3,h⟩
 refine zi (zs (zr ?_))
 refine zU ?_
 rcases zI h with ⟨h4,h⟩ | ⟨h4,h⟩
 replace h:=h.symm
 refine zw 10 true ?_
 refine zg ?_
 refine zg ?_
 refine zg ?_
 refine zU (zl (zn (zq (yr (zt ?_)))))
 cases h
 exact zT Tryz.results149
 refine zw 10 false ?_
 refine zh ?_
 refine zU (zl (zn (zq (yr (zt ?_)))))
 cases h
 exact zT Tryz.results149
 refine zj (zs (zr ?_))
 refine zU (zl (zn ?_))
 rcases zI h with ⟨h5,h⟩ | ⟨h5,h⟩
 refine zi (zs (zr ?_))
 refine zU (zl (zn (zq (yr (zt ?_)))))
 cases h
 exact zT Tryz.results149
 refine zj (zs (zr ?_))
 refine zU (zl (zn ?_))
 rcases zI h with ⟨h6,h⟩ | ⟨h6,h⟩
 refine zi (zs (zr ?_))
 refine zU ?_
 rcases zI h with ⟨h7,h⟩ | ⟨h7,h⟩
 replace h:=h.symm
 refine zw 25 true ?_
 refine zg ?_
 refine zg ?_
 refine zg ?_
 refine zg ?_
 refine zU (zl (zn (zq (yr (zt ?_)))))
 cases h
 exact zT Tryz.results149
 refine zw 25 false ?_
 refine zh ?_
 refine zU (zl (zn (zq (yr (zt ?_)))))
 cases h
 exact zT Tryz.results149
 refine zj (zk (yn (zn (zs (zr ?_)))))
 refine zU ?_
 rcases zI h with ⟨h8,h⟩ | ⟨h8,h⟩
 refine zw 34 true ?_
 refine zg ?_
 refine zg ?_
 refine zg ?_
 refine zU ?_
 rcases zI h with ⟨h9,h⟩ | ⟨h9,h⟩
 replace h:=h.symm
 refine zw 39 true ?_
 refine zg ?_
 refine zg ?_
 refine zg ?_
 refine zU (zl (zn (zq ?_)))
 cases h
 exact zT Tryz.results149
 refine zw 39 false ?_
 refine zh ?_
 refine zU (zl (zn (zq ?_)))
 cases h
 exact zT Tryz.results149
 refine zw 34 false ?_
 refine zh ?_
 refine zU ?_
 refine zh ?_
 refine zU (zl (zn (zq ?_)))
 cases h
 exact zT Tryz.results149
set_option maxHeartbeats 4000000 in
theorem drossref52_limit_con {D:Prop} (c1:Similar) (r2:Bool) (h:drossref52_limit c1=some r2):Con D Tryz.prog 150 [(encSimilar c1)] (.bool r2):=by
 refine zP Tryz.call150 Tryz.func150 rfl Tryz.ntmps150 fun X w hT=>?_
 simp only [drossref52_limit] at h
 refine zs (zr ?_)
 refine zU (zl (zn (zs (zs (zr ?_)))))
 refine zU (zl (zn (zb (zs (zr ?_)))))
 refine zU (zl (zn ?_))
 rcases zI h with ⟨h3,h⟩ | ⟨h3,h⟩
 refine zi (zs (zr ?_))
 refine zU (zl (zn (zq (yr (zt ?_)))))
 cases h
 exact zT Tryz.results150
 refine zj (zs (zs (zr ?_)))
 refine zU (zl (zn ?_))
 rcases zI h with ⟨h4,h⟩ | ⟨h4,h⟩
 refine zi (zk (zn ?_))
 refine zi (zs (zr ?_))
 refine zU ?_
 rcases zI h with ⟨h5,h⟩ | ⟨h5,h⟩
 replace h:=h.symm
 refine zw 16 true ?_
 refine zg ?_
 refine zg ?_
 refine zg ?_
 refine zU (zl (zn (zq (yr (zt ?_)))))
 cases h
 exact zT Tryz.results150
 refine zw 16 false ?_
 refine zh ?_
 refine zU (zl (zn (zq (yr (zt ?_)))))
 cases h
 exact zT Tryz.results150
 refine zj (zr ?_)
 refine zU (zl (zn ?_))
 rcases zI h with ⟨h6,h⟩ | ⟨h6,h⟩
 refine zi (zs (zr ?_))
 refine zU ?_
 rcases zI h with ⟨h7,h⟩ | ⟨h7,h⟩
 replace h:=h.symm
 refine zw 16 true ?_
 refine zg ?_
 refine zg ?_
 refine zg ?_
 refine zU (zl (zn (zq (yr (zt ?_)))))
 cases h
 exact zT Tryz.results150
 refine zw 16 false ?_
 refine zh ?_
 refine zU (zl (zn (zq (yr (zt ?_)))))
 cases h
 exact zT Tryz.results150
 refine zj (zs (zr ?_))
 refine zU (zl (zn ?_))
 rcases zI h with ⟨h8,h⟩ | ⟨h8,h⟩
 refine zi (zs (zr ?_))
 refine zU ?_
 rcases zI h with ⟨h9,h⟩ | ⟨h9,h⟩
 replace h:=h.symm
 refine zw 26 true ?_
 refine zg ?_
 refine zg ?_
 refine zg ?_
 refine zU (zl (zn (zq (yr (zt ?_)))))
 cases h
 exact zT Tryz.results150
 refine zw 26 false ?_
 refine zh ?_
 refine zU (zl (zn (zq (yr (zt ?_)))))
 cases h
 exact zT Tryz.results150
 refine zj (zk (yn (zn (zs (zr ?_)))))
 refine zU (zl (zn (zq ?_)))
 cases h
 exact zT Tryz.results150
set_option maxRecDepth 20000 in
set_option maxHeartbeats 4000000 in
theorem drossref52_Error_con {D:Prop} (x1:Row) (y2:Row) (c3:Similar) (r4:Int) (h:drossref52_Error x1 y2 c3=some r4):Con D Tryz.prog 87 [(encRow x1),(encRow y2),(encSimilar c3)] (.int .i64 r4):=by
 refine zP Tryz.call87 Tryz.func87 rfl Tryz.ntmps87 fun X w hT=>?_
 simp only [drossref52_Error] at h
 refine zs (zr ?_)
 refine zU (zl (zn (zs (zs (zr ?_)))))
 refine zU ?_
 rcases zI h with ⟨h5,h⟩ | ⟨h5,h⟩
 refine zw 10 true ?_
 refine zh ?_
 refine zU ?_
 refine zh ?_
 refine zU (zl (zn ?_))
 refine zi (zs (zr ?_))
 refine zU (zl (zn (zq (zt ?_))))
 cases h
 exact zT Tryz.results87
 refine zw 10 false ?_
 refine zg ?_
 refine zg ?_
 refine zg ?_
 refine zg ?_
 refine zg ?_
 refine zg ?_
 refine zU ?_
 rcases zI h with ⟨h6,h⟩ | ⟨h6,h⟩
 refine zw 18 true ?_
 refine zh ?_
 refine zU (zl (zn ?_))
 refine zi (zs (zr ?_))
 refine zU (zl (zn (zq (zt ?_))))
 cases h
 exact zT Tryz.results87
 refine zw 18 false ?_
 refine zg ?_
 refine zg ?_
 refine zg ?_
 refine zg ?_
 refine zg ?_
 refine zg ?_
 refine zU (zl (zn ?_))
 rcases zI h with ⟨h7,h⟩ | ⟨h7,h⟩
 refine zi (zs (zr ?_))
 refine zU (zl (zn (zq (zt ?_))))
 cases h
 exact zT Tryz.results87
 refine zj (zk (zn (zs (zs (zr ?_)))))
 obtain ⟨x8,h9,h9a,h9b,h⟩:=zX h
 refine zU ?_
 obtain ⟨r10,h11,h⟩:=zB h
 refine zc (drossref01_Valid_con x8 _ h11) ?_
 refine zU ?_
 rcases zI h with ⟨h12,h⟩ | ⟨h12,h⟩
 refine zw 34 false ?_
 refine zg ?_
 refine zg ?_
 refine zg ?_
 refine zg ?_
 obtain ⟨x13,h14,h14a,h14b,h⟩:=zX h
 refine zg ?_
 refine zg ?_
 obtain ⟨r15,h16,h⟩:=zB h
 refine zc (drossref01_Valid_con x13 _ h16) ?_
 refine zg ?_
 refine zU ?_
 rcases zI h with ⟨h17,h⟩ | ⟨h17,h⟩
 refine zw 44 false ?_
 refine zg ?_
 obtain ⟨r18,h19,h⟩:=zB h
 refine zc (drossref52_limit_con c3 _ h19) ?_
 refine zg ?_
 refine zU (zl (zn ?_))
 rcases zI h with ⟨h20,h⟩ | ⟨h20,h⟩
 refine zj (zk (zn (zs (zr ?_))))
 refine zU (zl (zn (zq ?_)))
 cases h
 exact zT Tryz.results87
 refine zi (zs (zr ?_))
 refine zU (zl (zn (zq (zt ?_))))
 cases h
 exact zT Tryz.results87
 refine zw 44 true ?_
 refine zh ?_
 refine zU (zl (zn ?_))
 refine zi (zs (zr ?_))
 refine zU (zl (zn (zq (zt ?_))))
 cases h
 exact zT Tryz.results87
 refine zw 34 true ?_
 refine zh ?_
 refine zU ?_
 refine zh ?_
 refine zU (zl (zn ?_))
 refine zi (zs (zr ?_))
 refine zU (zl (zn (zq (zt ?_))))
 cases h
 exact zT Tryz.results87
set_option maxHeartbeats 4000000 in
theorem drossref56_rule_con {D:Prop} (n1:Int) (l2:List Similar) (r3:Int) (h:drossref56_rule n1 l2=some r3):Con D Tryz.prog 48 [(.int .i64 n1),(.slc (List.map encSimilar l2))] (.int .i64 r3):=by
 refine zP Tryz.call48 Tryz.func48 rfl Tryz.ntmps48 fun X w hT=>?_
 simp only [drossref56_rule] at h
 refine zs (zr ?_)
 refine zU (zl (zn (zs (zs (zr ?_)))))
 refine zU ?_
 rcases zI h with ⟨h4,h⟩ | ⟨h4,h⟩
 refine zw 11 true ?_
 refine zh ?_
 refine zU (zl (zn ?_))
 refine zi (zs (zr ?_))
 refine zU (zl (zn (zq (zt ?_))))
 cases h
 exact zT Tryz.results48
 refine zw 11 false ?_
 refine zg ?_
 refine zg ?_
 refine zg ?_
 refine zU (zl (zn ?_))
 rcases zI h with ⟨h5,h⟩ | ⟨h5,h⟩
 refine zi (zs (zr ?_))
 refine zU (zl (zn (zq (zt ?_))))
 cases h
 exact zT Tryz.results48
 refine zj (zk (zn (zs (zs (zr ?_)))))
 refine zU (zl (zn (zb ?_)))
 obtain ⟨o6,h7,h⟩:=zB h
 refine zO (fun (s:Int)=>⟨[(0,.p (.int .i64 n1)),(1,.p (.slc (List.map encSimilar l2))),(5,.p (.int .i64 s))],[]⟩) (fun (o:(Unit) ⊕ (Int))=>match o with | .inl o8=>tE (cX Tryz.f48 X w D hT) (.exit 0) ⟨[],[]⟩ | .inr o9=>tR Tryz.prog Tryz.f48 (.int .i64 o9)) h7 ?_ ?_
 clear h h4 h5 h7
 intro i10 x h
 simp only [drossref56_rule_l1] at h
 refine zs (zs (zr ?_))
 refine zU (zl (zn ?_))
 rcases zI h with ⟨h11,h⟩ | ⟨h11,h⟩
 have h11T:=eq_true h11
 refine zi (zk (zn (zs (zb (zs (zs (zr ?_)))))))
 obtain ⟨x12,h13,h13a,h13b,h⟩:=zX h
 refine zU ?_
 rcases zI h with ⟨h14,h⟩ | ⟨h14,h⟩
 have h14T:=eq_true h14
 refine zw 28 true ?_
 refine zh ?_
 refine zU (zl (zn ?_))
 refine zi (zs (zr ?_))
 refine zU (zl (zn (zq (zt (yr (zt ?_))))))
 cases h
 exact ⟨rfl,zT Tryz.results48⟩
 have h14T:=eq_false h14
 refine zw 28 false ?_
 refine zg ?_
 refine zg ?_
 refine zg ?_
 refine zg ?_
 refine zg ?_
 refine zg ?_
 refine zg ?_
 refine zU (zl (zn ?_))
 rcases zI h with ⟨h15,h⟩ | ⟨h15,h⟩
 have h15T:=eq_true h15
 refine zi (zs (zr ?_))
 refine zU (zl (zn (zq (zt (yr (zt ?_))))))
 cases h
 exact ⟨rfl,zT Tryz.results48⟩
 have h15T:=eq_false h15
 refine zj (zk (zn (zs (zr ?_))))
 obtain ⟨h16,h⟩:=ite_some h
 obtain ⟨h17,h⟩:=ite_some h
 refine zU (zl (zn (zs ?_)))
 obtain ⟨l18,h19,h⟩:=zB h
 replace h19:=Option.some.inj h19
 refine awp_le (st':=⟨[(0,.p (.int .i64 n1)),(1,.p (.slc (List.map encSimilar l2))),(5,.p (.int .i64 i10)),(6,.loc 6 1 0 0)],[(6,.arr 66 2 1 [.agg [.p (.int .i64 1),.own 38 1 0 l18.length]]),(38,.arr 142 3 1 (List.map AV.p (List.map encValue l18)))]⟩) (by simp only [go_sem,seval,h11T,h14T,h15T,←h19];all_goals ((repeat' refine And.intro ?_ ?_) <;> first | rfl | (simp;done) | (simp;rfl) | (simp [*];done) | (simp [*];rfl))) ?_
 clear h19
 refine zd ?_
 refine yU ?_
 obtain ⟨r20,h21,h⟩:=zB h
 refine yc (drossref52_Error_con (Row.mk 1 l18) (Row.mk 1 l18) x12 _ h21) ?_
 refine yU ?_
 refine yd (zn (zs (zr ?_)))
 refine zU (zl (zn ?_))
 rcases zI h with ⟨h22,h⟩ | ⟨h22,h⟩
 refine zi (zs (zr ?_))
 refine zU (zl (zn (zq (yr (zt ?_)))))
 cases h
 exact ⟨rfl,zT Tryz.results48⟩
 refine zj (zk (yn (zn (zr ?_))))
 refine zU (zl ?_)
 cases h
 exact ⟨rfl,zE⟩
 have h11T:=eq_false h11
 refine zj (zx (ze ?_))
 cases h
 exact ⟨rfl,zE⟩
 rcases o6 with ⟨⟩ | r23
 try simp only at h
 refine zA (yh (zn (zs (zr ?_))))
 refine zU (zl (zn (zq ?_)))
 cases h
 exact zT Tryz.results48
 try simp only at h
 refine zZ fun s hq=>?_
 refine yr (zt ?_)
 cases h
 exact hq
set_option maxHeartbeats 4000000 in
theorem drossref56_block_con {D:Prop} (n1:Int) (l2:List Int) (r3:Int) (h:drossref56_block n1 l2=some r3):Con D Tryz.prog 49 [(.int .i64 n1),(.slc (List.map (PV.int .i64) l2))] (.int .i64 r3):=by
 refine zP Tryz.call49 Tryz.func49 rfl Tryz.ntmps49 fun X w hT=>?_
 simp only [drossref56_block] at h
 refine zs (zr ?_)
 refine zU (zl (zn (zs (zs (zr ?_)))))
 refine zU (zl (zn (zb ?_)))
 obtain ⟨o4,h5,h⟩:=zB h
 refine zO (fun (s:Int)=>⟨[(0,.p (.int .i64 n1)),(1,.p (.slc (List.map (PV.int .i64) l2))),(5,.p (.int .i64 s))],[]⟩) (fun (o:(Unit) ⊕ (Int))=>match o with | .inl o6=>tE (cX Tryz.f49 X w D hT) (.exit 0) ⟨[(1,.p (.slc (List.map (PV.int .i64) l2)))],[]⟩ | .inr o7=>tR Tryz.prog Tryz.f49 (.int .i64 o7)) h5 ?_ ?_
 clear h h5
 intro i8 x h
 simp only [drossref56_block_l1] at h
 refine zs (zs (zr ?_))
 refine zU (zl (zn ?_))
 rcases zI h with ⟨h9,h⟩ | ⟨h9,h⟩
 refine zi (zk (zn (zs (zb (zs (zr ?_))))))
 obtain ⟨x10,h11,h11a,h11b,h⟩:=zX h
 refine zU ?_
 rcases zI h with ⟨h12,h⟩ | ⟨h12,h⟩
 refine zw 19 true ?_
 refine zh ?_
 refine zU (zl (zn ?_))
 refine zi (zs (zr ?_))
 refine zU (zl (zn (zq (yr (zt ?_)))))
 cases h
 exact ⟨rfl,zT Tryz.results49⟩
 refine zw 19 false ?_
 refine zg ?_
 refine zg ?_
 refine zg ?_
 refine zg ?_
 refine zg ?_
 refine zg ?_
 refine zU (zl (zn ?_))
 rcases zI h with ⟨h13,h⟩ | ⟨h13,h⟩
 refine zi (zs (zr ?_))
 refine zU (zl (zn (zq (yr (zt ?_)))))
 cases h
 exact ⟨rfl,zT Tryz.results49⟩
 refine zj (zk (yn (zn (zr ?_))))
 refine zU (zl ?_)
 cases h
 exact ⟨rfl,zE⟩
 refine zj (zx (ze ?_))
 cases h
 exact ⟨rfl,zE⟩
 rcases o4 with ⟨⟩ | r14
 try simp only at h
 refine zA (yh (zn (zs (zs (zr ?_)))))
 refine zU (zl (zn (zb ?_)))
 obtain ⟨o15,h16,h⟩:=zB h
 refine zO (fun (s:Int)=>⟨[(1,.p (.slc (List.map (PV.int .i64) l2))),(6,.p (.int .i64 s))],[]⟩) (fun (o:(Unit) ⊕ (Int))=>match o with | .inl o17=>tE (cX Tryz.f49 X w D hT) (.exit 2) ⟨[],[]⟩ | .inr o18=>tR Tryz.prog Tryz.f49 (.int .i64 o18)) h16 ?_ ?_
 clear h h5 h16
 intro i19 x h
 simp only [drossref56_block_l5] at h
 refine zs (zs (zr ?_))
 refine zU (zl (zn ?_))
 rcases zI h with ⟨h20,h⟩ | ⟨h20,h⟩
 refine zi (zk (zn (zs (zb (zs (zr ?_))))))
 refine zU (zl (zn (zb ?_)))
 obtain ⟨o21,h22,h⟩:=zB h
 refine zO (fun (s:Int)=>⟨[(1,.p (.slc (List.map (PV.int .i64) l2))),(6,.p (.int .i64 i19)),(7,.p (.int .i64 s))],[]⟩) (fun (o:(Unit) ⊕ (Int))=>match o with | .inl o23=>tE (cX Tryz.f49 X w D hT) (.exit 4) ⟨[(1,.p (.slc (List.map (PV.int .i64) l2))),(6,.p (.int .i64 i19))],[]⟩ | .inr o24=>tR Tryz.prog Tryz.f49 (.int .i64 o24)) h22 ?_ ?_
 clear h h20 h22
 intro k25 x h
 simp only [drossref56_block_l4] at h
 refine zs (zs (zr ?_))
 refine zU (zl (zn ?_))
 rcases zI h with ⟨h26,h⟩ | ⟨h26,h⟩
 refine zi (zk (zn (zs (zb (zs (zd ?_))))))
 obtain ⟨x27,h28,h28a,h28b,h⟩:=zX h
 obtain ⟨x29,h30,h30a,h30b,h⟩:=zX h
 refine yU ?_
 refine yd (zn ?_)
 rcases zI h with ⟨h31,h⟩ | ⟨h31,h⟩
 refine zi (zs (zr ?_))
 refine zU (zl (zn (zq (yr (zt ?_)))))
 cases h
 exact ⟨rfl,zT Tryz.results49⟩
 refine zj (zk (yn (zn (zr ?_))))
 refine zU (zl ?_)
 cases h
 exact ⟨rfl,zE⟩
 refine zj (zx (ze ?_))
 cases h
 exact ⟨rfl,zE⟩
 rcases o21 with ⟨⟩ | r32
 try simp only at h
 refine zA (yh (yn (zn (zr ?_))))
 refine zU (zl ?_)
 cases h
 exact ⟨rfl,zE⟩
 try simp only at h
 refine zZ fun s hq=>?_
 refine yr (yr (zt ?_))
 cases h
 refine ⟨rfl,?_⟩
 exact hq
 refine zj (zx (ze ?_))
 cases h
 exact ⟨rfl,zE⟩
 rcases o15 with ⟨⟩ | r33
 try simp only at h
 refine zA (yh (zn (zs (zr ?_))))
 refine zU (zl (zn (zq ?_)))
 cases h
 exact zT Tryz.results49
 try simp only at h
 refine zZ fun s hq=>?_
 refine yr (zt ?_)
 cases h
 exact hq
 try simp only at h
 refine zZ fun s hq=>?_
 refine yr (zt ?_)
 cases h
 exact hq
set_option maxHeartbeats 4000000 in
theorem drossref56_Valid_con {D:Prop} (n1:Int) (l2:Linkage) (r3:Int) (h:drossref56_Valid n1 l2=some r3):Con D Tryz.prog 15 [(.int .i64 n1),(encLinkage l2)] (.int .i64 r3):=by
 refine zP Tryz.call15 Tryz.func15 rfl Tryz.ntmps15 fun X w hT=>?_
 simp only [drossref56_Valid] at h
 refine zs (zr ?_)
 refine zU (zl (zn (zs (zs (zr ?_)))))
 refine zU ?_
 rcases zI h with ⟨h4,h⟩ | ⟨h4,h⟩
 refine zw 11 true ?_
 refine zh ?_
 refine zU (zl (zn ?_))
 refine zi (zs (zr ?_))
 refine zU (zl (zn (zq (zt ?_))))
 cases h
 exact zT Tryz.results15
 refine zw 11 false ?_
 refine zg ?_
 refine zg ?_
 refine zU (zl (zn ?_))
 rcases zI h with ⟨h5,h⟩ | ⟨h5,h⟩
 refine zi (zs (zr ?_))
 refine zU (zl (zn (zq (zt ?_))))
 cases h
 exact zT Tryz.results15
 refine zj (zk (zn (zs (zs (zr ?_)))))
 refine zU (zl (zn ?_))
 rcases zI h with ⟨h6,h⟩ | ⟨h6,h⟩
 refine zi (zs (zr ?_))
 refine zU (zl (zn (zq (zt ?_))))
 cases h
 exact zT Tryz.results15
 refine zj (zk (zn (zs (zs (zr ?_)))))
 refine zU (zl (zn (zb ?_)))
 obtain ⟨o7,h8,h⟩:=zB h
 refine zO (fun (s:Int)=>⟨[(0,.p (.int .i64 n1)),(3,.loc 3 1 0 0),(5,.p (.int .i64 s))],[(3,.arr 25 3 1 [.p (encLinkage l2)])]⟩) (fun (o:(Unit) ⊕ (Int))=>match o with | .inl o9=>tE (cX Tryz.f15 X w D hT) (.exit 0) ⟨[(0,.p (.int .i64 n1)),(3,.loc 3 1 0 0)],[(3,.arr 25 3 1 [.p (encLinkage l2)])]⟩ | .inr o10=>tR Tryz.prog Tryz.f15 (.int .i64 o10)) h8 ?_ ?_
 clear h h4 h5 h6 h8
 intro i11 x h
 simp only [drossref56_Valid_l1] at h
 refine zs (zs (zr ?_))
 refine zU (zl (zn ?_))
 rcases zI h with ⟨h12,h⟩ | ⟨h12,h⟩
 refine zi (zk (zn (zs (zb (zs (zr ?_))))))
 obtain ⟨x13,h14,h14a,h14b,h⟩:=zX h
 refine zU ?_
 obtain ⟨r15,h16,h⟩:=zB h
 refine zc (drossref56_rule_con n1 x13 _ h16) ?_
 refine zU (zl (zn (zs (zr ?_))))
 refine zU (zl (zn ?_))
 rcases zI h with ⟨h17,h⟩ | ⟨h17,h⟩
 refine zi (zs (zr ?_))
 refine zU (zl (zn (zq (yr (zt ?_)))))
 cases h
 exact ⟨rfl,zT Tryz.results15⟩
 refine zj (zk (yn (zn (zr ?_))))
 refine zU (zl ?_)
 cases h
 exact ⟨rfl,zE⟩
 refine zj (zx (ze ?_))
 cases h
 exact ⟨rfl,zE⟩
 rcases o7 with ⟨⟩ | r18
 try simp only at h
 refine zA (yh (zn (zs (zs (zr ?_)))))
 refine zU ?_
 obtain ⟨r19,h20,h⟩:=zB h
 refine zc (drossref56_block_con n1 l2.Block _ h20) ?_
 refine zU (zl (zn (zs (zr ?_))))
 refine zU (zl (zn ?_))
 rcases zI h with ⟨h21,h⟩ | ⟨h21,h⟩
 refine zi (zs (zr ?_))
 refine zU (zl (zn (zq (zt ?_))))
 cases h
 exact zT Tryz.results15
 refine zj (zk (zn (zs (zs (zr ?_)))))
 refine zU (zl (zn ?_))
 rcases zI h with ⟨h22,h⟩ | ⟨h22,h⟩
 refine zi (zs (zr ?_))
 refine zU (zl (zn (zq (zt ?_))))
 cases h
 exact zT Tryz.results15
 refine zj (zk (zn (zs (zs (zr ?_)))))
 refine zU (zl (zn (zb ?_)))
 obtain ⟨o23,h24,h⟩:=zB h
 refine zO (fun (s:Int)=>⟨[(0,.p (.int .i64 n1)),(3,.loc 3 1 0 0),(8,.p (.int .i64 s))],[(3,.arr 25 3 1 [.p (encLinkage l2)])]⟩) (fun (o:(Unit) ⊕ (Int))=>match o with | .inl o25=>tE (cX Tryz.f15 X w D hT) (.exit 2) ⟨[],[]⟩ | .inr o26=>tR Tryz.prog Tryz.f15 (.int .i64 o26)) h24 ?_ ?_
 clear h h4 h5 h6 h8 h20 h21 h22 h24
 intro i27 x h
 simp only [drossref56_Valid_l2] at h
 refine zs (zs (zr ?_))
 refine zU (zl (zn ?_))
 rcases zI h with ⟨h28,h⟩ | ⟨h28,h⟩
 refine zi (zk (zn (zs (zb (zs (zr ?_))))))
 obtain ⟨x29,h30,h30a,h30b,h⟩:=zX h
 refine zU ?_
 rcases zI h with ⟨h31,h⟩ | ⟨h31,h⟩
 refine zw 59 true ?_
 refine zh ?_
 refine zU (zl (zn ?_))
 refine zi (zs (zr ?_))
 refine zU (zl (zn (zq (yr (zt ?_)))))
 cases h
 exact ⟨rfl,zT Tryz.results15⟩
 refine zw 59 false ?_
 refine zg ?_
 refine zg ?_
 refine zg ?_
 refine zg ?_
 refine zg ?_
 refine zg ?_
 refine zU (zl (zn ?_))
 rcases zI h with ⟨h32,h⟩ | ⟨h32,h⟩
 refine zi (zs (zr ?_))
 refine zU (zl (zn (zq (yr (zt ?_)))))
 cases h
 exact ⟨rfl,zT Tryz.results15⟩
 refine zj (zk (yn (zn (zr ?_))))
 refine zU (zl ?_)
 cases h
 exact ⟨rfl,zE⟩
 refine zj (zx (ze ?_))
 cases h
 exact ⟨rfl,zE⟩
 rcases o23 with ⟨⟩ | r33
 try simp only at h
 refine zA (yh (zn (zs (zr ?_))))
 refine zU (zl (zn (zq ?_)))
 cases h
 exact zT Tryz.results15
 try simp only at h
 refine zZ fun s hq=>?_
 refine yr (zt ?_)
 cases h
 exact hq
 try simp only at h
 refine zZ fun s hq=>?_
 refine yr (zt ?_)
 cases h
 exact hq
set_option maxRecDepth 20000 in
set_option maxHeartbeats 4000000 in
theorem drossref03_letter_con {D:Prop} (c1:Int) (r2:Bool) (h:drossref03_letter c1=some r2):Con D Tryz.prog 189 [(.int .u8 c1)] (.bool r2):=by
 refine zP Tryz.call189 Tryz.func189 rfl Tryz.ntmps189 fun X w hT=>?_
 simp only [drossref03_letter] at h
 refine zs (zr ?_)
 refine zU (zl (zn (zs (zr ?_))))
 refine zU ?_
 rcases zI h with ⟨h3,h⟩ | ⟨h3,h⟩
 refine zw 5 true ?_
 refine zg ?_
 refine zg ?_
 refine zU ?_
 rcases zI h with ⟨h4,h⟩ | ⟨h4,h⟩
 refine zw 9 true ?_
 refine zh ?_
 refine zU ?_
 refine zh ?_
 refine zU (zl (zn (zq ?_)))
 cases h
 exact zT Tryz.results189
 refine zw 9 false ?_
 refine zg ?_
 refine zg ?_
 refine zg ?_
 rcases zI h with ⟨h5,h⟩ | ⟨h5,h⟩
 refine zw 12 true ?_
 refine zg ?_
 refine zg ?_
 refine zg ?_
 refine zU ?_
 rcases zI h with ⟨h6,h⟩ | ⟨h6,h⟩
 refine zw 17 true ?_
 refine zh ?_
 refine zU (zl (zn (zq ?_)))
 cases h
 exact zT Tryz.results189
 replace h:=h.symm
 refine zw 17 false ?_
 refine zg ?_
 refine zg ?_
 refine zU (zl (zn (zq ?_)))
 cases h
 exact zT Tryz.results189
 replace h:=h.symm
 refine zw 12 false ?_
 refine zh ?_
 refine zg ?_
 refine zU ?_
 refine zg ?_
 refine zg ?_
 refine zU (zl (zn (zq ?_)))
 cases h
 exact zT Tryz.results189
 refine zw 5 false ?_
 refine zh ?_
 refine zU ?_
 refine zg ?_
 refine zg ?_
 refine zg ?_
 rcases zI h with ⟨h7,h⟩ | ⟨h7,h⟩
 refine zw 12 true ?_
 refine zg ?_
 refine zg ?_
 refine zg ?_
 refine zU ?_
 rcases zI h with ⟨h8,h⟩ | ⟨h8,h⟩
 refine zw 17 true ?_
 refine zh ?_
 refine zU (zl (zn (zq ?_)))
 cases h
 exact zT Tryz.results189
 replace h:=h.symm
 refine zw 17 false ?_
 refine zg ?_
 refine zg ?_
 refine zU (zl (zn (zq ?_)))
 cases h
 exact zT Tryz.results189
 replace h:=h.symm
 refine zw 12 false ?_
 refine zh ?_
 refine zg ?_
 refine zU ?_
 refine zg ?_
 refine zg ?_
 refine zU (zl (zn (zq ?_)))
 cases h
 exact zT Tryz.results189
set_option maxRecDepth 20000 in
set_option maxHeartbeats 4000000 in
theorem drossref03_Name_con {D:Prop} (s1:List UInt8) (r2:Bool) (h:drossref03_Name s1=some r2):Con D Tryz.prog 129 [(.str s1)] (.bool r2):=by
 refine zP Tryz.call129 Tryz.func129 rfl Tryz.ntmps129 fun X w hT=>?_
 simp only [drossref03_Name] at h
 refine zs (zr ?_)
 refine zU (zl (zn (zs (zs (zr ?_)))))
 refine zU ?_
 rcases zI h with ⟨h3,h⟩ | ⟨h3,h⟩
 refine zw 7 true ?_
 refine zh ?_
 refine zU ?_
 refine zh ?_
 refine zU ?_
 refine zh ?_
 refine zU (zl (zn ?_))
 refine zi (zs (zr ?_))
 refine zU (zl (zn (zq (zt ?_))))
 cases h
 exact zT Tryz.results129
 refine zw 7 false ?_
 refine zg ?_
 refine zg ?_
 refine zg ?_
 refine zU ?_
 rcases zI h with ⟨h4,h⟩ | ⟨h4,h⟩
 refine zw 12 true ?_
 refine zh ?_
 refine zU ?_
 refine zh ?_
 refine zU (zl (zn ?_))
 refine zi (zs (zr ?_))
 refine zU (zl (zn (zq (zt ?_))))
 cases h
 exact zT Tryz.results129
 refine zw 12 false ?_
 refine zg ?_
 obtain ⟨c5,h6,h6l,h6L,h⟩:=zY 0 h
 refine zg ?_
 obtain ⟨r7,h8,h⟩:=zB h
 refine zc (drossref03_letter_con ((c5.toNat:Nat):Int) _ h8) ?_
 refine zg ?_
 refine zU ?_
 rcases zI h with ⟨h9,h⟩ | ⟨h9,h⟩
 refine zw 18 false ?_
 refine zg ?_
 refine zg ?_
 refine zU (zl (zn ?_))
 rcases zI h with ⟨h10,h⟩ | ⟨h10,h⟩
 refine zi (zs (zr ?_))
 refine zU (zl (zn (zq (zt ?_))))
 cases h
 exact zT Tryz.results129
 refine zj (zk (zn (zs (zs (zr ?_)))))
 refine zU (zl (zn (zb ?_)))
 obtain ⟨o11,h12,h⟩:=zB h
 refine zO (fun (s:Int)=>⟨[(0,.p (.str s1)),(3,.p (.int .i64 s))],[]⟩) (fun (o:(Unit) ⊕ (Bool))=>match o with | .inl o13=>tE (cX Tryz.f129 X w D hT) (.exit 0) ⟨[],[]⟩ | .inr o14=>tR Tryz.prog Tryz.f129 (.bool o14)) h12 ?_ ?_
 clear h h3 h4 h6 h6l h6L h8 h9 h10 h12
 intro i15 x h
 simp only [drossref03_Name_l1] at h
 refine zs (zs (zr ?_))
 refine zU (zl (zn ?_))
 rcases zI h with ⟨h16,h⟩ | ⟨h16,h⟩
 refine zi (zk (zn (zs (zb (zs (zr ?_))))))
 obtain ⟨c17,h18,h18a,h18b,h⟩:=zX h
 refine zU ?_
 obtain ⟨r19,h20,h⟩:=zB h
 refine zc (drossref03_letter_con ((c17.toNat:Nat):Int) _ h20) ?_
 refine zU ?_
 rcases zI h with ⟨h21,h⟩ | ⟨h21,h⟩
 refine zw 33 false ?_
 refine zh ?_
 refine zU (zl (zn ?_))
 refine zj (zk (yn (zn (zr ?_))))
 refine zU (zl ?_)
 cases h
 exact ⟨rfl,zE⟩
 refine zw 33 true ?_
 refine zg ?_
 refine zg ?_
 refine zg ?_
 refine zg ?_
 refine zg ?_
 rcases zI h with ⟨h22,h⟩ | ⟨h22,h⟩
 replace h:=h.symm
 refine zw 38 true ?_
 refine zh ?_
 refine zg ?_
 refine zU (zl (zn ?_))
 refine zi (zs (zr ?_))
 refine zU (zl (zn (zq (yr (zt ?_)))))
 cases h
 exact ⟨rfl,zT Tryz.results129⟩
 refine zw 38 false ?_
 refine zg ?_
 refine zg ?_
 refine zg ?_
 refine zg ?_
 refine zg ?_
 refine zU (zl (zn ?_))
 rcases zI h with ⟨h23,h⟩ | ⟨h23,h⟩
 refine zi (zs (zr ?_))
 refine zU (zl (zn (zq (yr (zt ?_)))))
 cases h
 exact ⟨rfl,zT Tryz.results129⟩
 refine zj (zk (yn (zn (zr ?_))))
 refine zU (zl ?_)
 cases h
 exact ⟨rfl,zE⟩
 refine zj (zx (ze ?_))
 cases h
 exact ⟨rfl,zE⟩
 rcases o11 with ⟨⟩ | r24
 try simp only at h
 refine zA (yh (zn (zs (zr ?_))))
 refine zU (zl (zn (zq ?_)))
 cases h
 exact zT Tryz.results129
 try simp only at h
 refine zZ fun s hq=>?_
 refine yr (zt ?_)
 cases h
 exact hq
 refine zw 18 true ?_
 refine zh ?_
 refine zU (zl (zn ?_))
 refine zi (zs (zr ?_))
 refine zU (zl (zn (zq (zt ?_))))
 cases h
 exact zT Tryz.results129
set_option maxHeartbeats 4000000 in
theorem drossref03_Attr_con {D:Prop} (l1:List (List UInt8)) (n2:List UInt8) (r3:Int) (h:drossref03_Attr l1 n2=some r3):Con D Tryz.prog 190 [(.slc (List.map PV.str l1)),(.str n2)] (.int .i64 r3):=by
 refine zP Tryz.call190 Tryz.func190 rfl Tryz.ntmps190 fun X w hT=>?_
 simp only [drossref03_Attr] at h
 refine zs (zr ?_)
 refine zU (zl (zn (zs (zs (zr ?_)))))
 refine zU (zl (zn (zb ?_)))
 obtain ⟨o4,h5,h⟩:=zB h
 refine zO (fun (s:Int)=>⟨[(0,.p (.slc (List.map PV.str l1))),(1,.p (.str n2)),(5,.p (.int .i64 s))],[]⟩) (fun (o:(Unit) ⊕ (Int))=>match o with | .inl o6=>tE (cX Tryz.f190 X w D hT) (.exit 0) ⟨[],[]⟩ | .inr o7=>tR Tryz.prog Tryz.f190 (.int .i64 o7)) h5 ?_ ?_
 clear h h5
 intro i8 x h
 simp only [drossref03_Attr_l1] at h
 refine zs (zs (zr ?_))
 refine zU (zl (zn ?_))
 rcases zI h with ⟨h9,h⟩ | ⟨h9,h⟩
 refine zi (zk (zn (zs (zb (zs (zr ?_))))))
 obtain ⟨x10,h11,h11a,h11b,h⟩:=zX h
 refine zU (zl (zn ?_))
 rcases zI h with ⟨h12,h⟩ | ⟨h12,h⟩
 refine zi (zs (zr ?_))
 refine zU (zl (zn (zq (yr (zt ?_)))))
 cases h
 exact ⟨rfl,zT Tryz.results190⟩
 refine zj (zk (yn (zn (zr ?_))))
 refine zU (zl ?_)
 cases h
 exact ⟨rfl,zE⟩
 refine zj (zx (ze ?_))
 cases h
 exact ⟨rfl,zE⟩
 rcases o4 with ⟨⟩ | r13
 try simp only at h
 refine zA (yh (zn (zs (zr ?_))))
 refine zU (zl (zn (zq ?_)))
 cases h
 exact zT Tryz.results190
 try simp only at h
 refine zZ fun s hq=>?_
 refine yr (zt ?_)
 cases h
 exact hq
set_option maxRecDepth 20000 in
set_option maxHeartbeats 4000000 in
theorem drossref03_Names_con {D:Prop} (l1:List (List UInt8)) (r2:Bool) (h:drossref03_Names l1=some r2):Con D Tryz.prog 130 [(.slc (List.map PV.str l1))] (.bool r2):=by
 refine zP Tryz.call130 Tryz.func130 rfl Tryz.ntmps130 fun X w hT=>?_
 simp only [drossref03_Names] at h
 refine zs (zr ?_)
 refine zU (zl (zn (zs (zs (zr ?_)))))
 refine zU (zl (zn (zb ?_)))
 obtain ⟨o3,h4,h⟩:=zB h
 refine zO (fun (s:Int)=>⟨[(0,.p (.slc (List.map PV.str l1))),(3,.p (.int .i64 s))],[]⟩) (fun (o:(Unit) ⊕ (Bool))=>match o with | .inl o5=>tE (cX Tryz.f130 X w D hT) (.exit 0) ⟨[],[]⟩ | .inr o6=>tR Tryz.prog Tryz.f130 (.bool o6)) h4 ?_ ?_
 clear h h4
 intro i7 x h
 simp only [drossref03_Names_l1] at h
 refine zs (zs (zr ?_))
 refine zU (zl (zn ?_))
 rcases zI h with ⟨h8,h⟩ | ⟨h8,h⟩
 refine zi (zk (zn (zs (zb (zs (zd ?_))))))
 obtain ⟨x9,h10,h10a,h10b,h⟩:=zX h
 refine yU ?_
 obtain ⟨r11,h12,h⟩:=zB h
 refine yc (drossref03_Name_con x9 _ h12) ?_
 refine yU ?_
 rcases zI h with ⟨h13,h⟩ | ⟨h13,h⟩
 refine yw 16 false ?_
 refine yg ?_
 refine yg ?_
 obtain ⟨h14,h⟩:=ite_some h
 obtain ⟨h15,h⟩:=ite_some h
 refine yg ?_
 refine yg ?_
 refine yg ?_
 refine yg ?_
 refine yg ?_
 obtain ⟨r16,h17,h⟩:=zB h
 refine yc (drossref03_Attr_con (l1.take (i7.toNat)) x9 _ h17) ?_
 refine yg ?_
 refine yU ?_
 refine yd (zn ?_)
 rcases zI h with ⟨h18,h⟩ | ⟨h18,h⟩
 refine zi (zs (zr ?_))
 refine zU (zl (zn (zq (yr (zt ?_)))))
 cases h
 exact ⟨rfl,zT Tryz.results130⟩
 refine zj (zk (yn (zn (zr ?_))))
 refine zU (zl ?_)
 cases h
 exact ⟨rfl,zE⟩
 refine yw 16 true ?_
 refine yk ?_
 refine yU ?_
 refine yd (zn ?_)
 refine zi (zs (zr ?_))
 refine zU (zl (zn (zq (yr (zt ?_)))))
 cases h
 exact ⟨rfl,zT Tryz.results130⟩
 refine zj (zx (ze ?_))
 cases h
 exact ⟨rfl,zE⟩
 rcases o3 with ⟨⟩ | r19
 try simp only at h
 refine zA (yh (zn (zs (zr ?_))))
 refine zU (zl (zn (zq ?_)))
 cases h
 exact zT Tryz.results130
 try simp only at h
 refine zZ fun s hq=>?_
 refine yr (zt ?_)
 cases h
 exact hq
set_option maxHeartbeats 4000000 in
theorem drossref01_Valids_con {D:Prop} (l1:List Value) (r2:Bool) (h:drossref01_Valids l1=some r2):Con D Tryz.prog 131 [(.slc (List.map encValue l1))] (.bool r2):=by
 refine zP Tryz.call131 Tryz.func131 rfl Tryz.ntmps131 fun X w hT=>?_
 simp only [drossref01_Valids] at h
 refine zs (zr ?_)
 refine zU (zl (zn (zs (zs (zr ?_)))))
 refine zU (zl (zn (zb ?_)))
 obtain ⟨o3,h4,h⟩:=zB h
 refine zO (fun (s:Int)=>⟨[(0,.p (.slc (List.map encValue l1))),(3,.p (.int .i64 s))],[]⟩) (fun (o:(Unit) ⊕ (Bool))=>match o with | .inl o5=>tE (cX Tryz.f131 X w D hT) (.exit 0) ⟨[],[]⟩ | .inr o6=>tR Tryz.prog Tryz.f131 (.bool o6)) h4 ?_ ?_
 clear h h4
 intro i7 x h
 simp only [drossref01_Valids_l1] at h
 refine zs (zs (zr ?_))
 refine zU (zl (zn ?_))
 rcases zI h with ⟨h8,h⟩ | ⟨h8,h⟩
 refine zi (zk (zn (zs (zb (zs (zr ?_))))))
 obtain ⟨x9,h10,h10a,h10b,h⟩:=zX h
 refine zU ?_
 obtain ⟨r11,h12,h⟩:=zB h
 refine zc (drossref01_Valid_con x9 _ h12) ?_
 refine zU (zl (zn ?_))
 rcases zI h with ⟨h13,h⟩ | ⟨h13,h⟩
 refine zj (zk (yn (zn (zr ?_))))
 refine zU (zl ?_)
 cases h
 exact ⟨rfl,zE⟩
 refine zi (zs (zr ?_))
 refine zU (zl (zn (zq (yr (zt ?_)))))
 cases h
 exact ⟨rfl,zT Tryz.results131⟩
 refine zj (zx (ze ?_))
 cases h
 exact ⟨rfl,zE⟩
 rcases o3 with ⟨⟩ | r14
 try simp only at h
 refine zA (yh (zn (zs (zr ?_))))
 refine zU (zl (zn (zq ?_)))
 cases h
 exact zT Tryz.results131
 try simp only at h
 refine zZ fun s hq=>?_
 refine yr (zt ?_)
 cases h
 exact hq
set_option maxHeartbeats 4000000 in
theorem drossref03_Valid_con {D:Prop} (t1:Table) (r2:Int) (h:drossref03_Valid t1=some r2):Con D Tryz.prog 78 [(encTable t1)] (.int .i64 r2):=by
 refine zP Tryz.call78 Tryz.func78 rfl Tryz.ntmps78 fun X w hT=>?_
 simp only [drossref03_Valid] at h
 refine zs (zr ?_)
 refine zU (zl (zn (zs (zs (zr ?_)))))
 refine zU ?_
 obtain ⟨r3,h4,h⟩:=zB h
 refine zc (drossref03_Name_con t1.Name _ h4) ?_
 refine zU (zl (zn ?_))
 rcases zI h with ⟨h5,h⟩ | ⟨h5,h⟩
 refine zj (zk (zn (zs (zs (zr ?_)))))
 refine zU ?_
 rcases zI h with ⟨h6,h⟩ | ⟨h6,h⟩
 refine zw 14 true ?_
 refine zh ?_
 refine zU (zl (zn ?_))
 refine zi (zs (zr ?_))
 refine zU (zl (zn (zq (zt ?_))))
 cases h
 exact zT Tryz.results78
 refine zw 14 false ?_
 refine zg ?_
 refine zg ?_
 refine zg ?_
 refine zg ?_
 refine zU (zl (zn ?_))
 rcases zI h with ⟨h7,h⟩ | ⟨h7,h⟩
 refine zi (zs (zr ?_))
 refine zU (zl (zn (zq (zt ?_))))
 cases h
 exact zT Tryz.results78
 refine zj (zk (zn (zs (zs (zr ?_)))))
 refine zU ?_
 obtain ⟨r8,h9,h⟩:=zB h
 refine zc (drossref03_Names_con t1.Attrs _ h9) ?_
 refine zU (zl (zn ?_))
 rcases zI h with ⟨h10,h⟩ | ⟨h10,h⟩
 refine zj (zk (zn (zs (zr ?_))))
 refine zU (zl (zn (zs (zs (zr ?_)))))
 refine zU (zl (zn (zb ?_)))
 obtain ⟨o11,h12,h⟩:=zB h
 refine zO (fun (s:Int×Int)=>⟨[(1,.loc 1 1 0 0),(3,.p (.int .i64 s.1)),(4,.p (.int .i64 s.2))],[(1,.arr 41 3 1 [.p (encTable t1)])]⟩) (fun (o:(Unit) ⊕ (Int))=>match o with | .inl o13=>tE (cX Tryz.f78 X w D hT) (.exit 0) ⟨[],[]⟩ | .inr o14=>tR Tryz.prog Tryz.f78 (.int .i64 o14)) h12 ?_ ?_
 clear h h4 h5 h6 h7 h9 h10 h12
 intro s x h
 obtain ⟨b15,i16⟩:=s
 simp only [drossref03_Valid_l1] at h
 dsimp only
 refine zs (zs (zr ?_))
 refine zU (zl (zn ?_))
 rcases zI h with ⟨h17,h⟩ | ⟨h17,h⟩
 refine zi (zk (zn (zs (zb (zs (zr ?_))))))
 obtain ⟨x18,h19,h19a,h19b,h⟩:=zX h
 refine zU (zl (zn (zs (zs (zr ?_)))))
 refine zU (zl (zn ?_))
 rcases zI h with ⟨h20,h⟩ | ⟨h20,h⟩
 refine zi (zs (zr ?_))
 refine zU (zl (zn (zq (zt (yr (zt ?_))))))
 cases h
 exact ⟨rfl,zT Tryz.results78⟩
 refine zj (zk (zn (zs (zr ?_))))
 refine zU (zl (zn (zs (zs (zr ?_)))))
 refine zU (zl (zn ?_))
 rcases zI h with ⟨h21,h⟩ | ⟨h21,h⟩
 refine zi (zs (zr ?_))
 refine zU (zl (zn (zq (zt (yr (zt ?_))))))
 cases h
 exact ⟨rfl,zT Tryz.results78⟩
 refine zj (zk (zn (zs (zr ?_))))
 refine zU ?_
 obtain ⟨r22,h23,h⟩:=zB h
 refine zc (drossref01_Valids_con x18.Values _ h23) ?_
 refine zU (zl (zn ?_))
 rcases zI h with ⟨h24,h⟩ | ⟨h24,h⟩
 refine zj (zk (yn (zn (zr ?_))))
 refine zU (zl ?_)
 cases h
 exact ⟨rfl,zE⟩
 refine zi (zs (zr ?_))
 refine zU (zl (zn (zq (yr (zt ?_)))))
 cases h
 exact ⟨rfl,zT Tryz.results78⟩
 refine zj (zx (ze ?_))
 cases h
 exact ⟨rfl,zE⟩
 rcases o11 with ⟨⟩ | r25
 try simp only at h
 refine zA (yh (zn (zs (zr ?_))))
 refine zU (zl (zn (zq ?_)))
 cases h
 exact zT Tryz.results78
 try simp only at h
 refine zZ fun s hq=>?_
 refine yr (zt ?_)
 cases h
 exact hq
 refine zi (zs (zr ?_))
 refine zU (zl (zn (zq (zt ?_))))
 cases h
 exact zT Tryz.results78
 refine zi (zs (zr ?_))
 refine zU (zl (zn (zq (zt ?_))))
 cases h
 exact zT Tryz.results78
set_option maxHeartbeats 4000000 in
theorem drossref56_Error_con {D:Prop} (t1:Table) (l2:Linkage) (r3:Int) (h:drossref56_Error t1 l2=some r3):Con D Tryz.prog 38 [(encTable t1),(encLinkage l2)] (.int .i64 r3):=by
 refine zP Tryz.call38 Tryz.func38 rfl Tryz.ntmps38 fun X w hT=>?_
 simp only [drossref56_Error] at h
 refine zs (zr ?_)
 refine zU (zl (zn (zs (zs (zr ?_)))))
 refine zU ?_
 obtain ⟨r4,h5,h⟩:=zB h
 refine zc (drossref03_Valid_con t1 _ h5) ?_
 refine zU (zl (zn (zs (zr ?_))))
 refine zU (zl (zn ?_))
 rcases zI h with ⟨h6,h⟩ | ⟨h6,h⟩
 refine zi (zs (zr ?_))
 refine zU (zl (zn (zq (zt ?_))))
 cases h
 exact zT Tryz.results38
 refine zj (zk (zn (zs (zs (zr ?_)))))
 refine zU ?_
 obtain ⟨r7,h8,h⟩:=zB h
 refine zc (drossref56_Valid_con (t1.Attrs.length:Int) l2 _ h8) ?_
 refine zU (zl (zn (zs (zr ?_))))
 refine zU (zl (zn ?_))
 rcases zI h with ⟨h9,h⟩ | ⟨h9,h⟩
 refine zi (zs (zr ?_))
 refine zU (zl (zn (zq (zt ?_))))
 cases h
 exact zT Tryz.results38
 refine zj (zk (zn (zs (zs (zr ?_)))))
 refine zU (zl (zn ?_))
 rcases zI h with ⟨h10,h⟩ | ⟨h10,h⟩
 refine zi (zs (zr ?_))
 refine zU (zl (zn (zq (zt ?_))))
 cases h
 exact zT Tryz.results38
 refine zj (zk (zn (zs (zr ?_))))
 refine zU (zl (zn (zq ?_)))
 cases h
 exact zT Tryz.results38
set_option maxRecDepth 20000 in
set_option maxHeartbeats 4000000 in
theorem drosslaw56_LinkageErrors_con (t1:Table) (l2:Linkage) (r3:Bool) (h:drosslaw56_LinkageErrors t1 l2=some r3):Con False Tryz.prog 11 [(encTable t1),(encLinkage l2)] (.bool r3):=by
 refine zP Tryz.call11 Tryz.func11 rfl Tryz.ntmps11 fun X w hT=>?_
 simp only [drosslaw56_LinkageErrors] at h
 refine zs (zr ?_)
 refine zU (zl (zn (zs (zr ?_))))
 refine zU ?_
 obtain ⟨r4,h5,h⟩:=zB h
 refine zc (drossref56_Error_con t1 l2 _ h5) ?_
 refine zU (zl (zn (zs ?_)))
 obtain ⟨t6,h7,h⟩:=zB h
 refine zJ (fun (o8:Bool)=>tE (cX Tryz.f11 X w False hT) .normal ⟨[(2,.loc 2 1 0 0),(3,.loc 3 1 0 0),(5,.p (.int .i64 r4)),(45,.p (.bool o8))],[(2,.arr 41 3 1 [.p (encTable t1)]),(3,.arr 25 3 1 [.p (encLinkage l2)])]⟩) t6 ?_ ?_
 replace h:=h7
 clear h7
 refine zr ?_
 obtain ⟨r9,h10,h⟩:=zB h
 refine zc (drosslaw56_awake_con  _ h10) ?_
 refine zU ?_
 rcases zI h with ⟨h11,h⟩ | ⟨h11,h⟩
 refine zw 19 false ?_
 refine zg ?_
 obtain ⟨r12,h13,h⟩:=zB h
 refine zc (drosslaw56_few_con l2 _ h13) ?_
 refine zg ?_
 refine zU ?_
 rcases zI h with ⟨h14,h⟩ | ⟨h14,h⟩
 refine zw 24 false ?_
 refine zg ?_
 refine zg ?_
 refine zU ?_
 rcases zI h with ⟨h15,h⟩ | ⟨h15,h⟩
 refine zw 28 true ?_
 refine zh ?_
 refine zU ?_
 refine zh ?_
 refine zU (zl ?_)
 cases h
 exact ⟨rfl,zE⟩
 refine zw 28 false ?_
 refine zg ?_
 refine zg ?_
 refine zg ?_
 refine zg ?_
 refine zg ?_
 rcases zI h with ⟨h16,h⟩ | ⟨h16,h⟩
 refine zw 33 true ?_
 refine zg ?_
 refine zg ?_
 refine zg ?_
 refine zg ?_
 refine zg ?_
 refine zU ?_
 rcases zI h with ⟨h17,h⟩ | ⟨h17,h⟩
 refine zw 40 true ?_
 refine zh ?_
 refine zU (zl ?_)
 cases h
 exact ⟨rfl,zE⟩
 replace h:=h.symm
 refine zw 40 false ?_
 refine zg ?_
 refine zg ?_
 refine zg ?_
 refine zg ?_
 refine zU (zl ?_)
 cases h
 exact ⟨rfl,zE⟩
 replace h:=h.symm
 refine zw 33 false ?_
 refine zh ?_
 refine zg ?_
 refine zU ?_
 refine zg ?_
 refine zg ?_
 refine zg ?_
 refine zg ?_
 refine zU (zl ?_)
 cases h
 exact ⟨rfl,zE⟩
 refine zw 24 true ?_
 refine zh ?_
 refine zU ?_
 refine zh ?_
 refine zU ?_
 refine zh ?_
 refine zU (zl ?_)
 cases h
 exact ⟨rfl,zE⟩
 refine zw 19 true ?_
 refine zh ?_
 refine zU ?_
 refine zh ?_
 refine zU ?_
 refine zh ?_
 refine zU ?_
 refine zh ?_
 refine zU (zl ?_)
 cases h
 exact ⟨rfl,zE⟩
 try simp only at h
 refine zA (zn ?_)
 rcases zI h with ⟨h18,h⟩ | ⟨h18,h⟩
 refine zi (zs (zr ?_))
 obtain ⟨r19,h20,h⟩:=zB h
 refine zc (drosslaw56_awake_con  _ h20) ?_
 refine zU (zl (zn (zq (zt ?_))))
 cases h
 exact zT Tryz.results11
 refine zj (zk (zn (zs (zr ?_))))
 refine zU ?_
 obtain ⟨r21,h22,h⟩:=zB h
 refine zc (linkage_Matches_con t1 l2 _ h22) ?_
 refine zU (zl (zn (zs (zr ?_))))
 refine zU ?_
 obtain ⟨r23,h24,h⟩:=zB h
 refine zc (linkage_Clusters_con t1 l2 _ h24) ?_
 refine zU (zl (zn (zs (zr ?_))))
 refine zU ?_
 obtain ⟨r25,h26,h⟩:=zB h
 refine zc (linkage_Link_con t1 l2 _ h26) ?_
 refine zU (zl (zn (zs (zr ?_))))
 refine zU ?_
 obtain ⟨r27,h28,h⟩:=zB h
 refine zc (linkage_Explain_con t1 l2 1 2 _ h28) ?_
 refine zU (zl (zn (zs (zr ?_))))
 refine zU ?_
 rcases zI h with ⟨h29,h⟩ | ⟨h29,h⟩
 refine zw 74 true ?_
 refine zg ?_
 refine zg ?_
 refine zg ?_
 refine zU ?_
 rcases zI h with ⟨h30,h⟩ | ⟨h30,h⟩
 refine zw 79 true ?_
 refine zg ?_
 refine zg ?_
 refine zg ?_
 refine zU ?_
 rcases zI h with ⟨h31,h⟩ | ⟨h31,h⟩
 refine zw 84 true ?_
 refine zg ?_
 refine zg ?_
 refine zg ?_
 refine zU ?_
 rcases zI h with ⟨h32,h⟩ | ⟨h32,h⟩
 replace h:=h.symm
 refine zw 89 true ?_
 refine zg ?_
 refine zg ?_
 refine zg ?_
 refine zg ?_
 refine zg ?_
 refine zg ?_
 refine zg ?_
 refine zg ?_
 refine zg ?_
 refine zg ?_
 refine zg ?_
 refine zg ?_
 refine zU (zl (zn (zq ?_)))
 cases h
 exact zT Tryz.results11
 refine zw 89 false ?_
 refine zh ?_
 refine zU (zl (zn (zq ?_)))
 cases h
 exact zT Tryz.results11
 refine zw 84 false ?_
 refine zh ?_
 refine zU ?_
 refine zh ?_
 refine zU (zl (zn (zq ?_)))
 cases h
 exact zT Tryz.results11
 refine zw 79 false ?_
 refine zh ?_
 refine zU ?_
 refine zh ?_
 refine zU ?_
 refine zh ?_
 refine zU (zl (zn (zq ?_)))
 cases h
 exact zT Tryz.results11
 refine zw 74 false ?_
 refine zh ?_
 refine zU ?_
 refine zh ?_
 refine zU ?_
 refine zh ?_
 refine zU ?_
 refine zh ?_
 refine zU (zl (zn (zq ?_)))
 cases h
 exact zT Tryz.results11
end Go.Proofs.YtmlegeeinnkhkaaGreat
