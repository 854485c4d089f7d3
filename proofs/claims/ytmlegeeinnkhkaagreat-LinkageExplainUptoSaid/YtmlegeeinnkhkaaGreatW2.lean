/- Each function of the program computes what its Lean function says, where that has a value. -/
import Derived.Test.YtmlegeeinnkhkaaGreatW1
set_option linter.unusedVariables false
set_option linter.unusedSimpArgs false
namespace Go.Proofs.YtmlegeeinnkhkaaGreat
open Go Go.Ab
set_option maxRecDepth 20000 in
set_option maxHeartbeats 4000000 in
theorem linkage_places_con {D:Prop} (d1:List (List Int)) (r2:(List (Int×Int))×Int×Bool) (h:linkage_places d1=some r2):Con D Tryz.prog 68 [(.slc (List.map (encL (PV.int .i64)) d1))] (.tup [(.mapv (encK (PV.int .i64) r2.1) (encW (PV.int .i64) r2.1)),(.int .i64 r2.2.1),(.bool r2.2.2)]):=by
 refine zP Tryz.call68 Tryz.func68 rfl Tryz.ntmps68 fun X w hT=>?_
 simp only [linkage_places] at h
 refine zs (zr ?_)
 refine zU (zl (zn (zs (zr ?_))))
 refine zU (zl (zn (zs (zr ?_))))
 refine zU (zl (zn (zs (zs (zr ?_)))))
 refine zU (zl (zn (zb ?_)))
 obtain ⟨o3,h4,h⟩:=zB h
 refine zO (fun (s:(List (Int×Int))×Int×Int)=>⟨[(5,.mapo 15 1),(6,.p (.int .i64 s.2.1)),(16,.p (.slc (List.map (encL (PV.int .i64)) d1))),(17,.p (.int .i64 (d1.length:Int))),(18,.p (.int .i64 s.2.2))],[(15,.map 1 (List.map AV.p (encK (PV.int .i64) s.1)) (List.map AV.p (encW (PV.int .i64) s.1)))]⟩) (fun (o:((List (Int×Int))×Int) ⊕ ((List (Int×Int))×Int×Bool))=>match o with | .inl o5=>tE (cX Tryz.f68 X w D hT) (.exit 0) ⟨[(5,.mapo 15 1),(6,.p (.int .i64 o5.2))],[(15,.map 1 (List.map AV.p (encK (PV.int .i64) o5.1)) (List.map AV.p (encW (PV.int .i64) o5.1)))]⟩ | .inr o6=>tR Tryz.prog Tryz.f68 (.tup [(.mapv (encK (PV.int .i64) o6.1) (encW (PV.int .i64) o6.1)),(.int .i64 o6.2.1),(.bool o6.2.2)])) h4 ?_ ?_
 clear h h4
 intro s x h
 obtain ⟨o7,p8,t9⟩:=s
 simp only [linkage_places_l4] at h
 dsimp only
 refine zs (zr ?_)
 refine zU (zl (zn (zs ?_)))
 rcases zI h with ⟨h10,h⟩ | ⟨h10,h⟩
 refine zi (zk (zn (zs (zb (zs (zr ?_))))))
 obtain ⟨x11,h12,h12a,h12b,h⟩:=zX h
 refine zU (zl (zn (zs (zs (zr ?_)))))
 refine zU (zl (zn ?_))
 rcases zI h with ⟨h13,h⟩ | ⟨h13,h⟩
 refine zi (zs (zr ?_))
 refine zU (zl (zn (zq (zt (yr (zt ?_))))))
 cases h
 exact ⟨rfl,zT Tryz.results68⟩
 refine zj (zk (zn (zs (zr ?_))))
 refine zU (zl (zn (zs (zs (zr ?_)))))
 refine zU (zl (zn (zb ?_)))
 obtain ⟨o14,h15,h⟩:=zB h
 refine zO (fun (s:(List (Int×Int))×Int×Int)=>⟨[(5,.mapo 15 1),(6,.p (.int .i64 p8)),(7,.p (.int .i64 t9)),(8,.p (.slc (List.map (PV.int .i64) x11))),(9,.p (.int .i64 s.2.1)),(16,.p (.slc (List.map (encL (PV.int .i64)) d1))),(17,.p (.int .i64 (d1.length:Int))),(18,.p (.int .i64 t9)),(26,.p (.slc (List.map (PV.int .i64) x11))),(27,.p (.int .i64 (x11.length:Int))),(28,.p (.int .i64 s.2.2))],[(15,.map 1 (List.map AV.p (encK (PV.int .i64) s.1)) (List.map AV.p (encW (PV.int .i64) s.1)))]⟩) (fun (o:((List (Int×Int))) ⊕ ((List (Int×Int))×Int×Bool))=>match o with | .inl o16=>tE (cX Tryz.f68 X w D hT) (.exit 2) ⟨[(5,.mapo 15 1),(6,.p (.int .i64 p8)),(8,.p (.slc (List.map (PV.int .i64) x11))),(16,.p (.slc (List.map (encL (PV.int .i64)) d1))),(17,.p (.int .i64 (d1.length:Int))),(18,.p (.int .i64 t9))],[(15,.map 1 (List.map AV.p (encK (PV.int .i64) o16)) (List.map AV.p (encW (PV.int .i64) o16)))]⟩ | .inr o17=>tR Tryz.prog Tryz.f68 (.tup [(.mapv (encK (PV.int .i64) o17.1) (encW (PV.int .i64) o17.1)),(.int .i64 o17.2.1),(.bool o17.2.2)])) h15 ?_ ?_
 clear h h10 h12 h12a h12b h13 h15
 intro s x h
 obtain ⟨o18,b19,t20⟩:=s
 simp only [linkage_places_l3] at h
 dsimp only
 refine zs (zr ?_)
 refine zU (zl (zn (zs ?_)))
 rcases zI h with ⟨h21,h⟩ | ⟨h21,h⟩
 refine zi (zk (zn (zs (zb (zs (zr ?_))))))
 obtain ⟨x22,h23,h23a,h23b,h⟩:=zX h
 refine zU (zl (zn (zs (zs (zr ?_)))))
 refine zU (zl (zn (zs (zr ?_))))
 refine zU ?_
 rcases zI h with ⟨h24,h⟩ | ⟨h24,h⟩
 refine zw 39 true ?_
 refine zh ?_
 refine zU (zl (zn ?_))
 refine zi (zs (zr ?_))
 refine zU (zl (zn (zq (zt (yr (zt ?_))))))
 cases h
 exact ⟨rfl,zT Tryz.results68⟩
 refine zw 39 false ?_
 refine zg ?_
 refine zg ?_
 refine zg ?_
 refine zU (zl (zn ?_))
 rcases zI h with ⟨h25,h⟩ | ⟨h25,h⟩
 refine zi (zs (zr ?_))
 refine zU (zl (zn (zq (zt (yr (zt ?_))))))
 cases h
 exact ⟨rfl,zT Tryz.results68⟩
 refine zj (zk (zn (zs (zr ?_))))
 refine zU (zl (zn (zr ?_)))
 refine zU (zl (yn (zn (zr ?_))))
 refine zU (zl ?_)
 cases h
 exact ⟨rfl,zE⟩
 refine zj (zx (ze ?_))
 cases h
 exact ⟨rfl,zE⟩
 rcases o14 with o26 | r27
 try simp only at h
 refine zA (yh (zn (zs (zr ?_))))
 refine zU (zl (zn (zr ?_)))
 refine zU (zl (yn (zn (zr ?_))))
 refine zU (zl ?_)
 cases h
 exact ⟨rfl,zE⟩
 try simp only at h
 refine zZ fun s hq=>?_
 refine yr (zt (yr (zt ?_)))
 cases h
 refine ⟨rfl,?_⟩
 exact hq
 refine zj (zx (ze ?_))
 cases h
 exact ⟨rfl,zE⟩
 rcases o3 with ⟨o28,p29⟩ | r30
 try simp only at h
 refine zA (yh (zn (zs (zr ?_))))
 refine zU (zl (zn (zq ?_)))
 cases h
 exact zT Tryz.results68
 try simp only at h
 refine zZ fun s hq=>?_
 refine yr (zt ?_)
 cases h
 exact hq
set_option maxRecDepth 20000 in
set_option maxHeartbeats 4000000 in
theorem linkage_Precision_con {D:Prop} (f1:List (List Int)) (t2:List (List Int)) (r3:Ratio×Int) (h:linkage_Precision f1 t2=some r3):Con D Tryz.prog 30 [(.slc (List.map (encL (PV.int .i64)) f1)),(.slc (List.map (encL (PV.int .i64)) t2))] (.tup [(encRatio r3.1),(.int .i64 r3.2)]):=by
 refine zP Tryz.call30 Tryz.func30 rfl Tryz.ntmps30 fun X w hT=>?_
 simp only [linkage_Precision] at h
 refine zs (zr ?_)
 refine zU (zl (zn (zs (zr ?_))))
 refine zU ?_
 obtain ⟨r4,h5,h⟩:=zB h
 refine zc (linkage_places_con f1 _ h5) ?_
 refine zU (zl (zn (zs (zr ?_))))
 refine zU ?_
 obtain ⟨r6,h7,h⟩:=zB h
 refine zc (linkage_places_con t2 _ h7) ?_
 refine zU (zl (zn (zs (zs (zr ?_)))))
 refine zU ?_
 rcases zI h with ⟨h8,h⟩ | ⟨h8,h⟩
 refine zw 34 false ?_
 refine zg ?_
 refine zg ?_
 refine zU (zl (zn ?_))
 rcases zI h with ⟨h9,h⟩ | ⟨h9,h⟩
 refine zj (zk (zn (zs (zs (zr ?_)))))
 refine zU (zl (zn ?_))
 rcases zI h with ⟨h10,h⟩ | ⟨h10,h⟩
 refine zi (zs (zr ?_))
 refine zU (zl (zn (zq (zt ?_))))
 cases h
 exact zT Tryz.results30
 refine zj (zk (zn (zs (zr ?_))))
 refine zU (zl (zn (zs (zs (zr ?_)))))
 refine zU (zl (zn (zb ?_)))
 obtain ⟨b11,h12,h⟩:=zB h
 refine zO (fun (s:Int×Int)=>⟨[(4,.loc 4 1 0 0),(7,.p (.int .i64 r4.2.1)),(9,.p (.mapv (encK (PV.int .i64) r6.1) (encW (PV.int .i64) r6.1))),(12,.p (.int .i64 s.1)),(42,.p (.slc (List.map (encL (PV.int .i64)) f1))),(43,.p (.int .i64 (f1.length:Int))),(44,.p (.int .i64 s.2))],[(4,.arr 76 2 1 [.p (.agg [.int .i64 0,.int .i64 0])])]⟩) (fun (o13:Int)=>tE (cX Tryz.f30 X w D hT) (.exit 0) ⟨[(4,.loc 4 1 0 0),(7,.p (.int .i64 r4.2.1)),(12,.p (.int .i64 o13))],[(4,.arr 76 2 1 [.p (.agg [.int .i64 0,.int .i64 0])])]⟩) h12 ?_ ?_
 clear h h5 h7 h8 h9 h10 h12
 intro s x h
 obtain ⟨b14,t15⟩:=s
 simp only [linkage_Precision_l4] at h
 dsimp only
 refine zs (zr ?_)
 refine zU (zl (zn (zs ?_)))
 rcases zI h with ⟨h16,h⟩ | ⟨h16,h⟩
 refine zi (zk (zn (zs (zb (zs (zr ?_))))))
 obtain ⟨x17,h18,h18a,h18b,h⟩:=zX h
 refine zU (zl (zn (zs (zr ?_))))
 refine zU (zl (zn (zs (zr ?_))))
 refine zU (zl (zn (zb ?_)))
 obtain ⟨b19,h20,h⟩:=zB h
 refine zO (fun (s:Int×(List (Int×Int))×Int)=>⟨[(4,.loc 4 1 0 0),(7,.p (.int .i64 r4.2.1)),(9,.p (.mapv (encK (PV.int .i64) r6.1) (encW (PV.int .i64) r6.1))),(12,.p (.int .i64 s.1)),(15,.mapo 48 1),(42,.p (.slc (List.map (encL (PV.int .i64)) f1))),(43,.p (.int .i64 (f1.length:Int))),(44,.p (.int .i64 t15)),(49,.p (.slc (List.map (PV.int .i64) x17))),(50,.p (.int .i64 (x17.length:Int))),(51,.p (.int .i64 s.2.2))],[(4,.arr 76 2 1 [.p (.agg [.int .i64 0,.int .i64 0])]),(48,.map 1 (List.map AV.p (encK (PV.int .i64) s.2.1)) (List.map AV.p (encW (PV.int .i64) s.2.1)))]⟩) (fun (o21:Int)=>tE (cX Tryz.f30 X w D hT) (.exit 2) ⟨[(4,.loc 4 1 0 0),(7,.p (.int .i64 r4.2.1)),(9,.p (.mapv (encK (PV.int .i64) r6.1) (encW (PV.int .i64) r6.1))),(12,.p (.int .i64 o21)),(42,.p (.slc (List.map (encL (PV.int .i64)) f1))),(43,.p (.int .i64 (f1.length:Int))),(44,.p (.int .i64 t15))],[(4,.arr 76 2 1 [.p (.agg [.int .i64 0,.int .i64 0])])]⟩) h20 ?_ ?_
 clear h h16 h18 h18a h18b h20
 intro s x h
 obtain ⟨b22,c23,t24⟩:=s
 simp only [linkage_Precision_l3] at h
 dsimp only
 refine zs (zr ?_)
 refine zU (zl (zn (zs ?_)))
 rcases zI h with ⟨h25,h⟩ | ⟨h25,h⟩
 refine zi (zk (zn (zs (zb (zs (zr ?_))))))
 obtain ⟨x26,h27,h27a,h27b,h⟩:=zX h
 refine zU (zl (zn (zs (zr ?_))))
 refine zU (zl (zn (zs (zr ?_))))
 refine zU (zl (zn ?_))
 rcases zI h with ⟨h28,h⟩ | ⟨h28,h⟩
 refine zi (zs (zr ?_))
 refine zU (zl (zn (zr ?_)))
 refine zU (zl (yn (zn (zr ?_))))
 refine zU (zl ?_)
 cases h
 exact ⟨rfl,zE⟩
 refine zj (zk (yn (zn (zr ?_))))
 refine zU (zl ?_)
 cases h
 exact ⟨rfl,zE⟩
 refine zj (zx (ze ?_))
 cases h
 exact ⟨rfl,zE⟩
 try simp only at h
 refine zA (yh (yn (zn (zr ?_))))
 refine zU (zl ?_)
 cases h
 exact ⟨rfl,zE⟩
 refine zj (zx (ze ?_))
 cases h
 exact ⟨rfl,zE⟩
 try simp only at h
 refine zA (yh (zn (zs (zr ?_))))
 refine zU ?_
 obtain ⟨r29,h30,h⟩:=zB h
 refine zc (ratio_Make_con b11 r4.2.1 _ h30) ?_
 refine zU (zl (zn (zq ?_)))
 cases h
 exact zT Tryz.results30
 refine zi (zs (zr ?_))
 refine zU (zl (zn (zq (zt ?_))))
 cases h
 exact zT Tryz.results30
 refine zw 34 true ?_
 refine zh ?_
 refine zU (zl (zn ?_))
 refine zi (zs (zr ?_))
 refine zU (zl (zn (zq (zt ?_))))
 cases h
 exact zT Tryz.results30
set_option maxHeartbeats 4000000 in
theorem linkage_Recall_con {D:Prop} (f1:List (List Int)) (t2:List (List Int)) (r3:Ratio×Int) (h:linkage_Recall f1 t2=some r3):Con D Tryz.prog 32 [(.slc (List.map (encL (PV.int .i64)) f1)),(.slc (List.map (encL (PV.int .i64)) t2))] (.tup [(encRatio r3.1),(.int .i64 r3.2)]):=by
 refine zP Tryz.call32 Tryz.func32 rfl Tryz.ntmps32 fun X w hT=>?_
 simp only [linkage_Recall] at h
 refine zs (zr ?_)
 refine zU (zl (zn (zs (zr ?_))))
 refine zU ?_
 obtain ⟨r4,h5,h⟩:=zB h
 refine zc (linkage_Precision_con t2 f1 _ h5) ?_
 refine zU (zl (zn (zq ?_)))
 cases h
 exact zT Tryz.results32
set_option maxHeartbeats 4000000 in
theorem drosslaw56_example_con {D:Prop} (r1:Table×Linkage) (h:drosslaw56_example=some r1):Con D Tryz.prog 39 [] (.tup [(encTable r1.1),(encLinkage r1.2)]):=by
 refine zP Tryz.call39 Tryz.func39 rfl Tryz.ntmps39 fun X w hT=>?_
 simp only [drosslaw56_example] at h
 refine zs (zr ?_)
 refine zU (zl (zn (zs (zr ?_))))
 refine zU (zl (zn (zs (zs (zr ?_)))))
 refine zU (zl (zn (zb ?_)))
 refine zL ⟨[(0,.loc 0 1 0 0),(1,.loc 1 1 0 0),(2,.loc 2 1 0 0),(7,.own 7 1 0 4),(8,.p (.int .i64 4)),(9,.p (.int .i64 0))],[(0,.arr 41 3 1 [.agg [.p (.str []),.nils,.nils]]),(1,.arr 25 3 1 [.agg [.nils,.nils,.nils]]),(2,.arr 41 3 1 [.agg [.p (.str [112]),.own 5 1 0 1,.nils]]),(5,.arr 9 1 1 [.p (.str [110,97,109,101])]),(7,.arr 9 1 1 [.p (.str [97,110,110]),.p (.str [97,110,110,101]),.p (.str [97,110,110,101,115]),.p (.str [98,111,98])])]⟩ ?_
 obtain ⟨l2,h3,h⟩:=zB h
 replace h3:=Option.some.inj h3
 refine awp_le (st':=⟨[(0,.loc 0 1 0 0),(1,.loc 1 1 0 0),(2,.loc 2 1 0 0),(7,.own 7 1 0 l2.length),(8,.p (.int .i64 4)),(9,.p (.int .i64 0))],[(0,.arr 41 3 1 [.agg [.p (.str []),.nils,.nils]]),(1,.arr 25 3 1 [.agg [.nils,.nils,.nils]]),(2,.arr 41 3 1 [.agg [.p (.str [112]),.own 5 1 0 1,.nils]]),(5,.arr 9 1 1 [.p (.str [110,97,109,101])]),(7,.arr 9 1 1 (List.map AV.p (List.map PV.str l2)))]⟩) (by simp only [go_sem,seval,←h3];all_goals ((repeat' refine And.intro ?_ ?_) <;> first | rfl | (simp;done) | (simp;rfl) | (simp [*];done) | (simp [*];rfl))) ?_
 have h3n:l2.length=4:=by rw [←h3];rfl
 clear h3
 obtain ⟨t4,h5,h⟩:=zB h
 refine zO (fun (s:List Row×Int)=>⟨[(0,.loc 0 1 0 0),(1,.loc 1 1 0 0),(2,.loc 2 1 0 0),(7,.own 7 1 0 l2.length),(8,.p (.int .i64 4)),(9,.p (.int .i64 s.2))],[(0,.arr 41 3 1 [.agg [.p (.str []),.nils,.nils]]),(1,.arr 25 3 1 [.agg [.nils,.nils,.nils]]),(2,.arr 41 3 1 [.agg [.p (.str [112]),.own 5 1 0 ([[110,97,109,101]]).length,.own 23 1 0 s.1.length]]),(5,.arr 9 1 1 (List.map AV.p (List.map PV.str [[110,97,109,101]]))),(7,.arr 9 1 1 (List.map AV.p (List.map PV.str l2))),(23,.arr 66 2 1 (List.map AV.p (List.map encRow s.1)))]⟩) (fun (o6:List Row)=>tE (cX Tryz.f39 X w D hT) (.exit 0) ⟨[(0,.loc 0 1 0 0),(1,.loc 1 1 0 0),(2,.loc 2 1 0 0)],[(0,.arr 41 3 1 [.agg [.p (.str []),.nils,.nils]]),(1,.arr 25 3 1 [.agg [.nils,.nils,.nils]]),(2,.arr 41 3 1 [.agg [.p (.str [112]),.own 5 1 0 ([[110,97,109,101]]).length,.own 23 1 0 o6.length]]),(5,.arr 9 1 1 (List.map AV.p (List.map PV.str [[110,97,109,101]]))),(23,.arr 66 2 1 (List.map AV.p (List.map encRow o6)))]⟩) h5 ?_ ?_
 clear h h3n h5
 intro s x h
 obtain ⟨t7,t8⟩:=s
 simp only [drosslaw56_example_l1] at h
 dsimp only
 refine zs (zr ?_)
 refine zU (zl (zn (zs ?_)))
 rcases zI h with ⟨h9,h⟩ | ⟨h9,h⟩
 refine zi (zk (zn (zs (zb (zs (zr ?_))))))
 obtain ⟨x10,h11,h11a,h11b,h⟩:=zX h
 refine zU (zl (zn (zr ?_)))
 refine zW 9 ?_
 refine zM ⟨[(0,.loc 0 1 0 0),(1,.loc 1 1 0 0),(2,.loc 2 1 0 0),(7,.own 7 1 0 l2.length),(8,.p (.int .i64 4)),(9,.p (.int .i64 t8)),(15,.own 23 1 0 t7.length),(22,.own 22 1 0 1)],[(0,.arr 41 3 1 [.agg [.p (.str []),.nils,.nils]]),(1,.arr 25 3 1 [.agg [.nils,.nils,.nils]]),(2,.arr 41 3 1 [.agg [.p (.str [112]),.own 5 1 0 ([[110,97,109,101]]).length,.own 23 1 0 t7.length]]),(5,.arr 9 1 1 (List.map AV.p (List.map PV.str [[110,97,109,101]]))),(7,.arr 9 1 1 (List.map AV.p (List.map PV.str l2))),(22,.arr 66 2 1 [.p (.agg [.int .i64 (IntKind.i64.wrap (t8+1)),.slc (List.map encValue [(Value.mk 2 0 x10)])])]),(23,.arr 66 2 1 (List.map AV.p (List.map encRow t7)))]⟩ ?_
 obtain ⟨h12,h⟩:=ite_some h
 refine zU (zl (yn (zn (zr ?_))))
 refine zU (zl ?_)
 cases h
 exact ⟨rfl,zE⟩
 refine zj (zx (ze ?_))
 cases h
 exact ⟨rfl,zE⟩
 try simp only at h
 refine zA (yh (zn (zs (zr ?_))))
 refine zU (zl (zn (zq ?_)))
 cases h
 exact zT Tryz.results39
set_option maxHeartbeats 4000000 in
theorem drossref04_zero_con {D:Prop} (a1:Drossref04_Wide) (r2:Bool) (h:drossref04_zero a1=some r2):Con D Tryz.prog 191 [(encDrossref04_Wide a1)] (.bool r2):=by
 refine zP Tryz.call191 Tryz.func191 rfl Tryz.ntmps191 fun X w hT=>?_
 simp only [drossref04_zero] at h
 refine zs (zr ?_)
 refine zU (zl (zn (zs (zr ?_))))
 refine zU ?_
 rcases zI h with ⟨h3,h⟩ | ⟨h3,h⟩
 replace h:=h.symm
 refine zw 6 true ?_
 refine zg ?_
 refine zg ?_
 refine zg ?_
 refine zU (zl (zn (zq ?_)))
 cases h
 exact zT Tryz.results191
 refine zw 6 false ?_
 refine zh ?_
 refine zU (zl (zn (zq ?_)))
 cases h
 exact zT Tryz.results191
set_option maxRecDepth 20000 in
set_option maxHeartbeats 4000000 in
theorem drossref04_less_con {D:Prop} (a1:Drossref04_Wide) (b2:Drossref04_Wide) (r3:Bool) (h:drossref04_less a1 b2=some r3):Con D Tryz.prog 193 [(encDrossref04_Wide a1),(encDrossref04_Wide b2)] (.bool r3):=by
 refine zP Tryz.call193 Tryz.func193 rfl Tryz.ntmps193 fun X w hT=>?_
 simp only [drossref04_less] at h
 refine zs (zr ?_)
 refine zU (zl (zn (zs (zr ?_))))
 refine zU ?_
 rcases zI h with ⟨h4,h⟩ | ⟨h4,h⟩
 refine zw 10 true ?_
 refine zh ?_
 refine zU (zl (zn (zq ?_)))
 cases h
 exact zT Tryz.results193
 refine zw 10 false ?_
 refine zg ?_
 refine zg ?_
 refine zg ?_
 refine zg ?_
 refine zg ?_
 refine zg ?_
 rcases zI h with ⟨h5,h⟩ | ⟨h5,h⟩
 replace h:=h.symm
 refine zw 16 true ?_
 refine zg ?_
 refine zg ?_
 refine zg ?_
 refine zg ?_
 refine zg ?_
 refine zg ?_
 refine zU (zl (zn (zq ?_)))
 cases h
 exact zT Tryz.results193
 replace h:=h.symm
 refine zw 16 false ?_
 refine zh ?_
 refine zg ?_
 refine zU (zl (zn (zq ?_)))
 cases h
 exact zT Tryz.results193
set_option maxHeartbeats 4000000 in
theorem drossref04_plus_con {D:Prop} (a1:Drossref04_Wide) (b2:Drossref04_Wide) (r3:Drossref04_Wide) (h:drossref04_plus a1 b2=some r3):Con D Tryz.prog 228 [(encDrossref04_Wide a1),(encDrossref04_Wide b2)] (encDrossref04_Wide r3):=by
 refine zP Tryz.call228 Tryz.func228 rfl Tryz.ntmps228 fun X w hT=>?_
 simp only [drossref04_plus] at h
 refine zs (zr ?_)
 refine zU (zl (zn (zs (zr ?_))))
 refine zU ?_
 obtain ⟨r4,h5,h⟩:=zB h
 refine zE3 (add_run ext248 h5) ?_
 refine zU (zl (zn (zs (zr ?_))))
 refine zU ?_
 obtain ⟨r6,h7,h⟩:=zB h
 refine zE3 (add_run ext248 h7) ?_
 refine zU (zl (zn (zs (zr ?_))))
 refine zU (zl (zn (zq ?_)))
 cases h
 exact zT Tryz.results228
set_option maxHeartbeats 4000000 in
theorem drossref04_minus_con {D:Prop} (a1:Drossref04_Wide) (b2:Drossref04_Wide) (r3:Drossref04_Wide) (h:drossref04_minus a1 b2=some r3):Con D Tryz.prog 229 [(encDrossref04_Wide a1),(encDrossref04_Wide b2)] (encDrossref04_Wide r3):=by
 refine zP Tryz.call229 Tryz.func229 rfl Tryz.ntmps229 fun X w hT=>?_
 simp only [drossref04_minus] at h
 refine zs (zr ?_)
 refine zU (zl (zn (zs (zr ?_))))
 refine zU ?_
 obtain ⟨r4,h5,h⟩:=zB h
 refine zE3 (sub_run ext249 h5) ?_
 refine zU (zl (zn (zs (zr ?_))))
 refine zU ?_
 obtain ⟨r6,h7,h⟩:=zB h
 refine zE3 (sub_run ext249 h7) ?_
 refine zU (zl (zn (zs (zr ?_))))
 refine zU (zl (zn (zq ?_)))
 cases h
 exact zT Tryz.results229
set_option maxRecDepth 20000 in
set_option maxHeartbeats 4000000 in
theorem drossref04_parts_con {D:Prop} (a1:Drossref04_Wide) (b2:Drossref04_Wide) (r3:Drossref04_Wide×Drossref04_Wide) (h:drossref04_parts a1 b2=some r3):Con D Tryz.prog 192 [(encDrossref04_Wide a1),(encDrossref04_Wide b2)] (.tup [(encDrossref04_Wide r3.1),(encDrossref04_Wide r3.2)]):=by
 refine zP Tryz.call192 Tryz.func192 rfl Tryz.ntmps192 fun X w hT=>?_
 simp only [drossref04_parts] at h
 refine zs (zr ?_)
 refine zU (zl (zn (zs (zr ?_))))
 refine zU (zl (zn (zs (zs (zr ?_)))))
 refine zU (zl (zn (zb ?_)))
 obtain ⟨o4,h5,h⟩:=zB h
 refine zO (fun (s:Drossref04_Wide×Drossref04_Wide×Int)=>⟨[(2,.loc 2 1 0 0),(3,.loc 3 1 0 0),(4,.loc 4 1 0 0),(5,.loc 5 1 0 0),(6,.loc 6 1 0 0),(7,.loc 7 1 0 0),(8,.p (.int .i64 s.2.2))],[(2,.arr 191 2 1 [.p (encDrossref04_Wide a1)]),(3,.arr 191 2 1 [.p (encDrossref04_Wide b2)]),(4,.arr 191 2 1 [.p (.agg [.int .u64 0,.int .u64 0])]),(5,.arr 191 2 1 [.p (.agg [.int .u64 0,.int .u64 0])]),(6,.arr 191 2 1 [.p (encDrossref04_Wide s.1)]),(7,.arr 191 2 1 [.p (encDrossref04_Wide s.2.1)])]⟩) (fun (o6:Drossref04_Wide×Drossref04_Wide)=>tE (cX Tryz.f192 X w D hT) (.exit 0) ⟨[(4,.loc 4 1 0 0),(5,.loc 5 1 0 0),(6,.loc 6 1 0 0),(7,.loc 7 1 0 0)],[(4,.arr 191 2 1 [.p (.agg [.int .u64 0,.int .u64 0])]),(5,.arr 191 2 1 [.p (.agg [.int .u64 0,.int .u64 0])]),(6,.arr 191 2 1 [.p (encDrossref04_Wide o6.1)]),(7,.arr 191 2 1 [.p (encDrossref04_Wide o6.2)])]⟩) h5 ?_ ?_
 clear h h5
 intro s x h
 obtain ⟨q7,r8,i9⟩:=s
 simp only [drossref04_parts_l1] at h
 dsimp only
 refine zs (zs (zr ?_))
 refine zU (zl (zn ?_))
 rcases zI h with ⟨h10,h⟩ | ⟨h10,h⟩
 refine zi (zk (zn (zs (zb (zs (zr ?_))))))
 refine zU (zl (zn (zs (zs (zr ?_)))))
 refine zU (zl (zn ?_))
 rcases zI h with ⟨h11,h⟩ | ⟨h11,h⟩
 refine zi (zr ?_)
 refine zU (zl (zn (zs (zr ?_))))
 refine zU ?_
 obtain ⟨r12,h13,h⟩:=zB h
 refine zc (drossref04_plus_con r8 r8 _ h13) ?_
 refine zU (zl (zn (zs (zd ?_))))
 obtain ⟨h14,h⟩:=ite_none h
 refine yU ?_
 refine yd (zn (zs (zr ?_)))
 refine zU ?_
 obtain ⟨r15,h16,h⟩:=zB h
 refine zc (drossref04_plus_con q7 q7 _ h16) ?_
 refine zU (zl (zn (zs (zr ?_))))
 refine zU ?_
 obtain ⟨r17,h18,h⟩:=zB h
 refine zc (drossref04_less_con (Drossref04_Wide.mk r12.Hi (IntKind.u64.wrap (r12.Lo+(Int.tmod (Int.fdiv a1.Hi (2 ^ (min ((Int.tmod i9 64)).toNat 64))) 2)))) b2 _ h18) ?_
 refine zU (zl (zn ?_))
 rcases zI h with ⟨h19,h⟩ | ⟨h19,h⟩
 refine zj (zk (yn (zn (zr ?_))))
 refine zU (zl ?_)
 cases h
 exact ⟨rfl,zE⟩
 refine zi (zs (zr ?_))
 refine zU ?_
 obtain ⟨r20,h21,h⟩:=zB h
 refine zc (drossref04_minus_con (Drossref04_Wide.mk r12.Hi (IntKind.u64.wrap (r12.Lo+(Int.tmod (Int.fdiv a1.Hi (2 ^ (min ((Int.tmod i9 64)).toNat 64))) 2)))) b2 _ h21) ?_
 refine zU (zl (zn (zr ?_)))
 refine zU (zl (yn (zn (zr ?_))))
 refine zU (zl ?_)
 cases h
 exact ⟨rfl,zE⟩
 refine zj (zk (zn (zs (zr ?_))))
 refine zU ?_
 obtain ⟨r22,h23,h⟩:=zB h
 refine zc (drossref04_plus_con r8 r8 _ h23) ?_
 refine zU (zl (zn (zs (zd ?_))))
 obtain ⟨h24,h⟩:=ite_none h
 refine yU ?_
 refine yd (zn (zs (zr ?_)))
 refine zU ?_
 obtain ⟨r25,h26,h⟩:=zB h
 refine zc (drossref04_plus_con q7 q7 _ h26) ?_
 refine zU (zl (zn (zs (zr ?_))))
 refine zU ?_
 obtain ⟨r27,h28,h⟩:=zB h
 refine zc (drossref04_less_con (Drossref04_Wide.mk r22.Hi (IntKind.u64.wrap (r22.Lo+(Int.tmod (Int.fdiv a1.Lo (2 ^ (min ((Int.tmod i9 64)).toNat 64))) 2)))) b2 _ h28) ?_
 refine zU (zl (zn ?_))
 rcases zI h with ⟨h29,h⟩ | ⟨h29,h⟩
 refine zj (zk (yn (zn (zr ?_))))
 refine zU (zl ?_)
 cases h
 exact ⟨rfl,zE⟩
 refine zi (zs (zr ?_))
 refine zU ?_
 obtain ⟨r30,h31,h⟩:=zB h
 refine zc (drossref04_minus_con (Drossref04_Wide.mk r22.Hi (IntKind.u64.wrap (r22.Lo+(Int.tmod (Int.fdiv a1.Lo (2 ^ (min ((Int.tmod i9 64)).toNat 64))) 2)))) b2 _ h31) ?_
 refine zU (zl (zn (zr ?_)))
 refine zU (zl (yn (zn (zr ?_))))
 refine zU (zl ?_)
 cases h
 exact ⟨rfl,zE⟩
 refine zj (zx (ze ?_))
 cases h
 exact ⟨rfl,zE⟩
 obtain ⟨q32,r33⟩:=o4
 try simp only at h
 refine zA (yh (zn (zs (zd ?_))))
 refine yU ?_
 refine yd (zn (zq ?_))
 cases h
 exact zT Tryz.results192
set_option maxHeartbeats 4000000 in
theorem drossref04_build_con {D:Prop} (n1:Bool) (n2:Drossref04_Wide) (d3:Drossref04_Wide) (r4:Ratio×Int) (h:drossref04_build n1 n2 d3=some r4):Con D Tryz.prog 132 [(.bool n1),(encDrossref04_Wide n2),(encDrossref04_Wide d3)] (.tup [(encRatio r4.1),(.int .i64 r4.2)]):=by
 refine zP Tryz.call132 Tryz.func132 rfl Tryz.ntmps132 fun X w hT=>?_
 simp only [drossref04_build] at h
 refine zs (zr ?_)
 refine zU (zl (zn (zs (zd ?_))))
 refine yU ?_
 refine yd (zn (zs (zb ?_)))
 obtain ⟨x5,h6,h⟩:=zB h
 refine zO (fun (s:Drossref04_Wide×Drossref04_Wide)=>⟨[(0,.p (.bool n1)),(4,.loc 4 1 0 0),(5,.loc 5 1 0 0),(6,.loc 6 1 0 0),(8,.loc 8 1 0 0),(9,.loc 9 1 0 0)],[(4,.arr 191 2 1 [.p (encDrossref04_Wide n2)]),(5,.arr 191 2 1 [.p (encDrossref04_Wide d3)]),(6,.arr 76 2 1 [.p (.agg [.int .i64 0,.int .i64 0])]),(8,.arr 191 2 1 [.p (encDrossref04_Wide s.1)]),(9,.arr 191 2 1 [.p (encDrossref04_Wide s.2)])]⟩) (fun (o7:Drossref04_Wide)=>tE (cX Tryz.f132 X w D hT) (.exit 0) ⟨[(0,.p (.bool n1)),(4,.loc 4 1 0 0),(5,.loc 5 1 0 0),(6,.loc 6 1 0 0),(8,.loc 8 1 0 0)],[(4,.arr 191 2 1 [.p (encDrossref04_Wide n2)]),(5,.arr 191 2 1 [.p (encDrossref04_Wide d3)]),(6,.arr 76 2 1 [.p (.agg [.int .i64 0,.int .i64 0])]),(8,.arr 191 2 1 [.p (encDrossref04_Wide o7)])]⟩) h6 ?_ ?_
 clear h h6
 intro s x h
 obtain ⟨x8,y9⟩:=s
 simp only [drossref04_build_l1] at h
 dsimp only
 refine zs (zs (zr ?_))
 refine zU ?_
 obtain ⟨r10,h11,h⟩:=zB h
 refine zc (drossref04_zero_con y9 _ h11) ?_
 refine zU (zl (zn ?_))
 rcases zI h with ⟨h12,h⟩ | ⟨h12,h⟩
 refine zj (zx (ze ?_))
 cases h
 exact ⟨rfl,zE⟩
 refine zi (zk (zn (zb (zs (zr ?_)))))
 refine zU ?_
 obtain ⟨r13,h14,h⟩:=zB h
 refine zc (drossref04_parts_con x8 y9 _ h14) ?_
 refine zU (zl (zn (zd ?_)))
 refine yU ?_
 refine yd (yn ?_)
 cases h
 exact ⟨rfl,zE⟩
 try simp only at h
 refine zA (yh (zn (zs (zr ?_))))
 refine zU ?_
 obtain ⟨r15,h16,h⟩:=zB h
 refine zc (drossref04_parts_con n2 x5 _ h16) ?_
 refine zU (zl (zn (zs (zr ?_))))
 refine zU ?_
 obtain ⟨r17,h18,h⟩:=zB h
 refine zc (drossref04_parts_con d3 x5 _ h18) ?_
 refine zU (zl (zn (zs (zr ?_))))
 refine zU (zl (zn (zs (zs (zr ?_)))))
 refine zU ?_
 obtain ⟨r19,h20,h⟩:=zB h
 refine zc (drossref04_less_con (Drossref04_Wide.mk 0 9223372036854775807) r15.1 _ h20) ?_
 refine zU ?_
 rcases zI h with ⟨h21,h⟩ | ⟨h21,h⟩
 refine zw 43 true ?_
 refine zh ?_
 refine zU (zl (zn ?_))
 refine zi (zs (zr ?_))
 refine zU (zl (zn (zq (zt ?_))))
 cases h
 exact zT Tryz.results132
 refine zw 43 false ?_
 refine zg ?_
 refine zg ?_
 obtain ⟨r22,h23,h⟩:=zB h
 refine zc (drossref04_less_con (Drossref04_Wide.mk 0 9223372036854775807) r17.1 _ h23) ?_
 refine zU (zl (zn ?_))
 rcases zI h with ⟨h24,h⟩ | ⟨h24,h⟩
 refine zi (zs (zr ?_))
 refine zU (zl (zn (zq (zt ?_))))
 cases h
 exact zT Tryz.results132
 refine zj (zk (zn (zs (zr ?_))))
 refine zU (zl (zn (zs (zs (zr ?_)))))
 refine zU (zl (zn ?_))
 rcases zI h with ⟨h25,h⟩ | ⟨h25,h⟩
 refine zi (zr ?_)
 refine zU (zl (zn (zs (zr ?_))))
 refine zU (zl (zn (zq ?_)))
 cases h
 exact zT Tryz.results132
 refine zj (zk (zn (zs (zr ?_))))
 refine zU (zl (zn (zq ?_)))
 cases h
 exact zT Tryz.results132
set_option maxHeartbeats 4000000 in
theorem drossref04_size_con {D:Prop} (n1:Int) (r2:Drossref04_Wide) (h:drossref04_size n1=some r2):Con D Tryz.prog 133 [(.int .i64 n1)] (encDrossref04_Wide r2):=by
 refine zP Tryz.call133 Tryz.func133 rfl Tryz.ntmps133 fun X w hT=>?_
 simp only [drossref04_size] at h
 refine zs (zr ?_)
 refine zU (zl (zn (zs (zs (zr ?_)))))
 refine zU (zl (zn ?_))
 rcases zI h with ⟨h3,h⟩ | ⟨h3,h⟩
 refine zi (zs (zr ?_))
 refine zU (zl (zn (zq (zt ?_))))
 cases h
 exact zT Tryz.results133
 refine zj (zk (zn (zs (zr ?_))))
 refine zU (zl (zn (zq ?_)))
 cases h
 exact zT Tryz.results133
set_option maxHeartbeats 4000000 in
theorem drossref04_Make_con {D:Prop} (n1:Int) (d2:Int) (r3:Ratio×Int) (h:drossref04_Make n1 d2=some r3):Con D Tryz.prog 79 [(.int .i64 n1),(.int .i64 d2)] (.tup [(encRatio r3.1),(.int .i64 r3.2)]):=by
 refine zP Tryz.call79 Tryz.func79 rfl Tryz.ntmps79 fun X w hT=>?_
 simp only [drossref04_Make] at h
 refine zs (zr ?_)
 refine zU (zl (zn (zs (zs (zr ?_)))))
 refine zU (zl (zn ?_))
 rcases zI h with ⟨h4,h⟩ | ⟨h4,h⟩
 refine zi (zs (zr ?_))
 refine zU (zl (zn (zq (zt ?_))))
 cases h
 exact zT Tryz.results79
 refine zj (zk (zn (zs (zr ?_))))
 refine zU ?_
 obtain ⟨r5,h6,h⟩:=zB h
 refine zc (drossref04_size_con n1 _ h6) ?_
 refine zU ?_
 obtain ⟨r7,h8,h⟩:=zB h
 refine zc (drossref04_size_con d2 _ h8) ?_
 obtain ⟨r9,h10,h⟩:=zB h
 refine zc (drossref04_build_con (!((decide (n1 < 0)) == (decide (d2 < 0)))) r5 r7 _ h10) ?_
 refine zU (zl (zn (zq ?_)))
 cases h
 exact zT Tryz.results79
set_option maxHeartbeats 4000000 in
theorem drossref04_Of_con {D:Prop} (n1:Int) (d2:Int) (r3:Ratio) (h:drossref04_Of n1 d2=some r3):Con D Tryz.prog 40 [(.int .i64 n1),(.int .i64 d2)] (encRatio r3):=by
 refine zP Tryz.call40 Tryz.func40 rfl Tryz.ntmps40 fun X w hT=>?_
 simp only [drossref04_Of] at h
 refine zs (zr ?_)
 refine zU (zl (zn (zs (zr ?_))))
 refine zU ?_
 obtain ⟨r4,h5,h⟩:=zB h
 refine zc (drossref04_Make_con n1 d2 _ h5) ?_
 refine zU (zl (zn (zs (zs (zr ?_)))))
 refine zU (zl (zn ?_))
 rcases zI h with ⟨h6,h⟩ | ⟨h6,h⟩
 refine zi (zs (zr ?_))
 refine zU (zl (zn (zq (zt ?_))))
 cases h
 exact zT Tryz.results40
 refine zj (zk (zn (zs (zr ?_))))
 refine zU (zl (zn (zq ?_)))
 cases h
 exact zT Tryz.results40
set_option maxRecDepth 20000 in
set_option maxHeartbeats 4000000 in
theorem drosslaw56_awake_con  (r1:Bool) (h:drosslaw56_awake=some r1):Con False Tryz.prog 12 [] (.bool r1):=by
 refine zP Tryz.call12 Tryz.func12 rfl Tryz.ntmps12 fun X w hT=>?_
 simp only [drosslaw56_awake] at h
 refine zs (zr ?_)
 refine zU (zl (zn (zs (zr ?_))))
 obtain ⟨r2,h3,h⟩:=zB h
 refine zc (drosslaw56_example_con  _ h3) ?_
 refine zU (zl (zn (zs (zr ?_))))
 refine zU ?_
 obtain ⟨r4,h5,h⟩:=zB h
 refine zc (linkage_Matches_con r2.1 r2.2 _ h5) ?_
 refine zU (zl (zn (zs (zr ?_))))
 refine zU ?_
 obtain ⟨r6,h7,h⟩:=zB h
 refine zc (linkage_Clusters_con r2.1 r2.2 _ h7) ?_
 refine zU (zl (zn (zs (zr ?_))))
 refine zU ?_
 obtain ⟨r8,h9,h⟩:=zB h
 refine zc (linkage_Precision_con r6.1 [[1,2],[3],[4]] _ h9) ?_
 refine zU (zl (zn (zs (zr ?_))))
 refine zU ?_
 obtain ⟨r10,h11,h⟩:=zB h
 refine zc (linkage_Recall_con r6.1 [[1,2],[3],[4]] _ h11) ?_
 refine zU (zl (zn (zs (zd ?_))))
 refine yU ?_
 rcases zI h with ⟨h12,h⟩ | ⟨h12,h⟩
 refine yw 47 true ?_
 refine yg ?_
 refine yg ?_
 refine yg ?_
 refine yg ?_
 obtain ⟨r13,h14,h⟩:=zB h
 refine yc (drossref56_SamePairs_con r4.1 [(Arr2_int64.mk 1 2),(Arr2_int64.mk 2 3)] _ h14) ?_
 refine yU ?_
 rcases zI h with ⟨h15,h⟩ | ⟨h15,h⟩
 refine yw 54 true ?_
 refine yg ?_
 refine yg ?_
 refine yU ?_
 rcases zI h with ⟨h16,h⟩ | ⟨h16,h⟩
 refine yw 58 true ?_
 refine yg ?_
 refine yg ?_
 refine yg ?_
 refine yg ?_
 obtain ⟨r17,h18,h⟩:=zB h
 refine yc (drossref55_Lists_con r6.1 [[1,2,3],[4]] _ h18) ?_
 refine yU ?_
 rcases zI h with ⟨h19,h⟩ | ⟨h19,h⟩
 refine yw 65 true ?_
 refine yg ?_
 refine yg ?_
 refine yU ?_
 rcases zI h with ⟨h20,h⟩ | ⟨h20,h⟩
 refine yw 69 true ?_
 refine yg ?_
 obtain ⟨r21,h22,h⟩:=zB h
 refine yc (drossref04_Of_con 1 3 _ h22) ?_
 refine yg ?_
 refine yU ?_
 rcases zI h with ⟨h23,h⟩ | ⟨h23,h⟩
 refine yw 74 true ?_
 refine yg ?_
 refine yg ?_
 refine yU ?_
 rcases zI h with ⟨h24,h⟩ | ⟨h24,h⟩
 refine yw 78 true ?_
 refine yg ?_
 obtain ⟨r25,h26,h⟩:=zB h
 replace h:=h.symm
 refine yc (drossref04_Of_con 1 1 _ h26) ?_
 refine yg ?_
 refine yU ?_
 refine yd (zn (zq ?_))
 cases h
 exact zT Tryz.results12
 refine yw 78 false ?_
 refine yk ?_
 refine yU ?_
 refine yd (zn (zq ?_))
 cases h
 exact zT Tryz.results12
 refine yw 74 false ?_
 refine yk ?_
 refine yU ?_
 refine yk ?_
 refine yU ?_
 refine yd (zn (zq ?_))
 cases h
 exact zT Tryz.results12
 refine yw 69 false ?_
 refine yk ?_
 refine yU ?_
 refine yk ?_
 refine yU ?_
 refine yk ?_
 refine yU ?_
 refine yd (zn (zq ?_))
 cases h
 exact zT Tryz.results12
 refine yw 65 false ?_
 refine yk ?_
 refine yU ?_
 refine yk ?_
 refine yU ?_
 refine yk ?_
 refine yU ?_
 refine yk ?_
 refine yU ?_
 refine yd (zn (zq ?_))
 cases h
 exact zT Tryz.results12
 refine yw 58 false ?_
 refine yk ?_
 refine yU ?_
 refine yk ?_
 refine yU ?_
 refine yk ?_
 refine yU ?_
 refine yk ?_
 refine yU ?_
 refine yk ?_
 refine yU ?_
 refine yd (zn (zq ?_))
 cases h
 exact zT Tryz.results12
 refine yw 54 false ?_
 refine yk ?_
 refine yU ?_
 refine yk ?_
 refine yU ?_
 refine yk ?_
 refine yU ?_
 refine yk ?_
 refine yU ?_
 refine yk ?_
 refine yU ?_
 refine yk ?_
 refine yU ?_
 refine yd (zn (zq ?_))
 cases h
 exact zT Tryz.results12
 refine yw 47 false ?_
 refine yk ?_
 refine yU ?_
 refine yk ?_
 refine yU ?_
 refine yk ?_
 refine yU ?_
 refine yk ?_
 refine yU ?_
 refine yk ?_
 refine yU ?_
 refine yk ?_
 refine yU ?_
 refine yk ?_
 refine yU ?_
 refine yd (zn (zq ?_))
 cases h
 exact zT Tryz.results12
set_option maxRecDepth 20000 in
set_option maxHeartbeats 4000000 in
theorem drossref56_Of_con {D:Prop} (n1:Int) (d2:Drossref56_Draft) (r3:Linkage×Bool) (h:drossref56_Of n1 d2=some r3):Con D Tryz.prog 21 [(.int .i64 n1),(encDrossref56_Draft d2)] (.tup [(encLinkage r3.1),(.bool r3.2)]):=by
 refine zP Tryz.call21 Tryz.func21 rfl Tryz.ntmps21 fun X w hT=>?_
 simp only [drossref56_Of] at h
 refine zs (zr ?_)
 refine zU (zl (zn (zs (zr ?_))))
 refine zU (zl (zn (zs (zs (zr ?_)))))
 refine zU (zl (zn (zb ?_)))
 obtain ⟨o4,h5,h⟩:=zB h
 refine zO (fun (s:List (List Similar)×Int)=>⟨[(0,.p (.int .i64 n1)),(3,.loc 3 1 0 0),(4,.loc 4 1 0 0),(6,.loc 6 1 0 0),(7,.p (.int .i64 s.2))],[(3,.arr 37 3 1 [.p (encDrossref56_Draft d2)]),(4,.arr 25 3 1 [.agg [.nils,.nils,.nils]]),(6,.arr 25 3 1 [.agg [.own 91 1 0 s.1.length,.nils,.nils]]),(91,.arr 93 1 1 (List.map AV.p (List.map (encL encSimilar) s.1)))]⟩) (fun (o:(List (List Similar)) ⊕ (Linkage×Bool))=>match o with | .inl o6=>tE (cX Tryz.f21 X w D hT) (.exit 0) ⟨[(0,.p (.int .i64 n1)),(3,.loc 3 1 0 0),(4,.loc 4 1 0 0),(6,.loc 6 1 0 0)],[(3,.arr 37 3 1 [.p (encDrossref56_Draft d2)]),(4,.arr 25 3 1 [.agg [.nils,.nils,.nils]]),(6,.arr 25 3 1 [.agg [.own 91 1 0 o6.length,.nils,.nils]]),(91,.arr 93 1 1 (List.map AV.p (List.map (encL encSimilar) o6)))]⟩ | .inr o7=>tR Tryz.prog Tryz.f21 (.tup [(encLinkage o7.1),(.bool o7.2)])) h5 ?_ ?_
 clear h h5
 intro s x h
 obtain ⟨l8,i9⟩:=s
 simp only [drossref56_Of_l4] at h
 dsimp only
 refine zs (zs (zr ?_))
 refine zU (zl (zn ?_))
 rcases zI h with ⟨h10,h⟩ | ⟨h10,h⟩
 refine zi (zk (zn (zs (zb (zs (zs (zr ?_)))))))
 obtain ⟨x11,h12,h12a,h12b,h⟩:=zX h
 refine zU ?_
 rcases zI h with ⟨h13,h⟩ | ⟨h13,h⟩
 refine zw 28 true ?_
 refine zh ?_
 refine zU (zl (zn ?_))
 refine zi (zs (zr ?_))
 refine zU (zl (zn (zq (zt (yr (zt ?_))))))
 cases h
 exact ⟨rfl,zT Tryz.results21⟩
 refine zw 28 false ?_
 refine zg ?_
 refine zg ?_
 refine zg ?_
 refine zg ?_
 refine zg ?_
 refine zg ?_
 refine zg ?_
 refine zU (zl (zn ?_))
 rcases zI h with ⟨h14,h⟩ | ⟨h14,h⟩
 refine zi (zs (zr ?_))
 refine zU (zl (zn (zq (zt (yr (zt ?_))))))
 cases h
 exact ⟨rfl,zT Tryz.results21⟩
 refine zj (zk (zn (zs (zr ?_))))
 refine zU (zl (zn (zs (zs (zr ?_)))))
 refine zU (zl (zn (zb ?_)))
 obtain ⟨r15,h16,h⟩:=zB h
 refine zO (fun (s:List Similar×Int)=>⟨[(0,.p (.int .i64 n1)),(3,.loc 3 1 0 0),(4,.loc 4 1 0 0),(6,.loc 6 1 0 0),(7,.p (.int .i64 i9)),(8,.own 86 1 0 s.1.length),(9,.p (.int .i64 s.2))],[(3,.arr 37 3 1 [.p (encDrossref56_Draft d2)]),(4,.arr 25 3 1 [.agg [.nils,.nils,.nils]]),(6,.arr 25 3 1 [.agg [.own 91 1 0 l8.length,.nils,.nils]]),(86,.arr 95 3 1 (List.map AV.p (List.map encSimilar s.1))),(91,.arr 93 1 1 (List.map AV.p (List.map (encL encSimilar) l8)))]⟩) (fun (o17:List Similar)=>tE (cX Tryz.f21 X w D hT) (.exit 2) ⟨[(0,.p (.int .i64 n1)),(3,.loc 3 1 0 0),(4,.loc 4 1 0 0),(6,.loc 6 1 0 0),(7,.p (.int .i64 i9)),(8,.own 86 1 0 o17.length)],[(3,.arr 37 3 1 [.p (encDrossref56_Draft d2)]),(4,.arr 25 3 1 [.agg [.nils,.nils,.nils]]),(6,.arr 25 3 1 [.agg [.own 91 1 0 l8.length,.nils,.nils]]),(86,.arr 95 3 1 (List.map AV.p (List.map encSimilar o17))),(91,.arr 93 1 1 (List.map AV.p (List.map (encL encSimilar) l8)))]⟩) h16 ?_ ?_
 clear h h10 h12 h12a h12b h13 h14 h16
 intro s x h
 obtain ⟨r18,k19⟩:=s
 simp only [drossref56_Of_l3] at h
 dsimp only
 refine zs (zs (zr ?_))
 obtain ⟨x20,h21,h21a,h21b,h⟩:=zX h
 refine zU (zl (zn ?_))
 rcases zI h with ⟨h22,h⟩ | ⟨h22,h⟩
 refine zi (zk (zn (zs (zb (zs (zr ?_))))))
 obtain ⟨x23,h24,h24a,h24b,h⟩:=zX h
 refine zU (zl (zn (zs (zd ?_))))
 obtain ⟨h25,h⟩:=ite_none h
 refine yU ?_
 refine yd (zn (zs (zs (zr ?_))))
 refine zU (zl (zn ?_))
 rcases zI h with ⟨h26,h⟩ | ⟨h26,h⟩
 refine zi (zr ?_)
 refine zU (zl (zn (zs (zs (zr ?_)))))
 refine zU (zl (zn ?_))
 rcases zI h with ⟨h27,h⟩ | ⟨h27,h⟩
 refine zi (zr ?_)
 refine zU (zl (zn (zr ?_)))
 obtain ⟨h28,h⟩:=ite_some h
 refine zU (zl (yn (zn (zr ?_))))
 refine zU (zl ?_)
 cases h
 exact ⟨rfl,zE⟩
 refine zj (zk (zn (zr ?_)))
 obtain ⟨h29,h⟩:=ite_some h
 refine zU (zl (yn (zn (zr ?_))))
 refine zU (zl ?_)
 cases h
 exact ⟨rfl,zE⟩
 refine zj (zk (zn (zs (zs (zr ?_)))))
 refine zU (zl (zn ?_))
 rcases zI h with ⟨h30,h⟩ | ⟨h30,h⟩
 refine zi (zr ?_)
 refine zU (zl (zn (zr ?_)))
 obtain ⟨h31,h⟩:=ite_some h
 refine zU (zl (yn (zn (zr ?_))))
 refine zU (zl ?_)
 cases h
 exact ⟨rfl,zE⟩
 refine zj (zk (zn (zr ?_)))
 obtain ⟨h32,h⟩:=ite_some h
 refine zU (zl (yn (zn (zr ?_))))
 refine zU (zl ?_)
 cases h
 exact ⟨rfl,zE⟩
 refine zj (zx (ze ?_))
 cases h
 exact ⟨rfl,zE⟩
 try simp only at h
 refine zA (yh (zn (zr ?_)))
 refine zW 4 ?_
 refine zM ⟨[(0,.p (.int .i64 n1)),(3,.loc 3 1 0 0),(4,.loc 4 1 0 0),(6,.loc 6 1 0 0),(7,.p (.int .i64 i9)),(88,.own 91 1 0 l8.length),(90,.own 90 1 0 1)],[(3,.arr 37 3 1 [.p (encDrossref56_Draft d2)]),(4,.arr 25 3 1 [.agg [.nils,.nils,.nils]]),(6,.arr 25 3 1 [.agg [.own 91 1 0 l8.length,.nils,.nils]]),(90,.arr 93 1 1 [.p (.slc (List.map encSimilar r15))]),(91,.arr 93 1 1 (List.map AV.p (List.map (encL encSimilar) l8)))]⟩ ?_
 obtain ⟨h33,h⟩:=ite_some h
 refine zU (zl (yn (zn (zr ?_))))
 refine zU (zl ?_)
 cases h
 exact ⟨rfl,zE⟩
 refine zj (zx (ze ?_))
 cases h
 exact ⟨rfl,zE⟩
 rcases o4 with l34 | r35
 try simp only at h
 refine zA (yh (zn (zs (zs (zr ?_)))))
 refine zU (zl (zn (zb ?_)))
 obtain ⟨o36,h37,h⟩:=zB h
 refine zO (fun (s:List Int×List Int×Int)=>⟨[(0,.p (.int .i64 n1)),(3,.loc 3 1 0 0),(4,.loc 4 1 0 0),(6,.loc 6 1 0 0),(12,.p (.int .i64 s.2.2))],[(3,.arr 37 3 1 [.p (encDrossref56_Draft d2)]),(4,.arr 25 3 1 [.agg [.nils,.nils,.nils]]),(6,.arr 25 3 1 [.agg [.own 91 1 0 l34.length,.own 112 1 0 s.1.length,.own 131 1 0 s.2.1.length]]),(91,.arr 93 1 1 (List.map AV.p (List.map (encL encSimilar) l34))),(112,.arr 3 1 1 (List.map AV.p (List.map (PV.int .i64) s.1))),(131,.arr 3 1 1 (List.map AV.p (List.map (PV.int .i64) s.2.1)))]⟩) (fun (o38:List Int×List Int)=>tE (cX Tryz.f21 X w D hT) (.exit 4) ⟨[(3,.loc 3 1 0 0),(4,.loc 4 1 0 0),(6,.loc 6 1 0 0)],[(3,.arr 37 3 1 [.p (encDrossref56_Draft d2)]),(4,.arr 25 3 1 [.agg [.nils,.nils,.nils]]),(6,.arr 25 3 1 [.agg [.own 91 1 0 l34.length,.own 112 1 0 o38.1.length,.own 131 1 0 o38.2.length]]),(91,.arr 93 1 1 (List.map AV.p (List.map (encL encSimilar) l34))),(112,.arr 3 1 1 (List.map AV.p (List.map (PV.int .i64) o38.1))),(131,.arr 3 1 1 (List.map AV.p (List.map (PV.int .i64) o38.2)))]⟩) h37 ?_ ?_
 clear h h5 h37
 intro s x h
 obtain ⟨l39,l40,a41⟩:=s
 simp only [drossref56_Of_l5] at h
 dsimp only
 refine zs (zs (zr ?_))
 refine zU (zl (zn ?_))
 rcases zI h with ⟨h42,h⟩ | ⟨h42,h⟩
 refine zi (zk (zn (zs (zb (zs ?_)))))
 obtain ⟨t43,h44,h⟩:=zB h
 refine zJ (fun (o45:Bool)=>tE (cX Tryz.f21 X w D hT) .normal ⟨[(0,.p (.int .i64 n1)),(3,.loc 3 1 0 0),(4,.loc 4 1 0 0),(6,.loc 6 1 0 0),(12,.p (.int .i64 a41)),(107,.p (.bool o45))],[(3,.arr 37 3 1 [.p (encDrossref56_Draft d2)]),(4,.arr 25 3 1 [.agg [.nils,.nils,.nils]]),(6,.arr 25 3 1 [.agg [.own 91 1 0 l34.length,.own 112 1 0 l39.length,.own 131 1 0 l40.length]]),(91,.arr 93 1 1 (List.map AV.p (List.map (encL encSimilar) l34))),(112,.arr 3 1 1 (List.map AV.p (List.map (PV.int .i64) l39))),(131,.arr 3 1 1 (List.map AV.p (List.map (PV.int .i64) l40)))]⟩) t43 ?_ ?_
 replace h:=h44
 clear h44
 refine zr ?_
 refine zU ?_
 rcases zI h with ⟨h46,h⟩ | ⟨h46,h⟩
 refine zw 100 true ?_
 refine zg ?_
 refine zg ?_
 refine zg ?_
 obtain ⟨h47,h⟩:=ite_none h
 replace h:=h.symm
 refine zg ?_
 refine zg ?_
 refine zg ?_
 refine zU (zl ?_)
 cases h
 exact ⟨rfl,zE⟩
 refine zw 100 false ?_
 refine zh ?_
 refine zU (zl ?_)
 cases h
 exact ⟨rfl,zE⟩
 try simp only at h
 refine zA (zn ?_)
 rcases zI h with ⟨h48,h⟩ | ⟨h48,h⟩
 refine zi (zr ?_)
 obtain ⟨h49,h⟩:=ite_some h
 refine zU (zl (zn (zs (zr ?_))))
 refine zU (zl (zn (zs (zs (zr ?_)))))
 refine zU (zl (zn ?_))
 rcases zI h with ⟨h50,h⟩ | ⟨h50,h⟩
 refine zi (zr ?_)
 obtain ⟨x51,h52,h52a,h52b,h⟩:=zX h
 refine zU (zl (zn (zr ?_)))
 obtain ⟨h53,h⟩:=ite_some h
 refine zU (zl (yn (zn (zr ?_))))
 refine zU (zl ?_)
 cases h
 exact ⟨rfl,zE⟩
 refine zj (zk (zn (zr ?_)))
 obtain ⟨h54,h⟩:=ite_some h
 refine zU (zl (yn (zn (zr ?_))))
 refine zU (zl ?_)
 cases h
 exact ⟨rfl,zE⟩
 refine zj (zk (zn (zs (zr ?_))))
 refine zU (zl (zn (zs (zs (zr ?_)))))
 refine zU (zl (zn ?_))
 rcases zI h with ⟨h55,h⟩ | ⟨h55,h⟩
 refine zi (zr ?_)
 obtain ⟨x56,h57,h57a,h57b,h⟩:=zX h
 refine zU (zl (zn (zr ?_)))
 obtain ⟨h58,h⟩:=ite_some h
 refine zU (zl (yn (zn (zr ?_))))
 refine zU (zl ?_)
 cases h
 exact ⟨rfl,zE⟩
 refine zj (zk (zn (zr ?_)))
 obtain ⟨h59,h⟩:=ite_some h
 refine zU (zl (yn (zn (zr ?_))))
 refine zU (zl ?_)
 cases h
 exact ⟨rfl,zE⟩
 refine zj (zx (ze ?_))
 cases h
 exact ⟨rfl,zE⟩
 obtain ⟨l60,l61⟩:=o36
 try simp only at h
 refine zA (yh (zn (zs (zd ?_))))
 refine yU ?_
 refine yd (zn (zq ?_))
 cases h
 exact zT Tryz.results21
 try simp only at h
 refine zZ fun s hq=>?_
 refine yr (zt ?_)
 cases h
 exact hq
set_option maxHeartbeats 4000000 in
theorem drossref01_Of_con {D:Prop} (c1:Int) (r2:Value) (h:drossref01_Of c1=some r2):Con D Tryz.prog 151 [(.int .u8 c1)] (encValue r2):=by
 refine zP Tryz.call151 Tryz.func151 rfl Tryz.ntmps151 fun X w hT=>?_
 simp only [drossref01_Of] at h
 refine zs (zr ?_)
 refine zU (zl (zn (zs (zs (zr ?_)))))
 refine zU (zl (zn (zb (zs (zr ?_)))))
 refine zU (zl (zn ?_))
 rcases zI h with ⟨h3,h⟩ | ⟨h3,h⟩
 refine zi (zs (zr ?_))
 refine zU (zl (zn (zq (yr (zt ?_)))))
 cases h
 exact zT Tryz.results151
 refine zj (zs (zr ?_))
 refine zU (zl (zn ?_))
 rcases zI h with ⟨h4,h⟩ | ⟨h4,h⟩
 refine zi (zs (zr ?_))
 refine zU (zl (zn (zq (yr (zt ?_)))))
 cases h
 exact zT Tryz.results151
 refine zj (zs (zr ?_))
 refine zU (zl (zn ?_))
 rcases zI h with ⟨h5,h⟩ | ⟨h5,h⟩
 refine zi (zs (zr ?_))
 refine zU (zl (zn (zq (yr (zt ?_)))))
 cases h
 exact zT Tryz.results151
 refine zj (zs (zr ?_))
 refine zU (zl (zn ?_))
 rcases zI h with ⟨h6,h⟩ | ⟨h6,h⟩
 refine zi (zs (zr ?_))
 refine zU (zl (zn (zq (yr (zt ?_)))))
 cases h
 exact zT Tryz.results151
 refine zj (zs (zr ?_))
 refine zU (zl (zn ?_))
 rcases zI h with ⟨h7,h⟩ | ⟨h7,h⟩
 refine zi (zs (zr ?_))
 refine zU (zl (zn (zq (yr (zt ?_)))))
 cases h
 exact zT Tryz.results151
 refine zj (zs (zr ?_))
 refine zU (zl (zn ?_))
 rcases zI h with ⟨h8,h⟩ | ⟨h8,h⟩
 refine zi (zs (zr ?_))
 refine zU (zl (zn (zq (yr (zt ?_)))))
 cases h
 exact zT Tryz.results151
 refine zj (zs (zr ?_))
 refine zU (zl (zn ?_))
 rcases zI h with ⟨h9,h⟩ | ⟨h9,h⟩
 refine zi (zs (zr ?_))
 refine zU (zl (zn (zq (yr (zt ?_)))))
 cases h
 exact zT Tryz.results151
 refine zj (zs (zr ?_))
 refine zU (zl (zn ?_))
 rcases zI h with ⟨h10,h⟩ | ⟨h10,h⟩
 refine zi (zs (zr ?_))
 refine zU (zl (zn (zq (yr (zt ?_)))))
 cases h
 exact zT Tryz.results151
 refine zj (zs (zr ?_))
 refine zU (zl (zn ?_))
 rcases zI h with ⟨h11,h⟩ | ⟨h11,h⟩
 refine zi (zs (zr ?_))
 refine zU (zl (zn (zq (yr (zt ?_)))))
 cases h
 exact zT Tryz.results151
 refine zj (zs (zr ?_))
 refine zU (zl (zn ?_))
 rcases zI h with ⟨h12,h⟩ | ⟨h12,h⟩
 refine zi (zs (zr ?_))
 refine zU (zl (zn (zq (yr (zt ?_)))))
 cases h
 exact zT Tryz.results151
 refine zj (zs (zr ?_))
 refine zU (zl (zn ?_))
 rcases zI h with ⟨h13,h⟩ | ⟨h13,h⟩
 refine zi (zs (zr ?_))
 refine zU (zl (zn (zq (yr (zt ?_)))))
 cases h
 exact zT Tryz.results151
 refine zj (zk (yn (zn (zs (zr ?_)))))
 refine zU (zl (zn (zq ?_)))
 cases h
 exact zT Tryz.results151
set_option maxHeartbeats 4000000 in
theorem drossref03_Wide_con {D:Prop} (x1:Drossref03_Recipe) (n2:Int) (r3:Table) (h:drossref03_Wide x1 n2=some r3):Con D Tryz.prog 88 [(encDrossref03_Recipe x1),(.int .i64 n2)] (encTable r3):=by
 refine zP Tryz.call88 Tryz.func88 rfl Tryz.ntmps88 fun X w hT=>?_
 simp only [drossref03_Wide] at h
 refine zs (zr ?_)
 refine zU (zl (zn (zs (zr ?_))))
 obtain ⟨h4,h⟩:=ite_some h
 obtain ⟨h5,h⟩:=ite_some h
 refine zW 4 ?_
 obtain ⟨l6,h7,h⟩:=zB h
 replace h7:=Option.some.inj h7
 refine AL_le (st':=⟨[(1,.p (.int .i64 n2)),(2,.loc 2 1 0 0),(4,.loc 4 1 0 0),(10,.own 10 1 0 0),(13,.own 11 1 0 n2.toNat)],[(2,.arr 33 3 1 [.p (encDrossref03_Recipe x1)]),(4,.arr 41 3 1 [.agg [.p (.str []),.nils,.nils]]),(10,.arr 9 1 1 []),(11,.arr 9 1 1 (List.map AV.p (List.map PV.str l6)))]⟩) (by simp only [go_sem,seval,←h7];all_goals ((repeat' refine And.intro ?_ ?_) <;> first | rfl | (simp;done) | (simp;rfl) | (simp [*];done) | (simp [*];rfl))) ?_
 have h7n:l6.length=8:=by rw [←h7];rfl
 clear h7
 obtain ⟨h8,h⟩:=ite_some h
 refine zU (zl (zn (zs (zs (zr ?_)))))
 refine zU (zl (zn (zb ?_)))
 obtain ⟨t9,h10,h⟩:=zB h
 refine zO (fun (s:List Row×Int)=>⟨[(1,.p (.int .i64 n2)),(2,.loc 2 1 0 0),(4,.loc 4 1 0 0),(5,.loc 5 1 0 0),(6,.p (.int .i64 s.2))],[(2,.arr 33 3 1 [.p (encDrossref03_Recipe x1)]),(4,.arr 41 3 1 [.agg [.p (.str []),.nils,.nils]]),(5,.arr 41 3 1 [.agg [.p (.str [114]),.own 10 1 0 ((l6.take n2.toNat)).length,.own 64 1 0 s.1.length]]),(10,.arr 9 1 1 (List.map AV.p (List.map PV.str (l6.take n2.toNat)))),(64,.arr 66 2 1 (List.map AV.p (List.map encRow s.1)))]⟩) (fun (o11:List Row)=>tE (cX Tryz.f88 X w D hT) (.exit 0) ⟨[(4,.loc 4 1 0 0),(5,.loc 5 1 0 0)],[(4,.arr 41 3 1 [.agg [.p (.str []),.nils,.nils]]),(5,.arr 41 3 1 [.agg [.p (.str [114]),.own 10 1 0 ((l6.take n2.toNat)).length,.own 64 1 0 o11.length]]),(10,.arr 9 1 1 (List.map AV.p (List.map PV.str (l6.take n2.toNat)))),(64,.arr 66 2 1 (List.map AV.p (List.map encRow o11)))]⟩) h10 ?_ ?_
 clear h h4 h5 h7n h8 h10
 intro s x h
 obtain ⟨t12,i13⟩:=s
 simp only [drossref03_Wide_l4] at h
 dsimp only
 refine zs (zs (zr ?_))
 refine zU (zl (zn ?_))
 rcases zI h with ⟨h14,h⟩ | ⟨h14,h⟩
 refine zi (zk (zn (zs (zb (zs (zr ?_))))))
 refine zU (zl (zn (zs (zs (zr ?_)))))
 refine zU (zl (zn (zb ?_)))
 obtain ⟨r15,h16,h⟩:=zB h
 refine zO (fun (s:List Value×Int)=>⟨[(1,.p (.int .i64 n2)),(2,.loc 2 1 0 0),(4,.loc 4 1 0 0),(5,.loc 5 1 0 0),(6,.p (.int .i64 i13)),(7,.loc 7 1 0 0),(8,.p (.int .i64 s.2))],[(2,.arr 33 3 1 [.p (encDrossref03_Recipe x1)]),(4,.arr 41 3 1 [.agg [.p (.str []),.nils,.nils]]),(5,.arr 41 3 1 [.agg [.p (.str [114]),.own 10 1 0 ((l6.take n2.toNat)).length,.own 64 1 0 t12.length]]),(7,.arr 66 2 1 [.agg [.p (.int .i64 (IntKind.i64.wrap (1+(IntKind.i64.wrap (i13 * (IntKind.i64.wrap (1+(IntKind.i64.wrap (Int.tmod x1.Gap 3))))))))),.own 58 1 0 s.1.length]]),(10,.arr 9 1 1 (List.map AV.p (List.map PV.str (l6.take n2.toNat)))),(58,.arr 142 3 1 (List.map AV.p (List.map encValue s.1))),(64,.arr 66 2 1 (List.map AV.p (List.map encRow t12)))]⟩) (fun (o17:List Value)=>tE (cX Tryz.f88 X w D hT) (.exit 2) ⟨[(1,.p (.int .i64 n2)),(2,.loc 2 1 0 0),(4,.loc 4 1 0 0),(5,.loc 5 1 0 0),(6,.p (.int .i64 i13)),(7,.loc 7 1 0 0)],[(2,.arr 33 3 1 [.p (encDrossref03_Recipe x1)]),(4,.arr 41 3 1 [.agg [.p (.str []),.nils,.nils]]),(5,.arr 41 3 1 [.agg [.p (.str [114]),.own 10 1 0 ((l6.take n2.toNat)).length,.own 64 1 0 t12.length]]),(7,.arr 66 2 1 [.agg [.p (.int .i64 (IntKind.i64.wrap (1+(IntKind.i64.wrap (i13 * (IntKind.i64.wrap (1+(IntKind.i64.wrap (Int.tmod x1.Gap 3))))))))),.own 58 1 0 o17.length]]),(10,.arr 9 1 1 (List.map AV.p (List.map PV.str (l6.take n2.toNat)))),(58,.arr 142 3 1 (List.map AV.p (List.map encValue o17))),(64,.arr 66 2 1 (List.map AV.p (List.map encRow t12)))]⟩) h16 ?_ ?_
 clear h h14 h16
 intro s x h
 obtain ⟨r18,k19⟩:=s
 simp only [drossref03_Wide_l3] at h
 dsimp only
 refine zs (zs (zr ?_))
 refine zU (zl (zn ?_))
 rcases zI h with ⟨h20,h⟩ | ⟨h20,h⟩
 refine zi (zk (zn (zs (zb (zs (zr ?_))))))
 refine zU (zl (zn (zs (zs (zr ?_)))))
 obtain ⟨x21,h22,h22a,h22b,h⟩:=zX h
 refine zU (zl (zn ?_))
 rcases zI h with ⟨h23,h⟩ | ⟨h23,h⟩
 refine zi (zr ?_)
 obtain ⟨x24,h25,h25a,h25b,h⟩:=zX h
 refine zU (zl (zn (zd ?_)))
 refine yU ?_
 obtain ⟨r26,h27,h⟩:=zB h
 refine yc (drossref01_Of_con x24 _ h27) ?_
 obtain ⟨h28,h⟩:=ite_some h
 refine yU ?_
 refine yd (yn (zn (zr ?_)))
 refine zU (zl ?_)
 cases h
 exact ⟨rfl,zE⟩
 refine zj (zk (zn (zd ?_)))
 refine yU ?_
 obtain ⟨r29,h30,h⟩:=zB h
 refine yc (drossref01_Of_con 0 _ h30) ?_
 obtain ⟨h31,h⟩:=ite_some h
 refine yU ?_
 refine yd (yn (zn (zr ?_)))
 refine zU (zl ?_)
 cases h
 exact ⟨rfl,zE⟩
 refine zj (zx (ze ?_))
 cases h
 exact ⟨rfl,zE⟩
 try simp only at h
 refine zA (yh (zn (zr ?_)))
 refine zW 4 ?_
 refine zM ⟨[(1,.p (.int .i64 n2)),(2,.loc 2 1 0 0),(4,.loc 4 1 0 0),(5,.loc 5 1 0 0),(6,.p (.int .i64 i13)),(61,.own 64 1 0 t12.length),(63,.own 63 1 0 1)],[(2,.arr 33 3 1 [.p (encDrossref03_Recipe x1)]),(4,.arr 41 3 1 [.agg [.p (.str []),.nils,.nils]]),(5,.arr 41 3 1 [.agg [.p (.str [114]),.own 10 1 0 ((l6.take n2.toNat)).length,.own 64 1 0 t12.length]]),(10,.arr 9 1 1 (List.map AV.p (List.map PV.str (l6.take n2.toNat)))),(63,.arr 66 2 1 [.p (.agg [.int .i64 (IntKind.i64.wrap (1+(IntKind.i64.wrap (i13 * (IntKind.i64.wrap (1+(IntKind.i64.wrap (Int.tmod x1.Gap 3)))))))),.slc (List.map encValue r15)])]),(64,.arr 66 2 1 (List.map AV.p (List.map encRow t12)))]⟩ ?_
 obtain ⟨h32,h⟩:=ite_some h
 refine zU (zl (yn (zn (zr ?_))))
 refine zU (zl ?_)
 cases h
 exact ⟨rfl,zE⟩
 refine zj (zx (ze ?_))
 cases h
 exact ⟨rfl,zE⟩
 try simp only at h
 refine zA (yh (zn (zs (zr ?_))))
 refine zU (zl (zn (zq ?_)))
 cases h
 exact zT Tryz.results88
set_option maxHeartbeats 4000000 in
theorem drossref03_Table_con {D:Prop} (x1:Drossref03_Recipe) (m2:Int) (r3:Table×Bool) (h:drossref03_Table x1 m2=some r3):Con D Tryz.prog 50 [(encDrossref03_Recipe x1),(.int .i64 m2)] (.tup [(encTable r3.1),(.bool r3.2)]):=by
 refine zP Tryz.call50 Tryz.func50 rfl Tryz.ntmps50 fun X w hT=>?_
 simp only [drossref03_Table] at h
 refine zs (zr ?_)
 refine zU (zl (zn (zs (zs (zr ?_)))))
 refine zU (zl (zn ?_))
 rcases zI h with ⟨h4,h⟩ | ⟨h4,h⟩
 refine zi (zs (zr ?_))
 refine zU (zl (zn (zq (zt ?_))))
 cases h
 exact zT Tryz.results50
 refine zj (zk (zn (zs (zr ?_))))
 refine zU ?_
 obtain ⟨r5,h6,h⟩:=zB h
 refine zc (drossref03_Wide_con x1 (IntKind.i64.wrap (Int.tmod x1.Attrs 6)) _ h6) ?_
 refine zU (zl (zn (zq ?_)))
 cases h
 exact zT Tryz.results50
set_option maxHeartbeats 4000000 in
theorem drosslaw56_of_con {D:Prop} (x1:Drossref03_Recipe) (d2:Drossref56_Draft) (r3:Table×Linkage×Bool) (h:drosslaw56_of x1 d2=some r3):Con D Tryz.prog 16 [(encDrossref03_Recipe x1),(encDrossref56_Draft d2)] (.tup [(encTable r3.1),(encLinkage r3.2.1),(.bool r3.2.2)]):=by
 refine zP Tryz.call16 Tryz.func16 rfl Tryz.ntmps16 fun X w hT=>?_
 simp only [drosslaw56_of] at h
 refine zs (zr ?_)
 refine zU (zl (zn (zs (zr ?_))))
 refine zU ?_
 obtain ⟨r4,h5,h⟩:=zB h
 refine zc (drossref03_Table_con x1 6 _ h5) ?_
 refine zU (zl (zn (zs ?_)))
 obtain ⟨t6,h7,h⟩:=zB h
 refine zJ (fun (o8:Bool)=>tE (cX Tryz.f16 X w D hT) .normal ⟨[(3,.loc 3 1 0 0),(4,.loc 4 1 0 0),(5,.loc 5 1 0 0),(7,.loc 7 1 0 0),(22,.p (.bool o8))],[(3,.arr 37 3 1 [.p (encDrossref56_Draft d2)]),(4,.arr 41 3 1 [.agg [.p (.str []),.nils,.nils]]),(5,.arr 25 3 1 [.agg [.nils,.nils,.nils]]),(7,.arr 41 3 1 [.p (encTable r4.1)])]⟩) t6 ?_ ?_
 replace h:=h7
 clear h7
 refine zr ?_
 refine zU ?_
 rcases zI h with ⟨h9,h⟩ | ⟨h9,h⟩
 replace h:=h.symm
 refine zw 17 false ?_
 refine zg ?_
 refine zg ?_
 refine zg ?_
 refine zg ?_
 refine zU (zl ?_)
 cases h
 exact ⟨rfl,zE⟩
 refine zw 17 true ?_
 refine zh ?_
 refine zU (zl ?_)
 cases h
 exact ⟨rfl,zE⟩
 try simp only at h
 refine zA (zn ?_)
 rcases zI h with ⟨h10,h⟩ | ⟨h10,h⟩
 refine zi (zs (zr ?_))
 refine zU (zl (zn (zq (zt ?_))))
 cases h
 exact zT Tryz.results16
 refine zj (zk (zn (zs (zr ?_))))
 refine zU ?_
 obtain ⟨r11,h12,h⟩:=zB h
 refine zc (drossref56_Of_con (r4.1.Attrs.length:Int) d2 _ h12) ?_
 refine zU (zl (zn (zs (zd ?_))))
 refine yU ?_
 refine yd (zn (zq ?_))
 cases h
 exact zT Tryz.results16
set_option maxHeartbeats 4000000 in
theorem slices_IndexFunc_Row_con {D:Prop} (s1:List Row) (f2:Row→Option (Bool)) (f2_k:FuncId) (f2_cs:List PV) (f2_h:∀(y3:Row) (r4:Bool),f2 y3=some r4→Con D Tryz.prog f2_k ((encRow y3) :: f2_cs) (.bool r4)) (r5:Int) (h:slices_IndexFunc_Row s1 f2=some r5):Con D Tryz.prog 109 [(.slc (List.map encRow s1)),.func (.func f2_k) f2_cs] (.int .i64 r5):=by
 refine zP Tryz.call109 Tryz.func109 rfl Tryz.ntmps109 fun X w hT=>?_
 simp only [slices_IndexFunc_Row] at h
 refine zs (zr ?_)
 refine zU (zl (zn (zs (zs (zr ?_)))))
 refine zU (zl (zn (zb ?_)))
 obtain ⟨o6,h7,h⟩:=zB h
 refine zO (fun (s:Int)=>⟨[(0,.p (.slc (List.map encRow s1))),(1,.p (.func (.func f2_k) f2_cs)),(7,.p (.int .i64 (s1.length:Int))),(8,.p (.int .i64 s))],[]⟩) (fun (o:(Unit) ⊕ (Int))=>match o with | .inl o8=>tE (cX Tryz.f109 X w D hT) (.exit 0) ⟨[],[]⟩ | .inr o9=>tR Tryz.prog Tryz.f109 (.int .i64 o9)) h7 ?_ ?_
 clear h h7
 intro t10 x h
 simp only [slices_IndexFunc_Row_l1] at h
 refine zs (zr ?_)
 refine zU (zl (zn (zs ?_)))
 rcases zI h with ⟨h11,h⟩ | ⟨h11,h⟩
 refine zi (zk (zn (zs (zb (zs (zr ?_))))))
 refine zU (zl (zn (zs (zr ?_))))
 obtain ⟨x12,h13,h13a,h13b,h⟩:=zX h
 refine zU ?_
 obtain ⟨r14,h15,h⟩:=zB h
 refine zc (f2_h x12 _ h15) ?_
 refine zl (zn ?_)
 rcases zI h with ⟨h16,h⟩ | ⟨h16,h⟩
 refine zi (zs (zr ?_))
 refine zU (zl (zn (zq (yr (zt ?_)))))
 cases h
 exact ⟨rfl,zT Tryz.results109⟩
 refine zj (zk (yn (zn (zr ?_))))
 refine zU (zl ?_)
 cases h
 exact ⟨rfl,zE⟩
 refine zj (zx (ze ?_))
 cases h
 exact ⟨rfl,zE⟩
 rcases o6 with ⟨⟩ | r17
 try simp only at h
 refine zA (yh (zn (zs (zr ?_))))
 refine zU (zl (zn (zq ?_)))
 cases h
 exact zT Tryz.results109
 try simp only at h
 refine zZ fun s hq=>?_
 refine yr (zt ?_)
 cases h
 exact hq
set_option maxHeartbeats 4000000 in
theorem table_Find_1_con {D:Prop} (r1:Row) (c2:Int) (r3:Bool) (h:table_Find_1 r1 c2=some r3):Con D Tryz.prog 110 [(encRow r1),.imm [.int .i64 c2]] (.bool r3):=by
 refine zP Tryz.call110 Tryz.func110 rfl Tryz.ntmps110 fun X w hT=>?_
 simp only [table_Find_1] at h
 refine zs (zr ?_)
 refine zU (zl (zn (zs (zr ?_))))
 refine zU (zl (zn (zq ?_)))
 cases h
 exact zT Tryz.results110
set_option maxHeartbeats 4000000 in
theorem table_Find_con {D:Prop} (t1:Table) (i2:Int) (r3:Int×Bool) (h:table_Find t1 i2=some r3):Con D Tryz.prog 72 [(encTable t1),(.int .i64 i2)] (.tup [(.int .i64 r3.1),(.bool r3.2)]):=by
 refine zP Tryz.call72 Tryz.func72 rfl Tryz.ntmps72 fun X w hT=>?_
 simp only [table_Find] at h
 refine zs (zr ?_)
 refine zU (zl (zn (zs (zr ?_))))
 refine zU ?_
 obtain ⟨r4,h5,h⟩:=zB h
 refine zc (slices_IndexFunc_Row_con t1.Rows (fun (y6:Row)=>table_Find_1 y6 i2) 110 [.imm [.int .i64 i2]] (fun y6 r h=>table_Find_1_con y6 i2 r h) _ h5) ?_
 refine zU (zl (zn (zs (zr ?_))))
 refine zU (zl (zn (zq ?_)))
 cases h
 exact zT Tryz.results72
set_option maxRecDepth 20000 in
set_option maxHeartbeats 4000000 in
theorem linkage_Explain_con (t1:Table) (l2:Linkage) (a3:Int) (b4:Int) (r5:Int×Int) (h:linkage_Explain t1 l2 a3 b4=some r5):Con False Tryz.prog 33 [(encTable t1),(encLinkage l2),(.int .i64 a3),(.int .i64 b4)] (.tup [(.int .i64 r5.1),(.int .i64 r5.2)]):=by
 refine zP Tryz.call33 Tryz.func33 rfl Tryz.ntmps33 fun X w hT=>?_
 simp only [linkage_Explain] at h
 refine zs (zr ?_)
 refine zU (zl (zn (zs (zs (zr ?_)))))
 refine zU ?_
 obtain ⟨r6,h7,h⟩:=zB h
 refine zc (linkage_limits_con t1 l2 _ h7) ?_
 refine zU (zl (zn (zs (zr ?_))))
 refine zU (zl (zn ?_))
 rcases zI h with ⟨h8,h⟩ | ⟨h8,h⟩
 refine zi (zs (zr ?_))
 refine zU (zl (zn (zq (zt ?_))))
 cases h
 exact zT Tryz.results33
 refine zj (zk (zn (zs (zr ?_))))
 refine zU ?_
 obtain ⟨r9,h10,h⟩:=zB h
 refine zc (table_Find_con t1 a3 _ h10) ?_
 refine zU (zl (zn (zs (zr ?_))))
 refine zU ?_
 obtain ⟨r11,h12,h⟩:=zB h
 refine zc (table_Find_con t1 b4 _ h12) ?_
 refine zU (zl (zn (zs (zs (zr ?_)))))
 refine zU ?_
 rcases zI h with ⟨h13,h⟩ | ⟨h13,h⟩
 refine zw 36 false ?_
 refine zg ?_
 refine zg ?_
 refine zU (zl (zn ?_))
 rcases zI h with ⟨h14,h⟩ | ⟨h14,h⟩
 refine zj (zk (zn (zs (zd ?_))))
 obtain ⟨x15,h16,h16a,h16b,h⟩:=zX h
 obtain ⟨x17,h18,h18a,h18b,h⟩:=zX h
 refine yU ?_
 obtain ⟨r19,h20,h⟩:=zB h
 refine yc (linkage_holds_con l2 x15 x17 _ h20) ?_
 refine yU ?_
 refine yd (zn (zs (zs (zr ?_))))
 refine zU (zl (zn ?_))
 rcases zI h with ⟨h21,h⟩ | ⟨h21,h⟩
 refine zi (zs (zr ?_))
 refine zU (zl (zn (zq (zt ?_))))
 cases h
 exact zT Tryz.results33
 refine zj (zk (zn (zs (zr ?_))))
 refine zU (zl (zn (zq ?_)))
 cases h
 exact zT Tryz.results33
 refine zi (zs (zr ?_))
 refine zU (zl (zn (zq (zt ?_))))
 cases h
 exact zT Tryz.results33
 refine zw 36 true ?_
 refine zh ?_
 refine zU (zl (zn ?_))
 refine zi (zs (zr ?_))
 refine zU (zl (zn (zq (zt ?_))))
 cases h
 exact zT Tryz.results33
set_option maxHeartbeats 4000000 in
theorem drossref01_Valid_con {D:Prop} (v1:Value) (r2:Bool) (h:drossref01_Valid v1=some r2):Con D Tryz.prog 149 [(encValue v1)] (.bool r2):=by
 refine zP Tryz.call149 Tryz.func149 rfl Tryz.ntmps149 fun X w hT=>?_
 simp only [drossref01_Valid] at h
 refine zs (zr ?_)
 refine zU (zl (zn (zs (zs (zr ?_)))))
 refine zU (zl (zn (zb (zs (zr ?_)))))
 refine zU (zl (zn ?_))
 rcases zI h with ⟨h3,h⟩ | ⟨h3,h⟩
 refine zi (zs (zr ?_))
 refine zU ?_
 rcases zI h with ⟨h4,h⟩ | ⟨h4,h⟩
 replace h:=h.symm
 refine zw 10 true ?_
 refine zg ?_
 refine zg ?_
 refine zg ?_
 refine zU (zl (zn (zq (yr (zt ?_)))))
 cases h
 exact zT Tryz.results149
 refine zw 10 false ?_
 refine zh ?_
 refine zU (zl (zn (zq (yr (zt ?_)))))
 cases h
 exact zT Tryz.results149
 refine zj (zs (zr ?_))
 refine zU (zl (zn ?_))
 rcases zI h with ⟨h5,h⟩ | ⟨h5,h⟩
 refine zi (zs (zr ?_))
 refine zU (zl (zn (zq (yr (zt ?_)))))
 cases h
 exact zT Tryz.results149
 refine zj (zs (zr ?_))
 refine zU (zl (zn ?_))
 rcases zI h with ⟨h6,h⟩ | ⟨h6,h⟩
 refine zi (zs (zr ?_))
 refine zU ?_
 rcases zI h with ⟨h7,h⟩ | ⟨h7,h⟩
 replace h:=h.symm
 refine zw 25 true ?_
 refine zg ?_
 refine zg ?_
 refine zg ?_
 refine zg ?_
 refine zU (zl (zn (zq (yr (zt ?_)))))
 cases h
 exact zT Tryz.results149
 refine zw 25 false ?_
 refine zh ?_
 refine zU (zl (zn (zq (yr (zt ?_)))))
 cases h
 exact zT Tryz.results149
 refine zj (zk (yn (zn (zs (zr ?_)))))
 refine zU ?_
 rcases zI h with ⟨h8,h⟩ | ⟨h8,h⟩
 refine zw 34 true ?_
 refine zg ?_
 refine zg ?_
 refine zg ?_
 refine zU ?_
 rcases zI h with ⟨h9,h⟩ | ⟨h9,h⟩
 replace h:=h.symm
 refine zw 39 true ?_
 refine zg ?_
 refine zg ?_
 refine zg ?_
 refine zU (zl (zn (zq ?_)))
 cases h
 exact zT Tryz.results149
 refine zw 39 false ?_
 refine zh ?_
 refine zU (zl (zn (zq ?_)))
 cases h
 exact zT Tryz.results149
 refine zw 34 false ?_
 refine zh ?_
 refine zU ?_
 refine zh ?_
 refine zU (zl (zn (zq ?_)))
 cases h
 exact zT Tryz.results149
set_option maxHeartbeats 4000000 in
theorem drossref52_limit_con {D:Prop} (c1:Similar) (r2:Bool) (h:drossref52_limit c1=some r2):Con D Tryz.prog 150 [(encSimilar c1)] (.bool r2):=by
 refine zP Tryz.call150 Tryz.func150 rfl Tryz.ntmps150 fun X w hT=>?_
 simp only [drossref52_limit] at h
 refine zs (zr ?_)
 refine zU (zl (zn (zs (zs (zr ?_)))))
 refine zU (zl (zn (zb (zs (zr ?_)))))
 refine zU (zl (zn ?_))
 rcases zI h with ⟨h3,h⟩ | ⟨h3,h⟩
 refine zi (zs (zr ?_))
 refine zU (zl (zn (zq (yr (zt ?_)))))
 cases h
 exact zT Tryz.results150
 refine zj (zs (zs (zr ?_)))
 refine zU (zl (zn ?_))
 rcases zI h with ⟨h4,h⟩ | ⟨h4,h⟩
 refine zi (zk (zn ?_))
 refine zi (zs (zr ?_))
 refine zU ?_
 rcases zI h with ⟨h5,h⟩ | ⟨h5,h⟩
 replace h:=h.symm
 refine zw 16 true ?_
 refine zg ?_
 refine zg ?_
 refine zg ?_
 refine zU (zl (zn (zq (yr (zt ?_)))))
 cases h
 exact zT Tryz.results150
 refine zw 16 false ?_
 refine zh ?_
 refine zU (zl (zn (zq (yr (zt ?_)))))
 cases h
 exact zT Tryz.results150
 refine zj (zr ?_)
 refine zU (zl (zn ?_))
 rcases zI h with ⟨h6,h⟩ | ⟨h6,h⟩
 refine zi (zs (zr ?_))
 refine zU ?_
 rcases zI h with ⟨h7,h⟩ | ⟨h7,h⟩
 replace h:=h.symm
 refine zw 16 true ?_
 refine zg ?_
 refine zg ?_
 refine zg ?_
 refine zU (zl (zn (zq (yr (zt ?_)))))
 cases h
 exact zT Tryz.results150
 refine zw 16 false ?_
 refine zh ?_
 refine zU (zl (zn (zq (yr (zt ?_)))))
 cases h
 exact zT Tryz.results150
 refine zj (zs (zr ?_))
 refine zU (zl (zn ?_))
 rcases zI h with ⟨h8,h⟩ | ⟨h8,h⟩
 refine zi (zs (zr ?_))
 refine zU ?_
 rcases zI h with ⟨h9,h⟩ | ⟨h9,h⟩
 replace h:=h.symm
 refine zw 26 true ?_
 refine zg ?_
 refine zg ?_
 refine zg ?_
 refine zU (zl (zn (zq (yr (zt ?_)))))
 cases h
 exact zT Tryz.results150
 refine zw 26 false ?_
 refine zh ?_
 refine zU (zl (zn (zq (yr (zt ?_)))))
 cases h
 exact zT Tryz.results150
 refine zj (zk (yn (zn (zs (zr ?_)))))
 refine zU (zl (zn (zq ?_)))
 cases h
 exact zT Tryz.results150
set_option maxRecDepth 20000 in
set_option maxHeartbeats 4000000 in
theorem drossref52_Error_con {D:Prop} (x1:Row) (y2:Row) (c3:Similar) (r4:Int) (h:drossref52_Error x1 y2 c3=some r4):Con D Tryz.prog 87 [(encRow x1),(encRow y2),(encSimilar c3)] (.int .i64 r4):=by
 refine zP Tryz.call87 Tryz.func87 rfl Tryz.ntmps87 fun X w hT=>?_
 simp only [drossref52_Error] at h
 refine zs (zr ?_)
 refine zU (zl (zn (zs (zs (zr ?_)))))
 refine zU ?_
 rcases zI h with ⟨h5,h⟩ | ⟨h5,h⟩
 refine zw 10 true ?_
 refine zh ?_
 refine zU ?_
 refine zh ?_
 refine zU (zl (zn ?_))
 refine zi (zs (zr ?_))
 refine zU (zl (zn (zq (zt ?_))))
 cases h
 exact zT Tryz.results87
 refine zw 10 false ?_
 refine zg ?_
 refine zg ?_
 refine zg ?_
 refine zg ?_
 refine zg ?_
 refine zg ?_
 refine zU ?_
 rcases zI h with ⟨h6,h⟩ | ⟨h6,h⟩
 refine zw 18 true ?_
 refine zh ?_
 refine zU (zl (zn ?_))
 refine zi (zs (zr ?_))
 refine zU (zl (zn (zq (zt ?_))))
 cases h
 exact zT Tryz.results87
 refine zw 18 false ?_
 refine zg ?_
 refine zg ?_
 refine zg ?_
 refine zg ?_
 refine zg ?_
 refine zg ?_
 refine zU (zl (zn ?_))
 rcases zI h with ⟨h7,h⟩ | ⟨h7,h⟩
 refine zi (zs (zr ?_))
 refine zU (zl (zn (zq (zt ?_))))
 cases h
 exact zT Tryz.results87
 refine zj (zk (zn (zs (zs (zr ?_)))))
 obtain ⟨x8,h9,h9a,h9b,h⟩:=zX h
 refine zU ?_
 obtain ⟨r10,h11,h⟩:=zB h
 refine zc (drossref01_Valid_con x8 _ h11) ?_
 refine zU ?_
 rcases zI h with ⟨h12,h⟩ | ⟨h12,h⟩
 refine zw 34 false ?_
 refine zg ?_
 refine zg ?_
 refine zg ?_
 refine zg ?_
 obtain ⟨x13,h14,h14a,h14b,h⟩:=zX h
 refine zg ?_
 refine zg ?_
 obtain ⟨r15,h16,h⟩:=zB h
 refine zc (drossref01_Valid_con x13 _ h16) ?_
 refine zg ?_
 refine zU ?_
 rcases zI h with ⟨h17,h⟩ | ⟨h17,h⟩
 refine zw 44 false ?_
 refine zg ?_
 obtain ⟨r18,h19,h⟩:=zB h
 refine zc (drossref52_limit_con c3 _ h19) ?_
 refine zg ?_
 refine zU (zl (zn ?_))
 rcases zI h with ⟨h20,h⟩ | ⟨h20,h⟩
 refine zj (zk (zn (zs (zr ?_))))
 refine zU (zl (zn (zq ?_)))
 cases h
 exact zT Tryz.results87
 refine zi (zs (zr ?_))
 refine zU (zl (zn (zq (zt ?_))))
 cases h
 exact zT Tryz.results87
 refine zw 44 true ?_
 refine zh ?_
 refine zU (zl (zn ?_))
 refine zi (zs (zr ?_))
 refine zU (zl (zn (zq (zt ?_))))
 cases h
 exact zT Tryz.results87
 refine zw 34 true ?_
 refine zh ?_
 refine zU ?_
 refine zh ?_
 refine zU (zl (zn ?_))
 refine zi (zs (zr ?_))
 refine zU (zl (zn (zq (zt ?_))))
 cases h
 exact zT Tryz.results87
set_option maxHeartbeats 4000000 in
theorem drossref56_rule_con {D:Prop} (n1:Int) (l2:List Similar) (r3:Int) (h:drossref56_rule n1 l2=some r3):Con D Tryz.prog 48 [(.int .i64 n1),(.slc (List.map encSimilar l2))] (.int .i64 r3):=by
 refine zP Tryz.call48 Tryz.func48 rfl Tryz.ntmps48 fun X w hT=>?_
 simp only [drossref56_rule] at h
 refine zs (zr ?_)
 refine zU (zl (zn (zs (zs (zr ?_)))))
 refine zU ?_
 rcases zI h with ⟨h4,h⟩ | ⟨h4,h⟩
 refine zw 11 true ?_
 refine zh ?_
 refine zU (zl (zn ?_))
 refine zi (zs (zr ?_))
 refine zU (zl (zn (zq (zt ?_))))
 cases h
 exact zT Tryz.results48
 refine zw 11 false ?_
 refine zg ?_
 refine zg ?_
 refine zg ?_
 refine zU (zl (zn ?_))
 rcases zI h with ⟨h5,h⟩ | ⟨h5,h⟩
 refine zi (zs (zr ?_))
 refine zU (zl (zn (zq (zt ?_))))
 cases h
 exact zT Tryz.results48
 refine zj (zk (zn (zs (zs (zr ?_)))))
 refine zU (zl (zn (zb ?_)))
 obtain ⟨o6,h7,h⟩:=zB h
 refine zO (fun (s:Int)=>⟨[(0,.p (.int .i64 n1)),(1,.p (.slc (List.map encSimilar l2))),(5,.p (.int .i64 s))],[]⟩) (fun (o:(Unit) ⊕ (Int))=>match o with | .inl o8=>tE (cX Tryz.f48 X w D hT) (.exit 0) ⟨[],[]⟩ | .inr o9=>tR Tryz.prog Tryz.f48 (.int .i64 o9)) h7 ?_ ?_
 clear h h4 h5 h7
 intro i10 x h
 simp only [drossref56_rule_l1] at h
 refine zs (zs (zr ?_))
 refine zU (zl (zn ?_))
 rcases zI h with ⟨h11,h⟩ | ⟨h11,h⟩
 have h11T:=eq_true h11
 refine zi (zk (zn (zs (zb (zs (zs (zr ?_)))))))
 obtain ⟨x12,h13,h13a,h13b,h⟩:=zX h
 refine zU ?_
 rcases zI h with ⟨h14,h⟩ | ⟨h14,h⟩
 have h14T:=eq_true h14
 refine zw 28 true ?_
 refine zh ?_
 refine zU (zl (zn ?_))
 refine zi (zs (zr ?_))
 refine zU (zl (zn (zq (zt (yr (zt ?_))))))
 cases h
 exact ⟨rfl,zT Tryz.results48⟩
 have h14T:=eq_false h14
 refine zw 28 false ?_
 refine zg ?_
 refine zg ?_
 refine zg ?_
 refine zg ?_
 refine zg ?_
 refine zg ?_
 refine zg ?_
 refine zU (zl (zn ?_))
 rcases zI h with ⟨h15,h⟩ | ⟨h15,h⟩
 have h15T:=eq_true h15
 refine zi (zs (zr ?_))
 refine zU (zl (zn (zq (zt (yr (zt ?_))))))
 cases h
 exact ⟨rfl,zT Tryz.results48⟩
 have h15T:=eq_false h15
 refine zj (zk (zn (zs (zr ?_))))
 obtain ⟨h16,h⟩:=ite_some h
 obtain ⟨h17,h⟩:=ite_some h
 refine zU (zl (zn (zs ?_)))
 obtain ⟨l18,h19,h⟩:=zB h
 replace h19:=Option.some.inj h19
 refine awp_le (st':=⟨[(0,.p (.int .i64 n1)),(1,.p (.slc (List.map encSimilar l2))),(5,.p (.int .i64 i10)),(6,.loc 6 1 0 0)],[(6,.arr 66 2 1 [.agg [.p (.int .i64 1),.own 38 1 0 l18.length]]),(38,.arr 142 3 1 (List.map AV.p (List.map encValue l18)))]⟩) (by simp only [go_sem,seval,h11T,h14T,h15T,←h19];all_goals ((repeat' refine And.intro ?_ ?_) <;> first | rfl | (simp;done) | (simp;rfl) | (simp [*];done) | (simp [*];rfl))) ?_
 clear h19
 refine zd ?_
 refine yU ?_
 obtain ⟨r20,h21,h⟩:=zB h
 refine yc (drossref52_Error_con (Row.mk 1 l18) (Row.mk 1 l18) x12 _ h21) ?_
 refine yU ?_
 refine yd (zn (zs (zr ?_)))
 refine zU (zl (zn ?_))
 rcases zI h with ⟨h22,h⟩ | ⟨h22,h⟩
 refine zi (zs (zr ?_))
 refine zU (zl (zn (zq (yr (zt ?_)))))
 cases h
 exact ⟨rfl,zT Tryz.results48⟩
 refine zj (zk (yn (zn (zr ?_))))
 refine zU (zl ?_)
 cases h
 exact ⟨rfl,zE⟩
 have h11T:=eq_false h11
 refine zj (zx (ze ?_))
 cases h
 exact ⟨rfl,zE⟩
 rcases o6 with ⟨⟩ | r23
 try simp only at h
 refine zA (yh (zn (zs (zr ?_))))
 refine zU (zl (zn (zq ?_)))
 cases h
 exact zT Tryz.results48
 try simp only at h
 refine zZ fun s hq=>?_
 refine yr (zt ?_)
 cases h
 exact hq
set_option maxHeartbeats 4000000 in
theorem drossref56_block_con {D:Prop} (n1:Int) (l2:List Int) (r3:Int) (h:drossref56_block n1 l2=some r3):Con D Tryz.prog 49 [(.int .i64 n1),(.slc (List.map (PV.int .i64) l2))] (.int .i64 r3):=by
 refine zP Tryz.call49 Tryz.func49 rfl Tryz.ntmps49 fun X w hT=>?_
 simp only [drossref56_block] at h
 refine zs (zr ?_)
 refine zU (zl (zn (zs (zs (zr ?_)))))
 refine zU (zl (zn (zb ?_)))
 obtain ⟨o4,h5,h⟩:=zB h
 refine zO (fun (s:Int)=>⟨[(0,.p (.int .i64 n1)),(1,.p (.slc (List.map (PV.int .i64) l2))),(5,.p (.int .i64 s))],[]⟩) (fun (o:(Unit) ⊕ (Int))=>match o with | .inl o6=>tE (cX Tryz.f49 X w D hT) (.exit 0) ⟨[(1,.p (.slc (List.map (PV.int .i64) l2)))],[]⟩ | .inr o7=>tR Tryz.prog Tryz.f49 (.int .i64 o7)) h5 ?_ ?_
 clear h h5
 intro i8 x h
 simp only [drossref56_block_l1] at h
 refine zs (zs (zr ?_))
 refine zU (zl (zn ?_))
 rcases zI h with ⟨h9,h⟩ | ⟨h9,h⟩
 refine zi (zk (zn (zs (zb (zs (zr ?_))))))
 obtain ⟨x10,h11,h11a,h11b,h⟩:=zX h
 refine zU ?_
 rcases zI h with ⟨h12,h⟩ | ⟨h12,h⟩
 refine zw 19 true ?_
 refine zh ?_
 refine zU (zl (zn ?_))
 refine zi (zs (zr ?_))
 refine zU (zl (zn (zq (yr (zt ?_)))))
 cases h
 exact ⟨rfl,zT Tryz.results49⟩
 refine zw 19 false ?_
 refine zg ?_
 refine zg ?_
 refine zg ?_
 refine zg ?_
 refine zg ?_
 refine zg ?_
 refine zU (zl (zn ?_))
 rcases zI h with ⟨h13,h⟩ | ⟨h13,h⟩
 refine zi (zs (zr ?_))
 refine zU (zl (zn (zq (yr (zt ?_)))))
 cases h
 exact ⟨rfl,zT Tryz.results49⟩
 refine zj (zk (yn (zn (zr ?_))))
 refine zU (zl ?_)
 cases h
 exact ⟨rfl,zE⟩
 refine zj (zx (ze ?_))
 cases h
 exact ⟨rfl,zE⟩
 rcases o4 with ⟨⟩ | r14
 try simp only at h
 refine zA (yh (zn (zs (zs (zr ?_)))))
 refine zU (zl (zn (zb ?_)))
 obtain ⟨o15,h16,h⟩:=zB h
 refine zO (fun (s:Int)=>⟨[(1,.p (.slc (List.map (PV.int .i64) l2))),(6,.p (.int .i64 s))],[]⟩) (fun (o:(Unit) ⊕ (Int))=>match o with | .inl o17=>tE (cX Tryz.f49 X w D hT) (.exit 2) ⟨[],[]⟩ | .inr o18=>tR Tryz.prog Tryz.f49 (.int .i64 o18)) h16 ?_ ?_
 clear h h5 h16
 intro i19 x h
 simp only [drossref56_block_l5] at h
 refine zs (zs (zr ?_))
 refine zU (zl (zn ?_))
 rcases zI h with ⟨h20,h⟩ | ⟨h20,h⟩
 refine zi (zk (zn (zs (zb (zs (zr ?_))))))
 refine zU (zl (zn (zb ?_)))
 obtain ⟨o21,h22,h⟩:=zB h
 refine zO (fun (s:Int)=>⟨[(1,.p (.slc (List.map (PV.int .i64) l2))),(6,.p (.int .i64 i19)),(7,.p (.int .i64 s))],[]⟩) (fun (o:(Unit) ⊕ (Int))=>match o with | .inl o23=>tE (cX Tryz.f49 X w D hT) (.exit 4) ⟨[(1,.p (.slc (List.map (PV.int .i64) l2))),(6,.p (.int .i64 i19))],[]⟩ | .inr o24=>tR Tryz.prog Tryz.f49 (.int .i64 o24)) h22 ?_ ?_
 clear h h20 h22
 intro k25 x h
 simp only [drossref56_block_l4] at h
 refine zs (zs (zr ?_))
 refine zU (zl (zn ?_))
 rcases zI h with ⟨h26,h⟩ | ⟨h26,h⟩
 refine zi (zk (zn (zs (zb (zs (zd ?_))))))
 obtain ⟨x27,h28,h28a,h28b,h⟩:=zX h
 obtain ⟨x29,h30,h30a,h30b,h⟩:=zX h
 refine yU ?_
 refine yd (zn ?_)
 rcases zI h with ⟨h31,h⟩ | ⟨h31,h⟩
 refine zi (zs (zr ?_))
 refine zU (zl (zn (zq (yr (zt ?_)))))
 cases h
 exact ⟨rfl,zT Tryz.results49⟩
 refine zj (zk (yn (zn (zr ?_))))
 refine zU (zl ?_)
 cases h
 exact ⟨rfl,zE⟩
 refine zj (zx (ze ?_))
 cases h
 exact ⟨rfl,zE⟩
 rcases o21 with ⟨⟩ | r32
 try simp only at h
 refine zA (yh (yn (zn (zr ?_))))
 refine zU (zl ?_)
 cases h
 exact ⟨rfl,zE⟩
 try simp only at h
 refine zZ fun s hq=>?_
 refine yr (yr (zt ?_))
 cases h
 refine ⟨rfl,?_⟩
 exact hq
 refine zj (zx (ze ?_))
 cases h
 exact ⟨rfl,zE⟩
 rcases o15 with ⟨⟩ | r33
 try simp only at h
 refine zA (yh (zn (zs (zr ?_))))
 refine zU (zl (zn (zq ?_)))
 cases h
 exact zT Tryz.results49
 try simp only at h
 refine zZ fun s hq=>?_
 refine yr (zt ?_)
 cases h
 exact hq
 try simp only at h
 refine zZ fun s hq=>?_
 refine yr (zt ?_)
 cases h
 exact hq
set_option maxHeartbeats 4000000 in
theorem drossref56_Valid_con {D:Prop} (n1:Int) (l2:Linkage) (r3:Int) (h:drossref56_Valid n1 l2=some r3):Con D Tryz.prog 15 [(.int .i64 n1),(encLinkage l2)] (.int .i64 r3):=by
 refine zP Tryz.call15 Tryz.func15 rfl Tryz.ntmps15 fun X w hT=>?_
 simp only [drossref56_Valid] at h
 refine zs (zr ?_)
 refine zU (zl (zn (zs (zs (zr ?_)))))
 refine zU ?_
 rcases zI h with ⟨h4,h⟩ | ⟨h4,h⟩
 refine zw 11 true ?_
 refine zh ?_
 refine zU (zl (zn ?_))
 refine zi (zs (zr ?_))
 refine zU (zl (zn (zq (zt ?_))))
 cases h
 exact zT Tryz.results15
 refine zw 11 false ?_
 refine zg ?_
 refine zg ?_
 refine zU (zl (zn ?_))
 rcases zI h with ⟨h5,h⟩ | ⟨h5,h⟩
 refine zi (zs (zr ?_))
 refine zU (zl (zn (zq (zt ?_))))
 cases h
 exact zT Tryz.results15
 refine zj (zk (zn (zs (zs (zr ?_)))))
 refine zU (zl (zn ?_))
 rcases zI h with ⟨h6,h⟩ | ⟨h6,h⟩
 refine zi (zs (zr ?_))
 refine zU (zl (zn (zq (zt ?_))))
 cases h
 exact zT Tryz.results15
 refine zj (zk (zn (zs (zs (zr ?_)))))
 refine zU (zl (zn (zb ?_)))
 obtain ⟨o7,h8,h⟩:=zB h
 refine zO (fun (s:Int)=>⟨[(0,.p (.int .i64 n1)),(3,.loc 3 1 0 0),(5,.p (.int .i64 s))],[(3,.arr 25 3 1 [.p (encLinkage l2)])]⟩) (fun (o:(Unit) ⊕ (Int))=>match o with | .inl o9=>tE (cX Tryz.f15 X w D hT) (.exit 0) ⟨[(0,.p (.int .i64 n1)),(3,.loc 3 1 0 0)],[(3,.arr 25 3 1 [.p (encLinkage l2)])]⟩ | .inr o10=>tR Tryz.prog Tryz.f15 (.int .i64 o10)) h8 ?_ ?_
 clear h h4 h5 h6 h8
 intro i11 x h
 simp only [drossref56_Valid_l1] at h
 refine zs (zs (zr ?_))
 refine zU (zl (zn ?_))
 rcases zI h with ⟨h12,h⟩ | ⟨h12,h⟩
 refine zi (zk (zn (zs (zb (zs (zr ?_))))))
 obtain ⟨x13,h14,h14a,h14b,h⟩:=zX h
 refine zU ?_
 obtain ⟨r15,h16,h⟩:=zB h
 refine zc (drossref56_rule_con n1 x13 _ h16) ?_
 refine zU (zl (zn (zs (zr ?_))))
 refine zU (zl (zn ?_))
 rcases zI h with ⟨h17,h⟩ | ⟨h17,h⟩
 refine zi (zs (zr ?_))
 refine zU (zl (zn (zq (yr (zt ?_)))))
 cases h
 exact ⟨rfl,zT Tryz.results15⟩
 refine zj (zk (yn (zn (zr ?_))))
 refine zU (zl ?_)
 cases h
 exact ⟨rfl,zE⟩
 refine zj (zx (ze ?_))
 cases h
 exact ⟨rfl,zE⟩
 rcases o7 with ⟨⟩ | r18
 try simp only at h
 refine zA (yh (zn (zs (zs (zr ?_)))))
 refine zU ?_
 obtain ⟨r19,h20,h⟩:=zB h
 refine zc (drossref56_block_con n1 l2.Block _ h20) ?_
 refine zU (zl (zn (zs (zr ?_))))
 refine zU (zl (zn ?_))
 rcases zI h with ⟨h21,h⟩ | ⟨h21,h⟩
 refine zi (zs (zr ?_))
 refine zU (zl (zn (zq (zt ?_))))
 cases h
 exact zT Tryz.results15
 refine zj (zk (zn (zs (zs (zr ?_)))))
 refine zU (zl (zn ?_))
 rcases zI h with ⟨h22,h⟩ | ⟨h22,h⟩
 refine zi (zs (zr ?_))
 refine zU (zl (zn (zq (zt ?_))))
 cases h
 exact zT Tryz.results15
 refine zj (zk (zn (zs (zs (zr ?_)))))
 refine zU (zl (zn (zb ?_)))
 obtain ⟨o23,h24,h⟩:=zB h
 refine zO (fun (s:Int)=>⟨[(0,.p (.int .i64 n1)),(3,.loc 3 1 0 0),(8,.p (.int .i64 s))],[(3,.arr 25 3 1 [.p (encLinkage l2)])]⟩) (fun (o:(Unit) ⊕ (Int))=>match o with | .inl o25=>tE (cX Tryz.f15 X w D hT) (.exit 2) ⟨[],[]⟩ | .inr o26=>tR Tryz.prog Tryz.f15 (.int .i64 o26)) h24 ?_ ?_
 clear h h4 h5 h6 h8 h20 h21 h22 h24
 intro i27 x h
 simp only [drossref56_Valid_l2] at h
 refine zs (zs (zr ?_))
 refine zU (zl (zn ?_))
 rcases zI h with ⟨h28,h⟩ | ⟨h28,h⟩
 refine zi (zk (zn (zs (zb (zs (zr ?_))))))
 obtain ⟨x29,h30,h30a,h30b,h⟩:=zX h
 refine zU ?_
 rcases zI h with ⟨h31,h⟩ | ⟨h31,h⟩
 refine zw 59 true ?_
 refine zh ?_
 refine zU (zl (zn ?_))
 refine zi (zs (zr ?_))
 refine zU (zl (zn (zq (yr (zt ?_)))))
 cases h
 exact ⟨rfl,zT Tryz.results15⟩
 refine zw 59 false ?_
 refine zg ?_
 refine zg ?_
 refine zg ?_
 refine zg ?_
 refine zg ?_
 refine zg ?_
 refine zU (zl (zn ?_))
 rcases zI h with ⟨h32,h⟩ | ⟨h32,h⟩
 refine zi (zs (zr ?_))
 refine zU (zl (zn (zq (yr (zt ?_)))))
 cases h
 exact ⟨rfl,zT Tryz.results15⟩
 refine zj (zk (yn (zn (zr ?_))))
 refine zU (zl ?_)
 cases h
 exact ⟨rfl,zE⟩
 refine zj (zx (ze ?_))
 cases h
 exact ⟨rfl,zE⟩
 rcases o23 with ⟨⟩ | r33
 try simp only at h
 refine zA (yh (zn (zs (zr ?_))))
 refine zU (zl (zn (zq ?_)))
 cases h
 exact zT Tryz.results15
 try simp only at h
 refine zZ fun s hq=>?_
 refine yr (zt ?_)
 cases h
 exact hq
 try simp only at h
 refine zZ fun s hq=>?_
 refine yr (zt ?_)
 cases h
 exact hq
set_option maxRecDepth 20000 in
set_option maxHeartbeats 4000000 in
theorem drossref03_letter_con {D:Prop} (c1:Int) (r2:Bool) (h:drossref03_letter c1=some r2):Con D Tryz.prog 189 [(.int .u8 c1)] (.bool r2):=by
 refine zP Tryz.call189 Tryz.func189 rfl Tryz.ntmps189 fun X w hT=>?_
 simp only [drossref03_letter] at h
 refine zs (zr ?_)
 refine zU (zl (zn (zs (zr ?_))))
 refine zU ?_
 rcases zI h with ⟨h3,h⟩ | ⟨h3,h⟩
 refine zw 5 true ?_
 refine zg ?_
 refine zg ?_
 refine zU ?_
 rcases zI h with ⟨h4,h⟩ | ⟨h4,h⟩
 refine zw 9 true ?_
 refine zh ?_
 refine zU ?_
 refine zh ?_
 refine zU (zl (zn (zq ?_)))
 cases h
 exact zT Tryz.results189
 refine zw 9 false ?_
 refine zg ?_
 refine zg ?_
 refine zg ?_
 rcases zI h with ⟨h5,h⟩ | ⟨h5,h⟩
 refine zw 12 true ?_
 refine zg ?_
 refine zg ?_
 refine zg ?_
 refine zU ?_
 rcases zI h with ⟨h6,h⟩ | ⟨h6,h⟩
 refine zw 17 true ?_
 refine zh ?_
 refine zU (zl (zn (zq ?_)))
 cases h
 exact zT Tryz.results189
 replace h:=h.symm
 refine zw 17 false ?_
 refine zg ?_
 refine zg ?_
 refine zU (zl (zn (zq ?_)))
 cases h
 exact zT Tryz.results189
 replace h:=h.symm
 refine zw 12 false ?_
 refine zh ?_
 refine zg ?_
 refine zU ?_
 refine zg ?_
 refine zg ?_
 refine zU (zl (zn (zq ?_)))
 cases h
 exact zT Tryz.results189
 refine zw 5 false ?_
 refine zh ?_
 refine zU ?_
 refine zg ?_
 refine zg ?_
 refine zg ?_
 rcases zI h with ⟨h7,h⟩ | ⟨h7,h⟩
 refine zw 12 true ?_
 refine zg ?_
 refine zg ?_
 refine zg ?_
 refine zU ?_
 rcases zI h with ⟨h8,h⟩ | ⟨h8,h⟩
 refine zw 17 true ?_
 refine zh ?_
 refine zU (zl (zn (zq ?_)))
 cases h
 exact zT Tryz.results189
 replace h:=h.symm
 refine zw 17 false ?_
 refine zg ?_
 refine zg ?_
 refine zU (zl (zn (zq ?_)))
 cases h
 exact zT Tryz.results189
 replace h:=h.symm
 refine zw 12 false ?_
 refine zh ?_
 refine zg ?_
 refine zU ?_
 refine zg ?_
 refine zg ?_
 refine zU (zl (zn (zq ?_)))
 cases h
 exact zT Tryz.results189
set_option maxRecDepth 20000 in
set_option maxHeartbeats 4000000 in
theorem drossref03_Name_con {D:Prop} (s1:List UInt8) (r2:Bool) (h:drossref03_Name s1=some r2):Con D Tryz.prog 129 [(.str s1)] (.bool r2):=by
 refine zP Tryz.call129 Tryz.func129 rfl Tryz.ntmps129 fun X w hT=>?_
 simp only [drossref03_Name] at h
 refine zs (zr ?_)
 refine zU (zl (zn (zs (zs (zr ?_)))))
 refine zU ?_
 rcases zI h with ⟨h3,h⟩ | ⟨h3,h⟩
 refine zw 7 true ?_
 refine zh ?_
 refine zU ?_
 refine zh ?_
 refine zU ?_
 refine zh ?_
 refine zU (zl (zn ?_))
 refine zi (zs (zr ?_))
 refine zU (zl (zn (zq (zt ?_))))
 cases h
 exact zT Tryz.results129
 refine zw 7 false ?_
 refine zg ?_
 refine zg ?_
 refine zg ?_
 refine zU ?_
 rcases zI h with ⟨h4,h⟩ | ⟨h4,h⟩
 refine zw 12 true ?_
 refine zh ?_
 refine zU ?_
 refine zh ?_
 refine zU (zl (zn ?_))
 refine zi (zs (zr ?_))
 refine zU (zl (zn (zq (zt ?_))))
 cases h
 exact zT Tryz.results129
 refine zw 12 false ?_
 refine zg ?_
 obtain ⟨c5,h6,h6l,h6L,h⟩:=zY 0 h
 refine zg ?_
 obtain ⟨r7,h8,h⟩:=zB h
 refine zc (drossref03_letter_con ((c5.toNat:Nat):Int) _ h8) ?_
 refine zg ?_
 refine zU ?_
 rcases zI h with ⟨h9,h⟩ | ⟨h9,h⟩
 refine zw 18 false ?_
 refine zg ?_
 refine zg ?_
 refine zU (zl (zn ?_))
 rcases zI h with ⟨h10,h⟩ | ⟨h10,h⟩
 refine zi (zs (zr ?_))
 refine zU (zl (zn (zq (zt ?_))))
 cases h
 exact zT Tryz.results129
 refine zj (zk (zn (zs (zs (zr ?_)))))
 refine zU (zl (zn (zb ?_)))
 obtain ⟨o11,h12,h⟩:=zB h
 refine zO (fun (s:Int)=>⟨[(0,.p (.str s1)),(3,.p (.int .i64 s))],[]⟩) (fun (o:(Unit) ⊕ (Bool))=>match o with | .inl o13=>tE (cX Tryz.f129 X w D hT) (.exit 0) ⟨[],[]⟩ | .inr o14=>tR Tryz.prog Tryz.f129 (.bool o14)) h12 ?_ ?_
 clear h h3 h4 h6 h6l h6L h8 h9 h10 h12
 intro i15 x h
 simp only [drossref03_Name_l1] at h
 refine zs (zs (zr ?_))
 refine zU (zl (zn ?_))
 rcases zI h with ⟨h16,h⟩ | ⟨h16,h⟩
 refine zi (zk (zn (zs (zb (zs (zr ?_))))))
 obtain ⟨c17,h18,h18a,h18b,h⟩:=zX h
 refine zU ?_
 obtain ⟨r19,h20,h⟩:=zB h
 refine zc (drossref03_letter_con ((c17.toNat:Nat):Int) _ h20) ?_
 refine zU ?_
 rcases zI h with ⟨h21,h⟩ | ⟨h21,h⟩
 refine zw 33 false ?_
 refine zh ?_
 refine zU (zl (zn ?_))
 refine zj (zk (yn (zn (zr ?_))))
 refine zU (zl ?_)
 cases h
 exact ⟨rfl,zE⟩
 refine zw 33 true ?_
 refine zg ?_
 refine zg ?_
 refine zg ?_
 refine zg ?_
 refine zg ?_
 rcases zI h with ⟨h22,h⟩ | ⟨h22,h⟩
 replace h:=h.symm
 refine zw 38 true ?_
 refine zh ?_
 refine zg ?_
 refine zU (zl (zn ?_))
 refine zi (zs (zr ?_))
 refine zU (zl (zn (zq (yr (zt ?_)))))
 cases h
 exact ⟨rfl,zT Tryz.results129⟩
 refine zw 38 false ?_
 refine zg ?_
 refine zg ?_
 refine zg ?_
 refine zg ?_
 refine zg ?_
 refine zU (zl (zn ?_))
 rcases zI h with ⟨h23,h⟩ | ⟨h23,h⟩
 refine zi (zs (zr ?_))
 refine zU (zl (zn (zq (yr (zt ?_)))))
 cases h
 exact ⟨rfl,zT Tryz.results129⟩
 refine zj (zk (yn (zn (zr ?_))))
 refine zU (zl ?_)
 cases h
 exact ⟨rfl,zE⟩
 refine zj (zx (ze ?_))
 cases h
 exact ⟨rfl,zE⟩
 rcases o11 with ⟨⟩ | r24
 try simp only at h
 refine zA (yh (zn (zs (zr ?_))))
 refine zU (zl (zn (zq ?_)))
 cases h
 exact zT Tryz.results129
 try simp only at h
 refine zZ fun s hq=>?_
 refine yr (zt ?_)
 cases h
 exact hq
 refine zw 18 true ?_
 refine zh ?_
 refine zU (zl (zn ?_))
 refine zi (zs (zr ?_))
 refine zU (zl (zn (zq (zt ?_))))
 cases h
 exact zT Tryz.results129
set_option maxHeartbeats 4000000 in
theorem drossref03_Attr_con {D:Prop} (l1:List (List UInt8)) (n2:List UInt8) (r3:Int) (h:drossref03_Attr l1 n2=some r3):Con D Tryz.prog 190 [(.slc (List.map PV.str l1)),(.str n2)] (.int .i64 r3):=by
 refine zP Tryz.call190 Tryz.func190 rfl Tryz.ntmps190 fun X w hT=>?_
 simp only [drossref03_Attr] at h
 refine zs (zr ?_)
 refine zU (zl (zn (zs (zs (zr ?_)))))
 refine zU (zl (zn (zb ?_)))
 obtain ⟨o4,h5,h⟩:=zB h
 refine zO (fun (s:Int)=>⟨[(0,.p (.slc (List.map PV.str l1))),(1,.p (.str n2)),(5,.p (.int .i64 s))],[]⟩) (fun (o:(Unit) ⊕ (Int))=>match o with | .inl o6=>tE (cX Tryz.f190 X w D hT) (.exit 0) ⟨[],[]⟩ | .inr o7=>tR Tryz.prog Tryz.f190 (.int .i64 o7)) h5 ?_ ?_
 clear h h5
 intro i8 x h
 simp only [drossref03_Attr_l1] at h
 refine zs (zs (zr ?_))
 refine zU (zl (zn ?_))
 rcases zI h with ⟨h9,h⟩ | ⟨h9,h⟩
 refine zi (zk (zn (zs (zb (zs (zr ?_))))))
 obtain ⟨x10,h11,h11a,h11b,h⟩:=zX h
 refine zU (zl (zn ?_))
 rcases zI h with ⟨h12,h⟩ | ⟨h12,h⟩
 refine zi (zs (zr ?_))
 refine zU (zl (zn (zq (yr (zt ?_)))))
 cases h
 exact ⟨rfl,zT Tryz.results190⟩
 refine zj (zk (yn (zn (zr ?_))))
 refine zU (zl ?_)
 cases h
 exact ⟨rfl,zE⟩
 refine zj (zx (ze ?_))
 cases h
 exact ⟨rfl,zE⟩
 rcases o4 with ⟨⟩ | r13
 try simp only at h
 refine zA (yh (zn (zs (zr ?_))))
 refine zU (zl (zn (zq ?_)))
 cases h
 exact zT Tryz.results190
 try simp only at h
 refine zZ fun s hq=>?_
 refine yr (zt ?_)
 cases h
 exact hq
set_option maxRecDepth 20000 in
set_option maxHeartbeats 4000000 in
theorem drossref03_Names_con {D:Prop} (l1:List (List UInt8)) (r2:Bool) (h:drossref03_Names l1=some r2):Con D Tryz.prog 130 [(.slc (List.map PV.str l1))] (.bool r2):=by
 refine zP Tryz.call130 Tryz.func130 rfl Tryz.ntmps130 fun X w hT=>?_
 simp only [drossref03_Names] at h
 refine zs (zr ?_)
 refine zU (zl (zn (zs (zs (zr ?_)))))
 refine zU (zl (zn (zb ?_)))
 obtain ⟨o3,h4,h⟩:=zB h
 refine zO (fun (s:Int)=>⟨[(0,.p (.slc (List.map PV.str l1))),(3,.p (.int .i64 s))],[]⟩) (fun (o:(Unit) ⊕ (Bool))=>match o with | .inl o5=>tE (cX Tryz.f130 X w D hT) (.exit 0) ⟨[],[]⟩ | .inr o6=>tR Tryz.prog Tryz.f130 (.bool o6)) h4 ?_ ?_
 clear h h4
 intro i7 x h
 simp only [drossref03_Names_l1] at h
 refine zs (zs (zr ?_))
 refine zU (zl (zn ?_))
 rcases zI h with ⟨h8,h⟩ | ⟨h8,h⟩
 refine zi (zk (zn (zs (zb (zs (zd ?_))))))
 obtain ⟨x9,h10,h10a,h10b,h⟩:=zX h
 refine yU ?_
 obtain ⟨r11,h12,h⟩:=zB h
 refine yc (drossref03_Name_con x9 _ h12) ?_
 refine yU ?_
 rcases zI h with ⟨h13,h⟩ | ⟨h13,h⟩
 refine yw 16 false ?_
 refine yg ?_
 refine yg ?_
 obtain ⟨h14,h⟩:=ite_some h
 obtain ⟨h15,h⟩:=ite_some h
 refine yg ?_
 refine yg ?_
 refine yg ?_
 refine yg ?_
 refine yg ?_
 obtain ⟨r16,h17,h⟩:=zB h
 refine yc (drossref03_Attr_con (l1.take (i7.toNat)) x9 _ h17) ?_
 refine yg ?_
 refine yU ?_
 refine yd (zn ?_)
 rcases zI h with ⟨h18,h⟩ | ⟨h18,h⟩
 refine zi (zs (zr ?_))
 refine zU (zl (zn (zq (yr (zt ?_)))))
 cases h
 exact ⟨rfl,zT Tryz.results130⟩
 refine zj (zk (yn (zn (zr ?_))))
 refine zU (zl ?_)
 cases h
 exact ⟨rfl,zE⟩
 refine yw 16 true ?_
 refine yk ?_
 refine yU ?_
 refine yd (zn ?_)
 refine zi (zs (zr ?_))
 refine zU (zl (zn (zq (yr (zt ?_)))))
 cases h
 exact ⟨rfl,zT Tryz.results130⟩
 refine zj (zx (ze ?_))
 cases h
 exact ⟨rfl,zE⟩
 rcases o3 with ⟨⟩ | r19
 try simp only at h
 refine zA (yh (zn (zs (zr ?_))))
 refine zU (zl (zn (zq ?_)))
 cases h
 exact zT Tryz.results130
 try simp only at h
 refine zZ fun s hq=>?_
 refine yr (zt ?_)
 cases h
 exact hq
set_option maxHeartbeats 4000000 in
theorem drossref01_Valids_con {D:Prop} (l1:List Value) (r2:Bool) (h:drossref01_Valids l1=some r2):Con D Tryz.prog 131 [(.slc (List.map encValue l1))] (.bool r2):=by
 refine zP Tryz.call131 Tryz.func131 rfl Tryz.ntmps131 fun X w hT=>?_
 simp only [drossref01_Valids] at h
 refine zs (zr ?_)
 refine zU (zl (zn (zs (zs (zr ?_)))))
 refine zU (zl (zn (zb ?_)))
 obtain ⟨o3,h4,h⟩:=zB h
 refine zO (fun (s:Int)=>⟨[(0,.p (.slc (List.map encValue l1))),(3,.p (.int .i64 s))],[]⟩) (fun (o:(Unit) ⊕ (Bool))=>match o with | .inl o5=>tE (cX Tryz.f131 X w D hT) (.exit 0) ⟨[],[]⟩ | .inr o6=>tR Tryz.prog Tryz.f131 (.bool o6)) h4 ?_ ?_
 clear h h4
 intro i7 x h
 simp only [drossref01_Valids_l1] at h
 refine zs (zs (zr ?_))
 refine zU (zl (zn ?_))
 rcases zI h with ⟨h8,h⟩ | ⟨h8,h⟩
 refine zi (zk (zn (zs (zb (zs (zr ?_))))))
 obtain ⟨x9,h10,h10a,h10b,h⟩:=zX h
 refine zU ?_
 obtain ⟨r11,h12,h⟩:=zB h
 refine zc (drossref01_Valid_con x9 _ h12) ?_
 refine zU (zl (zn ?_))
 rcases zI h with ⟨h13,h⟩ | ⟨h13,h⟩
 refine zj (zk (yn (zn (zr ?_))))
 refine zU (zl ?_)
 cases h
 exact ⟨rfl,zE⟩
 refine zi (zs (zr ?_))
 refine zU (zl (zn (zq (yr (zt ?_)))))
 cases h
 exact ⟨rfl,zT Tryz.results131⟩
 refine zj (zx (ze ?_))
 cases h
 exact ⟨rfl,zE⟩
 rcases o3 with ⟨⟩ | r14
 try simp only at h
 refine zA (yh (zn (zs (zr ?_))))
 refine zU (zl (zn (zq ?_)))
 cases h
 exact zT Tryz.results131
 try simp only at h
 refine zZ fun s hq=>?_
 refine yr (zt ?_)
 cases h
 exact hq
set_option maxHeartbeats 4000000 in
theorem drossref03_Valid_con {D:Prop} (t1:Table) (r2:Int) (h:drossref03_Valid t1=some r2):Con D Tryz.prog 78 [(encTable t1)] (.int .i64 r2):=by
 refine zP Tryz.call78 Tryz.func78 rfl Tryz.ntmps78 fun X w hT=>?_
 simp only [drossref03_Valid] at h
 refine zs (zr ?_)
 refine zU (zl (zn (zs (zs (zr ?_)))))
 refine zU ?_
 obtain ⟨r3,h4,h⟩:=zB h
 refine zc (drossref03_Name_con t1.Name _ h4) ?_
 refine zU (zl (zn ?_))
 rcases zI h with ⟨h5,h⟩ | ⟨h5,h⟩
 refine zj (zk (zn (zs (zs (zr ?_)))))
 refine zU ?_
 rcases zI h with ⟨h6,h⟩ | ⟨h6,h⟩
 refine zw 14 true ?_
 refine zh ?_
 refine zU (zl (zn ?_))
 refine zi (zs (zr ?_))
 refine zU (zl (zn (zq (zt ?_))))
 cases h
 exact zT Tryz.results78
 refine zw 14 false ?_
 refine zg ?_
 refine zg ?_
 refine zg ?_
 refine zg ?_
 refine zU (zl (zn ?_))
 rcases zI h with ⟨h7,h⟩ | ⟨h7,h⟩
 refine zi (zs (zr ?_))
 refine zU (zl (zn (zq (zt ?_))))
 cases h
 exact zT Tryz.results78
 refine zj (zk (zn (zs (zs (zr ?_)))))
 refine zU ?_
 obtain ⟨r8,h9,h⟩:=zB h
 refine zc (drossref03_Names_con t1.Attrs _ h9) ?_
 refine zU (zl (zn ?_))
 rcases zI h with ⟨h10,h⟩ | ⟨h10,h⟩
 refine zj (zk (zn (zs (zr ?_))))
 refine zU (zl (zn (zs (zs (zr ?_)))))
 refine zU (zl (zn (zb ?_)))
 obtain ⟨o11,h12,h⟩:=zB h
 refine zO (fun (s:Int×Int)=>⟨[(1,.loc 1 1 0 0),(3,.p (.int .i64 s.1)),(4,.p (.int .i64 s.2))],[(1,.arr 41 3 1 [.p (encTable t1)])]⟩) (fun (o:(Unit) ⊕ (Int))=>match o with | .inl o13=>tE (cX Tryz.f78 X w D hT) (.exit 0) ⟨[],[]⟩ | .inr o14=>tR Tryz.prog Tryz.f78 (.int .i64 o14)) h12 ?_ ?_
 clear h h4 h5 h6 h7 h9 h10 h12
 intro s x h
 obtain ⟨b15,i16⟩:=s
 simp only [drossref03_Valid_l1] at h
 dsimp only
 refine zs (zs (zr ?_))
 refine zU (zl (zn ?_))
 rcases zI h with ⟨h17,h⟩ | ⟨h17,h⟩
 refine zi (zk (zn (zs (zb (zs (zr ?_))))))
 obtain ⟨x18,h19,h19a,h19b,h⟩:=zX h
 refine zU (zl (zn (zs (zs (zr ?_)))))
 refine zU (zl (zn ?_))
 rcases zI h with ⟨h20,h⟩ | ⟨h20,h⟩
 refine zi (zs (zr ?_))
 refine zU (zl (zn (zq (zt (yr (zt ?_))))))
 cases h
 exact ⟨rfl,zT Tryz.results78⟩
 refine zj (zk (zn (zs (zr ?_))))
 refine zU (zl (zn (zs (zs (zr ?_)))))
 refine zU (zl (zn ?_))
 rcases zI h with ⟨h21,h⟩ | ⟨h21,h⟩
 refine zi (zs (zr ?_))
 refine zU (zl (zn (zq (zt (yr (zt ?_))))))
 cases h
 exact ⟨rfl,zT Tryz.results78⟩
 refine zj (zk (zn (zs (zr ?_))))
 refine zU ?_
 obtain ⟨r22,h23,h⟩:=zB h
 refine zc (drossref01_Valids_con x18.Values _ h23) ?_
 refine zU (zl (zn ?_))
 rcases zI h with ⟨h24,h⟩ | ⟨h24,h⟩
 refine zj (zk (yn (zn (zr ?_))))
 refine zU (zl ?_)
 cases h
 exact ⟨rfl,zE⟩
 refine zi (zs (zr ?_))
 refine zU (zl (zn (zq (yr (zt ?_)))))
 cases h
 exact ⟨rfl,zT Tryz.results78⟩
 refine zj (zx (ze ?_))
 cases h
 exact ⟨rfl,zE⟩
 rcases o11 with ⟨⟩ | r25
 try simp only at h
 refine zA (yh (zn (zs (zr ?_))))
 refine zU (zl (zn (zq ?_)))
 cases h
 exact zT Tryz.results78
 try simp only at h
 refine zZ fun s hq=>?_
 refine yr (zt ?_)
 cases h
 exact hq
 refine zi (zs (zr ?_))
 refine zU (zl (zn (zq (zt ?_))))
 cases h
 exact zT Tryz.results78
 refine zi (zs (zr ?_))
 refine zU (zl (zn (zq (zt ?_))))
 cases h
 exact zT Tryz.results78
set_option maxHeartbeats 4000000 in
theorem drossref56_Error_con {D:Prop} (t1:Table) (l2:Linkage) (r3:Int) (h:drossref56_Error t1 l2=some r3):Con D Tryz.prog 38 [(encTable t1),(encLinkage l2)] (.int .i64 r3):=by
 refine zP Tryz.call38 Tryz.func38 rfl Tryz.ntmps38 fun X w hT=>?_
 simp only [drossref56_Error] at h
 refine zs (zr ?_)
 refine zU (zl (zn (zs (zs (zr ?_)))))
 refine zU ?_
 obtain ⟨r4,h5,h⟩:=zB h
 refine zc (drossref03_Valid_con t1 _ h5) ?_
 refine zU (zl (zn (zs (zr ?_))))
 refine zU (zl (zn ?_))
 rcases zI h with ⟨h6,h⟩ | ⟨h6,h⟩
 refine zi (zs (zr ?_))
 refine zU (zl (zn (zq (zt ?_))))
 cases h
 exact zT Tryz.results38
 refine zj (zk (zn (zs (zs (zr ?_)))))
 refine zU ?_
 obtain ⟨r7,h8,h⟩:=zB h
 refine zc (drossref56_Valid_con (t1.Attrs.length:Int) l2 _ h8) ?_
 refine zU (zl (zn (zs (zr ?_))))
 refine zU (zl (zn ?_))
 rcases zI h with ⟨h9,h⟩ | ⟨h9,h⟩
 refine zi (zs (zr ?_))
 refine zU (zl (zn (zq (zt ?_))))
 cases h
 exact zT Tryz.results38
 refine zj (zk (zn (zs (zs (zr ?_)))))
 refine zU (zl (zn ?_))
 rcases zI h with ⟨h10,h⟩ | ⟨h10,h⟩
 refine zi (zs (zr ?_))
 refine zU (zl (zn (zq (zt ?_))))
 cases h
 exact zT Tryz.results38
 refine zj (zk (zn (zs (zr ?_))))
 refine zU (zl (zn (zq ?_)))
 cases h
 exact zT Tryz.results38
set_option maxHeartbeats 4000000 in
theorem drossref03_Find_con {D:Prop} (t1:Table) (i2:Int) (r3:Int×Bool) (h:drossref03_Find t1 i2=some r3):Con D Tryz.prog 59 [(encTable t1),(.int .i64 i2)] (.tup [(.int .i64 r3.1),(.bool r3.2)]):=by
 refine zP Tryz.call59 Tryz.func59 rfl Tryz.ntmps59 fun X w hT=>?_
 simp only [drossref03_Find] at h
 refine zs (zr ?_)
 refine zU (zl (zn (zs (zs (zr ?_)))))
 refine zU (zl (zn (zb ?_)))
 obtain ⟨o4,h5,h⟩:=zB h
 refine zO (fun (s:Int)=>⟨[(1,.p (.int .i64 i2)),(2,.loc 2 1 0 0),(6,.p (.int .i64 s))],[(2,.arr 41 3 1 [.p (encTable t1)])]⟩) (fun (o:(Unit) ⊕ (Int×Bool))=>match o with | .inl o6=>tE (cX Tryz.f59 X w D hT) (.exit 0) ⟨[],[]⟩ | .inr o7=>tR Tryz.prog Tryz.f59 (.tup [(.int .i64 o7.1),(.bool o7.2)])) h5 ?_ ?_
 clear h h5
 intro i8 x h
 simp only [drossref03_Find_l1] at h
 refine zs (zs (zr ?_))
 refine zU (zl (zn ?_))
 rcases zI h with ⟨h9,h⟩ | ⟨h9,h⟩
 refine zi (zk (zn (zs (zb (zs (zr ?_))))))
 obtain ⟨x10,h11,h11a,h11b,h⟩:=zX h
 refine zU (zl (zn ?_))
 rcases zI h with ⟨h12,h⟩ | ⟨h12,h⟩
 refine zi (zs (zr ?_))
 refine zU (zl (zn (zq (yr (zt ?_)))))
 cases h
 exact ⟨rfl,zT Tryz.results59⟩
 refine zj (zk (yn (zn (zr ?_))))
 refine zU (zl ?_)
 cases h
 exact ⟨rfl,zE⟩
 refine zj (zx (ze ?_))
 cases h
 exact ⟨rfl,zE⟩
 rcases o4 with ⟨⟩ | r13
 try simp only at h
 refine zA (yh (zn (zs (zr ?_))))
 refine zU (zl (zn (zq ?_)))
 cases h
 exact zT Tryz.results59
 try simp only at h
 refine zZ fun s hq=>?_
 refine yr (zt ?_)
 cases h
 exact hq
set_option maxHeartbeats 4000000 in
theorem drossref01_sign_con {D:Prop} (a1:Int) (b2:Int) (r3:Int) (h:drossref01_sign a1 b2=some r3):Con D Tryz.prog 215 [(.int .i64 a1),(.int .i64 b2)] (.int .i64 r3):=by
 refine zP Tryz.call215 Tryz.func215 rfl Tryz.ntmps215 fun X w hT=>?_
 simp only [drossref01_sign] at h
 refine zs (zr ?_)
 refine zU (zl (zn (zs (zs (zr ?_)))))
 refine zU (zl (zn ?_))
 rcases zI h with ⟨h4,h⟩ | ⟨h4,h⟩
 refine zi (zs (zr ?_))
 refine zU (zl (zn (zq (zt ?_))))
 cases h
 exact zT Tryz.results215
 refine zj (zk (zn (zs (zs (zr ?_)))))
 refine zU (zl (zn ?_))
 rcases zI h with ⟨h5,h⟩ | ⟨h5,h⟩
 refine zi (zs (zr ?_))
 refine zU (zl (zn (zq (zt ?_))))
 cases h
 exact zT Tryz.results215
 refine zj (zk (zn (zs (zr ?_))))
 refine zU (zl (zn (zq ?_)))
 cases h
 exact zT Tryz.results215
set_option maxRecDepth 20000 in
set_option maxHeartbeats 4000000 in
theorem drossref01_strings_con {D:Prop} (a1:List UInt8) (b2:List UInt8) (r3:Int) (h:drossref01_strings a1 b2=some r3):Con D Tryz.prog 216 [(.str a1),(.str b2)] (.int .i64 r3):=by
 refine zP Tryz.call216 Tryz.func216 rfl Tryz.ntmps216 fun X w hT=>?_
 simp only [drossref01_strings] at h
 refine zs (zr ?_)
 refine zU (zl (zn (zs (zs (zr ?_)))))
 refine zU (zl (zn (zb ?_)))
 obtain ⟨o4,h5,h⟩:=zB h
 refine zO (fun (s:Int)=>⟨[(0,.p (.str a1)),(1,.p (.str b2)),(5,.p (.int .i64 s))],[]⟩) (fun (o:(Unit) ⊕ (Int))=>match o with | .inl o6=>tE (cX Tryz.f216 X w D hT) (.exit 0) ⟨[(0,.p (.str a1)),(1,.p (.str b2))],[]⟩ | .inr o7=>tR Tryz.prog Tryz.f216 (.int .i64 o7)) h5 ?_ ?_
 clear h h5
 intro i8 x h
 simp only [drossref01_strings_l1] at h
 refine zs (zs (zr ?_))
 refine zU ?_
 rcases zI h with ⟨h9,h⟩ | ⟨h9,h⟩
 refine zw 10 true ?_
 refine zg ?_
 refine zg ?_
 refine zg ?_
 refine zg ?_
 refine zU (zl (zn ?_))
 rcases zI h with ⟨h10,h⟩ | ⟨h10,h⟩
 refine zi (zk (zn (zs (zb (zs (zd ?_))))))
 obtain ⟨c11,h12,h12a,h12b,h⟩:=zX h
 obtain ⟨c13,h14,h14a,h14b,h⟩:=zX h
 refine yU ?_
 refine yd (zn ?_)
 rcases zI h with ⟨h15,h⟩ | ⟨h15,h⟩
 refine zi (zs (zd ?_))
 refine yU ?_
 obtain ⟨r16,h17,h⟩:=zB h
 refine yc (drossref01_sign_con (IntKind.i64.wrap ((c11.toNat:Nat):Int)) (IntKind.i64.wrap ((c13.toNat:Nat):Int)) _ h17) ?_
 refine yU ?_
 refine yd (zn (zq (yr (zt ?_))))
 cases h
 exact ⟨rfl,zT Tryz.results216⟩
 refine zj (zk (yn (zn (zr ?_))))
 refine zU (zl ?_)
 cases h
 exact ⟨rfl,zE⟩
 refine zj (zx (ze ?_))
 cases h
 exact ⟨rfl,zE⟩
 refine zw 10 false ?_
 refine zh ?_
 refine zU (zl (zn ?_))
 refine zj (zx (ze ?_))
 cases h
 exact ⟨rfl,zE⟩
 rcases o4 with ⟨⟩ | r18
 try simp only at h
 refine zA (yh (zn (zs (zr ?_))))
 refine zU ?_
 obtain ⟨r19,h20,h⟩:=zB h
 refine zc (drossref01_sign_con (a1.length:Int) (b2.length:Int) _ h20) ?_
 refine zU (zl (zn (zq ?_)))
 cases h
 exact zT Tryz.results216
 try simp only at h
 refine zZ fun s hq=>?_
 refine yr (zt ?_)
 cases h
 exact hq
set_option maxHeartbeats 4000000 in
theorem drossref01_Compare_con {D:Prop} (a1:Value) (b2:Value) (r3:Int) (h:drossref01_Compare a1 b2=some r3):Con D Tryz.prog 174 [(encValue a1),(encValue b2)] (.int .i64 r3):=by
 refine zP Tryz.call174 Tryz.func174 rfl Tryz.ntmps174 fun X w hT=>?_
 simp only [drossref01_Compare] at h
 refine zs (zr ?_)
 refine zU (zl (zn (zs (zs (zr ?_)))))
 refine zU ?_
 obtain ⟨r4,h5,h⟩:=zB h
 refine zc (drossref01_sign_con a1.Kind b2.Kind _ h5) ?_
 refine zU (zl (zn (zs (zr ?_))))
 refine zU (zl (zn ?_))
 rcases zI h with ⟨h6,h⟩ | ⟨h6,h⟩
 refine zi (zs (zr ?_))
 refine zU (zl (zn (zq (zt ?_))))
 cases h
 exact zT Tryz.results174
 refine zj (zk (zn (zs (zs (zr ?_)))))
 refine zU ?_
 obtain ⟨r7,h8,h⟩:=zB h
 refine zc (drossref01_sign_con a1.Num b2.Num _ h8) ?_
 refine zU (zl (zn (zs (zr ?_))))
 refine zU (zl (zn ?_))
 rcases zI h with ⟨h9,h⟩ | ⟨h9,h⟩
 refine zi (zs (zr ?_))
 refine zU (zl (zn (zq (zt ?_))))
 cases h
 exact zT Tryz.results174
 refine zj (zk (zn (zs (zr ?_))))
 refine zU ?_
 obtain ⟨r10,h11,h⟩:=zB h
 refine zc (drossref01_strings_con a1.Str b2.Str _ h11) ?_
 refine zU (zl (zn (zq ?_)))
 cases h
 exact zT Tryz.results174
set_option maxRecDepth 20000 in
set_option maxHeartbeats 4000000 in
theorem drossref52_Distance_con {D:Prop} (a1:List UInt8) (b2:List UInt8) (r3:Int) (h:drossref52_Distance a1 b2=some r3):Con D Tryz.prog 175 [(.str a1),(.str b2)] (.int .i64 r3):=by
 refine zP Tryz.call175 Tryz.func175 rfl Tryz.ntmps175 fun X w hT=>?_
 simp only [drossref52_Distance] at h
 refine zs (zr ?_)
 refine zU (zl (zn (zs (zr ?_))))
 refine zU (zl (zn (zs (zs (zr ?_)))))
 refine zU (zl (zn (zb ?_)))
 obtain ⟨d4,h5,h⟩:=zB h
 refine zO (fun (s:List Int×Int)=>⟨[(0,.p (.str a1)),(1,.p (.str b2)),(5,.own 20 1 0 s.1.length),(6,.p (.int .i64 s.2))],[(20,.arr 3 1 1 (List.map AV.p (List.map (PV.int .i64) s.1)))]⟩) (fun (o6:List Int)=>tE (cX Tryz.f175 X w D hT) (.exit 0) ⟨[(0,.p (.str a1)),(1,.p (.str b2)),(5,.own 20 1 0 o6.length)],[(20,.arr 3 1 1 (List.map AV.p (List.map (PV.int .i64) o6)))]⟩) h5 ?_ ?_
 clear h h5
 intro s x h
 obtain ⟨d7,k8⟩:=s
 simp only [drossref52_Distance_l1] at h
 dsimp only
 refine zs (zs (zr ?_))
 refine zU (zl (zn ?_))
 rcases zI h with ⟨h9,h⟩ | ⟨h9,h⟩
 refine zi (zk (zn (zs (zb (zr ?_)))))
 obtain ⟨h10,h⟩:=ite_some h
 refine zU (zl (yn (zn (zr ?_))))
 refine zU (zl ?_)
 cases h
 exact ⟨rfl,zE⟩
 refine zj (zx (ze ?_))
 cases h
 exact ⟨rfl,zE⟩
 try simp only at h
 refine zA (yh (zn (zs (zs (zr ?_)))))
 refine zU (zl (zn (zb ?_)))
 obtain ⟨d11,h12,h⟩:=zB h
 refine zO (fun (s:List Int×Int)=>⟨[(0,.p (.str a1)),(1,.p (.str b2)),(5,.p (.slc (List.map (PV.int .i64) s.1))),(7,.p (.int .i64 s.2))],[]⟩) (fun (o13:List Int)=>tE (cX Tryz.f175 X w D hT) (.exit 2) ⟨[(1,.p (.str b2)),(5,.p (.slc (List.map (PV.int .i64) o13)))],[]⟩) h12 ?_ ?_
 clear h h5 h12
 intro s x h
 obtain ⟨d14,i15⟩:=s
 simp only [drossref52_Distance_l5] at h
 dsimp only
 refine zs (zs (zr ?_))
 refine zU (zl (zn ?_))
 rcases zI h with ⟨h16,h⟩ | ⟨h16,h⟩
 refine zi (zk (zn (zs (zb (zs (zr ?_))))))
 refine zU (zl (zn (zs (zs (zr ?_)))))
 refine zU (zl (zn (zb ?_)))
 obtain ⟨n17,h18,h⟩:=zB h
 refine zO (fun (s:List Int×Int)=>⟨[(0,.p (.str a1)),(1,.p (.str b2)),(5,.p (.slc (List.map (PV.int .i64) d14))),(7,.p (.int .i64 i15)),(8,.own 29 1 0 s.1.length),(9,.p (.int .i64 s.2))],[(29,.arr 3 1 1 (List.map AV.p (List.map (PV.int .i64) s.1)))]⟩) (fun (o19:List Int)=>tE (cX Tryz.f175 X w D hT) (.exit 4) ⟨[(0,.p (.str a1)),(1,.p (.str b2)),(7,.p (.int .i64 i15)),(8,.own 29 1 0 o19.length)],[(29,.arr 3 1 1 (List.map AV.p (List.map (PV.int .i64) o19)))]⟩) h18 ?_ ?_
 clear h h16 h18
 intro s x h
 obtain ⟨n20,k21⟩:=s
 simp only [drossref52_Distance_l4] at h
 dsimp only
 refine zs (zs (zr ?_))
 refine zU (zl (zn ?_))
 rcases zI h with ⟨h22,h⟩ | ⟨h22,h⟩
 refine zi (zk (zn (zs (zb (zs (zr ?_))))))
 obtain ⟨x23,h24,h24a,h24b,h⟩:=zX h
 refine zU (zl (zn (zs (zs (zd ?_)))))
 obtain ⟨c25,h26,h26a,h26b,h⟩:=zX h
 obtain ⟨c27,h28,h28a,h28b,h⟩:=zX h
 refine yU ?_
 refine yd (zn ?_)
 rcases zI h with ⟨h29,h⟩ | ⟨h29,h⟩
 refine zi (zr ?_)
 refine zU (zl (zn (zd ?_)))
 obtain ⟨x30,h31,h31a,h31b,h⟩:=zX h
 obtain ⟨x32,h33,h33a,h33b,h⟩:=zX h
 obtain ⟨h34,h⟩:=ite_some h
 refine yU ?_
 refine yd (yn (zn (zr ?_)))
 refine zU (zl ?_)
 cases h
 exact ⟨rfl,zE⟩
 refine zj (zk (zn (zd ?_)))
 obtain ⟨x35,h36,h36a,h36b,h⟩:=zX h
 obtain ⟨x37,h38,h38a,h38b,h⟩:=zX h
 obtain ⟨h39,h⟩:=ite_some h
 refine yU ?_
 refine yd (yn (zn (zr ?_)))
 refine zU (zl ?_)
 cases h
 exact ⟨rfl,zE⟩
 refine zj (zx (ze ?_))
 cases h
 exact ⟨rfl,zE⟩
 try simp only at h
 refine zA (yh (zn (zr ?_)))
 refine zU (zl (yn (zn (zr ?_))))
 refine zU (zl ?_)
 cases h
 exact ⟨rfl,zE⟩
 refine zj (zx (ze ?_))
 cases h
 exact ⟨rfl,zE⟩
 try simp only at h
 refine zA (yh (zn (zs (zr ?_))))
 obtain ⟨x40,h41,h41a,h41b,h⟩:=zX h
 have h41N:=nat_get h41
 refine zU (zl (zn (zq ?_)))
 cases h
 exact zT Tryz.results175
set_option maxHeartbeats 4000000 in
theorem drossref52_long_con {D:Prop} (s1:List UInt8) (r2:Bool) (h:drossref52_long s1=some r2):Con D Tryz.prog 217 [(.str s1)] (.bool r2):=by
 refine zP Tryz.call217 Tryz.func217 rfl Tryz.ntmps217 fun X w hT=>?_
 simp only [drossref52_long] at h
 refine zs (zr ?_)
 refine zU (zl (zn (zs (zr ?_))))
 refine zU (zl (zn (zq ?_)))
 cases h
 exact zT Tryz.results217
set_option maxRecDepth 20000 in
set_option maxHeartbeats 4000000 in
theorem drossref52_Grams_con {D:Prop} (s1:List UInt8) (q2:Int) (r3:List (List UInt8)×Int) (h:drossref52_Grams s1 q2=some r3):Con D Tryz.prog 218 [(.str s1),(.int .i64 q2)] (.tup [(.slc (List.map PV.str r3.1)),(.int .i64 r3.2)]):=by
 refine zP Tryz.call218 Tryz.func218 rfl Tryz.ntmps218 fun X w hT=>?_
 simp only [drossref52_Grams] at h
 refine zs (zr ?_)
 refine zU (zl (zn (zs (zs (zr ?_)))))
 refine zU ?_
 obtain ⟨r4,h5,h⟩:=zB h
 refine zc (drossref52_long_con s1 _ h5) ?_
 refine zl (zn ?_)
 rcases zI h with ⟨h6,h⟩ | ⟨h6,h⟩
 refine zi (zs (zr ?_))
 refine zU (zl (zn (zq (zt ?_))))
 cases h
 exact zT Tryz.results218
 refine zj (zk (zn (zs (zs (zr ?_)))))
 refine zU ?_
 rcases zI h with ⟨h7,h⟩ | ⟨h7,h⟩
 refine zw 15 true ?_
 refine zh ?_
 refine zU (zl (zn ?_))
 refine zi (zs (zr ?_))
 refine zU (zl (zn (zq (zt ?_))))
 cases h
 exact zT Tryz.results218
 refine zw 15 false ?_
 refine zg ?_
 refine zg ?_
 refine zU (zl (zn ?_))
 rcases zI h with ⟨h8,h⟩ | ⟨h8,h⟩
 refine zi (zs (zr ?_))
 refine zU (zl (zn (zq (zt ?_))))
 cases h
 exact zT Tryz.results218
 refine zj (zk (zn (zs (zr ?_))))
 refine zU (zl (zn (zs (zs (zr ?_)))))
 refine zU (zl (zn (zb ?_)))
 obtain ⟨w9,h10,h⟩:=zB h
 refine zO (fun (s:List UInt8×Int)=>⟨[(0,.p (.str s1)),(1,.p (.int .i64 q2)),(6,.p (.str s.1)),(7,.p (.int .i64 s.2))],[]⟩) (fun (o11:List UInt8)=>tE (cX Tryz.f218 X w D hT) (.exit 0) ⟨[(0,.p (.str s1)),(1,.p (.int .i64 q2)),(6,.p (.str o11))],[]⟩) h10 ?_ ?_
 clear h h5 h6 h7 h8 h10
 intro s x h
 obtain ⟨w12,i13⟩:=s
 simp only [drossref52_Grams_l1] at h
 dsimp only
 refine zs (zs (zr ?_))
 refine zU (zl (zn ?_))
 rcases zI h with ⟨h14,h⟩ | ⟨h14,h⟩
 refine zi (zk (zn (zs (zb (zr ?_)))))
 obtain ⟨h15,h⟩:=ite_some h
 obtain ⟨h16,h⟩:=ite_some h
 refine zU (zl (yn (zn (zr ?_))))
 refine zU (zl ?_)
 cases h
 exact ⟨rfl,zE⟩
 refine zj (zx (ze ?_))
 cases h
 exact ⟨rfl,zE⟩
 try simp only at h
 refine zA (yh (zn (zs (zr ?_))))
 refine zU (zl (zn (zs (zs (zr ?_)))))
 refine zU (zl (zn (zb ?_)))
 obtain ⟨o17,h18,h⟩:=zB h
 refine zO (fun (s:List (List UInt8)×Int)=>⟨[(0,.p (.str s1)),(1,.p (.int .i64 q2)),(6,.p (.str w9)),(8,.own 53 1 0 s.1.length),(9,.p (.int .i64 s.2))],[(53,.arr 9 1 1 (List.map AV.p (List.map PV.str s.1)))]⟩) (fun (o19:List (List UInt8))=>tE (cX Tryz.f218 X w D hT) (.exit 2) ⟨[(8,.own 53 1 0 o19.length)],[(53,.arr 9 1 1 (List.map AV.p (List.map PV.str o19)))]⟩) h18 ?_ ?_
 clear h h5 h6 h7 h8 h10 h18
 intro s x h
 obtain ⟨o20,i21⟩:=s
 simp only [drossref52_Grams_l5] at h
 dsimp only
 refine zs (zs (zr ?_))
 refine zU ?_
 rcases zI h with ⟨h22,h⟩ | ⟨h22,h⟩
 refine zw 34 true ?_
 refine zg ?_
 refine zg ?_
 refine zg ?_
 refine zg ?_
 refine zg ?_
 refine zg ?_
 refine zg ?_
 refine zU (zl (zn ?_))
 rcases zI h with ⟨h23,h⟩ | ⟨h23,h⟩
 refine zi (zk (zn (zs (zb (zs (zr ?_))))))
 obtain ⟨h24,h⟩:=ite_some h
 obtain ⟨h25,h⟩:=ite_some h
 obtain ⟨h26,h⟩:=ite_some h
 obtain ⟨h27,h⟩:=ite_some h
 refine zU (zl (zn (zs (zr ?_))))
 refine zU (zl (zn (zb ?_)))
 obtain ⟨o28,h29,h⟩:=zB h
 refine zO (fun (s:List (List UInt8)×Int)=>⟨[(0,.p (.str s1)),(1,.p (.int .i64 q2)),(6,.p (.str w9)),(8,.own 53 1 0 s.1.length),(9,.p (.int .i64 i21)),(10,.p (.int .i64 s.2))],[(53,.arr 9 1 1 (List.map AV.p (List.map PV.str s.1)))]⟩) (fun (o30:List (List UInt8))=>tE (cX Tryz.f218 X w D hT) (.exit 4) ⟨[(0,.p (.str s1)),(1,.p (.int .i64 q2)),(6,.p (.str w9)),(8,.own 53 1 0 o30.length),(9,.p (.int .i64 i21))],[(53,.arr 9 1 1 (List.map AV.p (List.map PV.str o30)))]⟩) h29 ?_ ?_
 clear h h22 h23 h24 h25 h26 h27 h29
 intro s x h
 obtain ⟨o31,k32⟩:=s
 simp only [drossref52_Grams_l4] at h
 dsimp only
 refine zs (zs (zd ?_))
 refine yU ?_
 rcases zI h with ⟨h33,h⟩ | ⟨h33,h⟩
 refine yw 59 true ?_
 refine yg ?_
 refine yg ?_
 obtain ⟨x34,h35,h35a,h35b,h⟩:=zX h
 refine yg ?_
 refine yg ?_
 refine yg ?_
 refine yg ?_
 refine yg ?_
 obtain ⟨x36,h37,h37a,h37b,h⟩:=zX h
 refine yg ?_
 refine yg ?_
 refine yg ?_
 refine yU ?_
 refine yd (zn ?_)
 rcases zI h with ⟨h38,h⟩ | ⟨h38,h⟩
 refine zi (zk (zn (zs (zb (zd ?_)))))
 obtain ⟨x39,h40,h40a,h40b,h⟩:=zX h
 have h40B:=eq_true (by simpa only [List.length_set] using h40b)
 refine yU ?_
 refine yd (yn (zn (zr ?_)))
 refine zU (zl ?_)
 cases h
 exact ⟨rfl,zE⟩
 refine zj (zx (ze ?_))
 cases h
 exact ⟨rfl,zE⟩
 refine yw 59 false ?_
 refine yk ?_
 refine yU ?_
 refine yd (zn ?_)
 refine zj (zx (ze ?_))
 cases h
 exact ⟨rfl,zE⟩
 try simp only at h
 refine zA (yh (yn (zn (zr ?_))))
 refine zU (zl ?_)
 cases h
 exact ⟨rfl,zE⟩
 refine zj (zx (ze ?_))
 cases h
 exact ⟨rfl,zE⟩
 refine zw 34 false ?_
 refine zh ?_
 refine zU (zl (zn ?_))
 refine zj (zx (ze ?_))
 cases h
 exact ⟨rfl,zE⟩
 try simp only at h
 refine zA (yh (zn (zs (zr ?_))))
 refine zU (zl (zn (zq ?_)))
 cases h
 exact zT Tryz.results218
set_option maxRecDepth 20000 in
set_option maxHeartbeats 4000000 in
theorem drossref52_Shared_con {D:Prop} (a1:List (List UInt8)) (b2:List (List UInt8)) (r3:Int) (h:drossref52_Shared a1 b2=some r3):Con D Tryz.prog 219 [(.slc (List.map PV.str a1)),(.slc (List.map PV.str b2))] (.int .i64 r3):=by
 refine zP Tryz.call219 Tryz.func219 rfl Tryz.ntmps219 fun X w hT=>?_
 simp only [drossref52_Shared] at h
 refine zs (zr ?_)
 refine zU (zl (zn (zs (zr ?_))))
 refine zU (zl (zn (zs (zs (zr ?_)))))
 refine zU (zl (zn (zb ?_)))
 obtain ⟨n4,h5,h⟩:=zB h
 refine zO (fun (s:Int×Int×Int)=>⟨[(0,.p (.slc (List.map PV.str a1))),(1,.p (.slc (List.map PV.str b2))),(5,.p (.int .i64 s.1)),(6,.p (.int .i64 s.2.1)),(7,.p (.int .i64 s.2.2))],[]⟩) (fun (o6:Int)=>tE (cX Tryz.f219 X w D hT) (.exit 0) ⟨[(5,.p (.int .i64 o6))],[]⟩) h5 ?_ ?_
 clear h h5
 intro s x h
 obtain ⟨n7,k8,i9⟩:=s
 simp only [drossref52_Shared_l4] at h
 dsimp only
 refine zs (zs (zr ?_))
 refine zU (zl (zn ?_))
 rcases zI h with ⟨h10,h⟩ | ⟨h10,h⟩
 refine zi (zk (zn (zs (zb (zs (zb ?_))))))
 obtain ⟨k11,h12,h⟩:=zB h
 refine zO (fun (s:Int)=>⟨[(0,.p (.slc (List.map PV.str a1))),(1,.p (.slc (List.map PV.str b2))),(5,.p (.int .i64 n7)),(6,.p (.int .i64 s)),(7,.p (.int .i64 i9))],[]⟩) (fun (o13:Int)=>tE (cX Tryz.f219 X w D hT) (.exit 2) ⟨[(0,.p (.slc (List.map PV.str a1))),(1,.p (.slc (List.map PV.str b2))),(5,.p (.int .i64 n7)),(6,.p (.int .i64 o13)),(7,.p (.int .i64 i9))],[]⟩) h12 ?_ ?_
 clear h h10 h12
 intro k14 x h
 simp only [drossref52_Shared_l3] at h
 refine zs (zs (zd ?_))
 refine yU ?_
 rcases zI h with ⟨h15,h⟩ | ⟨h15,h⟩
 refine yw 18 true ?_
 refine yg ?_
 refine yg ?_
 obtain ⟨x16,h17,h17a,h17b,h⟩:=zX h
 refine yg ?_
 refine yg ?_
 refine yg ?_
 refine yg ?_
 obtain ⟨x18,h19,h19a,h19b,h⟩:=zX h
 refine yg ?_
 refine yg ?_
 refine yg ?_
 refine yU ?_
 refine yd (zn ?_)
 rcases zI h with ⟨h20,h⟩ | ⟨h20,h⟩
 refine zi (zk (zn (zb (zr ?_))))
 refine zU (zl (yn ?_))
 cases h
 exact ⟨rfl,zE⟩
 refine zj (zx (ze ?_))
 cases h
 exact ⟨rfl,zE⟩
 refine yw 18 false ?_
 refine yk ?_
 refine yU ?_
 refine yd (zn ?_)
 refine zj (zx (ze ?_))
 cases h
 exact ⟨rfl,zE⟩
 try simp only at h
 refine zA (yh (zn ?_))
 obtain ⟨t21,h22,h⟩:=zB h
 refine zJ (fun (o23:Bool)=>tE (cX Tryz.f219 X w D hT) .normal ⟨[(0,.p (.slc (List.map PV.str a1))),(1,.p (.slc (List.map PV.str b2))),(5,.p (.int .i64 n7)),(6,.p (.int .i64 k11)),(7,.p (.int .i64 i9)),(45,.p (.bool o23))],[]⟩) t21 ?_ ?_
 replace h:=h22
 clear h22
 refine zd ?_
 refine yU ?_
 rcases zI h with ⟨h24,h⟩ | ⟨h24,h⟩
 refine yw 35 true ?_
 refine yg ?_
 refine yg ?_
 obtain ⟨x25,h26,h26a,h26b,h⟩:=zX h
 refine yg ?_
 refine yg ?_
 refine yg ?_
 refine yg ?_
 obtain ⟨x27,h28,h28a,h28b,h⟩:=zX h
 replace h:=h.symm
 refine yg ?_
 refine yg ?_
 refine yg ?_
 refine yU ?_
 refine yd ?_
 cases h
 exact ⟨rfl,zE⟩
 refine yw 35 false ?_
 refine yk ?_
 refine yU ?_
 refine yd ?_
 cases h
 exact ⟨rfl,zE⟩
 try simp only at h
 refine zA (zn ?_)
 rcases zI h with ⟨h29,h⟩ | ⟨h29,h⟩
 refine zi (zs (zr ?_))
 refine zU (zl (zn (zr ?_)))
 refine zU (zl (yn (zn (zr ?_))))
 refine zU (zl ?_)
 cases h
 exact ⟨rfl,zE⟩
 refine zj (zk (yn (zn (zr ?_))))
 refine zU (zl ?_)
 cases h
 exact ⟨rfl,zE⟩
 refine zj (zx (ze ?_))
 cases h
 exact ⟨rfl,zE⟩
 try simp only at h
 refine zA (yh (zn (zs (zr ?_))))
 refine zU (zl (zn (zq ?_)))
 cases h
 exact zT Tryz.results219
set_option maxHeartbeats 4000000 in
theorem drossref52_Common_con {D:Prop} (a1:List UInt8) (b2:List UInt8) (q3:Int) (r4:Ratio×Int) (h:drossref52_Common a1 b2 q3=some r4):Con D Tryz.prog 176 [(.str a1),(.str b2),(.int .i64 q3)] (.tup [(encRatio r4.1),(.int .i64 r4.2)]):=by
 refine zP Tryz.call176 Tryz.func176 rfl Tryz.ntmps176 fun X w hT=>?_
 simp only [drossref52_Common] at h
 refine zs (zr ?_)
 refine zU (zl (zn (zs (zs (zr ?_)))))
 refine zU ?_
 obtain ⟨r5,h6,h⟩:=zB h
 refine zc (drossref52_long_con a1 _ h6) ?_
 refine zU ?_
 rcases zI h with ⟨h7,h⟩ | ⟨h7,h⟩
 refine zw 14 true ?_
 refine zh ?_
 refine zU (zl (zn ?_))
 refine zi (zs (zr ?_))
 refine zU (zl (zn (zq (zt ?_))))
 cases h
 exact zT Tryz.results176
 refine zw 14 false ?_
 refine zg ?_
 obtain ⟨r8,h9,h⟩:=zB h
 refine zc (drossref52_long_con b2 _ h9) ?_
 refine zU (zl (zn ?_))
 rcases zI h with ⟨h10,h⟩ | ⟨h10,h⟩
 refine zi (zs (zr ?_))
 refine zU (zl (zn (zq (zt ?_))))
 cases h
 exact zT Tryz.results176
 refine zj (zk (zn (zs (zr ?_))))
 refine zU ?_
 obtain ⟨r11,h12,h⟩:=zB h
 refine zc (drossref52_Grams_con a1 q3 _ h12) ?_
 refine zU (zl (zn (zs (zr ?_))))
 refine zU ?_
 obtain ⟨r13,h14,h⟩:=zB h
 refine zc (drossref52_Grams_con b2 q3 _ h14) ?_
 refine zU (zl (zn (zs (zs (zr ?_)))))
 refine zU (zl (zn ?_))
 rcases zI h with ⟨h15,h⟩ | ⟨h15,h⟩
 refine zi (zs (zr ?_))
 refine zU (zl (zn (zq (zt ?_))))
 cases h
 exact zT Tryz.results176
 refine zj (zk (zn (zs (zs (zr ?_)))))
 refine zU (zl (zn ?_))
 rcases zI h with ⟨h16,h⟩ | ⟨h16,h⟩
 refine zi (zs (zr ?_))
 obtain ⟨r17,h18,h⟩:=zB h
 refine zc (drossref04_Of_con 1 1 _ h18) ?_
 refine zU (zl (zn (zq (zt ?_))))
 cases h
 exact zT Tryz.results176
 refine zj (zk (zn (zs (zr ?_))))
 refine zU ?_
 obtain ⟨r19,h20,h⟩:=zB h
 refine zc (drossref52_Shared_con r11.1 r13.1 _ h20) ?_
 refine zU ?_
 obtain ⟨r21,h22,h⟩:=zB h
 refine zc (drossref04_Of_con (IntKind.i64.wrap (2 * r19)) (IntKind.i64.wrap ((r11.1.length:Int)+(r13.1.length:Int))) _ h22) ?_
 refine zU (zl (zn (zq ?_)))
 cases h
 exact zT Tryz.results176
set_option maxHeartbeats 4000000 in
theorem drossref52_head_con {D:Prop} (s1:List UInt8) (n2:Int) (r3:List UInt8) (h:drossref52_head s1 n2=some r3):Con D Tryz.prog 177 [(.str s1),(.int .i64 n2)] (.str r3):=by
 refine zP Tryz.call177 Tryz.func177 rfl Tryz.ntmps177 fun X w hT=>?_
 simp only [drossref52_head] at h
 refine zs (zr ?_)
 refine zU (zl (zn (zs (zr ?_))))
 obtain ⟨h4,h⟩:=ite_some h
 obtain ⟨h5,h⟩:=ite_some h
 refine zU (zl (zn (zq ?_)))
 cases h
 exact zT Tryz.results177
set_option maxRecDepth 20000 in
set_option maxHeartbeats 4000000 in
theorem drossref52_Match_con {D:Prop} (x1:Row) (y2:Row) (c3:Similar) (r4:Bool×Int) (h:drossref52_Match x1 y2 c3=some r4):Con D Tryz.prog 115 [(encRow x1),(encRow y2),(encSimilar c3)] (.tup [(.bool r4.1),(.int .i64 r4.2)]):=by
 refine zP Tryz.call115 Tryz.func115 rfl Tryz.ntmps115 fun X w hT=>?_
 simp only [drossref52_Match] at h
 refine zs (zr ?_)
 refine zU (zl (zn (zs (zs (zr ?_)))))
 refine zU ?_
 obtain ⟨r5,h6,h⟩:=zB h
 refine zc (drossref52_Error_con x1 y2 c3 _ h6) ?_
 refine zU (zl (zn (zs (zr ?_))))
 refine zU (zl (zn ?_))
 rcases zI h with ⟨h7,h⟩ | ⟨h7,h⟩
 refine zi (zs (zr ?_))
 refine zU (zl (zn (zq (zt ?_))))
 cases h
 exact zT Tryz.results115
 refine zj (zk (zn (zs (zd ?_))))
 obtain ⟨x8,h9,h9a,h9b,h⟩:=zX h
 obtain ⟨x10,h11,h11a,h11b,h⟩:=zX h
 refine yU ?_
 refine yd (zn (zs ?_))
 obtain ⟨t12,h13,h⟩:=zB h
 refine zJ (fun (o14:Bool)=>tE (cX Tryz.f115 X w D hT) .normal ⟨[(5,.loc 5 1 0 0),(9,.loc 9 1 0 0),(10,.loc 10 1 0 0),(44,.p (.bool o14))],[(5,.arr 95 3 1 [.p (encSimilar c3)]),(9,.arr 142 3 1 [.p (encValue x8)]),(10,.arr 142 3 1 [.p (encValue x10)])]⟩) t12 ?_ ?_
 replace h:=h13
 clear h13
 refine zr ?_
 refine zU ?_
 rcases zI h with ⟨h15,h⟩ | ⟨h15,h⟩
 refine zw 35 true ?_
 refine zh ?_
 refine zU ?_
 refine zh ?_
 refine zU (zl ?_)
 cases h
 exact ⟨rfl,zE⟩
 refine zw 35 false ?_
 refine zg ?_
 refine zg ?_
 refine zg ?_
 refine zU ?_
 rcases zI h with ⟨h16,h⟩ | ⟨h16,h⟩
 refine zw 40 true ?_
 refine zh ?_
 refine zU (zl ?_)
 cases h
 exact ⟨rfl,zE⟩
 replace h:=h.symm
 refine zw 40 false ?_
 refine zg ?_
 refine zg ?_
 refine zg ?_
 refine zU (zl ?_)
 cases h
 exact ⟨rfl,zE⟩
 try simp only at h
 refine zA (zn ?_)
 rcases zI h with ⟨h17,h⟩ | ⟨h17,h⟩
 refine zi (zs (zr ?_))
 refine zU ?_
 obtain ⟨r18,h19,h⟩:=zB h
 refine zc (drossref01_Compare_con x8 x10 _ h19) ?_
 refine zU (zl (zn (zq (zt ?_))))
 cases h
 exact zT Tryz.results115
 refine zj (zk (zn (zs (zs (zr ?_)))))
 refine zU (zl (zn (zb (zs (zr ?_)))))
 refine zU (zl (zn ?_))
 rcases zI h with ⟨h20,h⟩ | ⟨h20,h⟩
 refine zi (zs (zd ?_))
 refine yU ?_
 obtain ⟨r21,h22,h⟩:=zB h
 refine yc (drossref52_Distance_con x8.Str x10.Str _ h22) ?_
 refine yU ?_
 refine yd (zn (zq (yr (zt ?_))))
 cases h
 exact zT Tryz.results115
 refine zj (zs (zr ?_))
 refine zU (zl (zn ?_))
 rcases zI h with ⟨h23,h⟩ | ⟨h23,h⟩
 refine zi (zs (zr ?_))
 refine zU ?_
 obtain ⟨r24,h25,h⟩:=zB h
 refine zc (drossref52_Common_con x8.Str x10.Str 2 _ h25) ?_
 refine zU (zl (zn (zs (zr ?_))))
 refine zU (zl (zn (zq (yr (zt ?_)))))
 cases h
 exact zT Tryz.results115
 refine zj (zk (yn (zn (zs (zd ?_)))))
 refine yU ?_
 obtain ⟨r26,h27,h⟩:=zB h
 refine yc (drossref52_head_con x8.Str c3.Limit _ h27) ?_
 refine yU ?_
 obtain ⟨r28,h29,h⟩:=zB h
 refine yc (drossref52_head_con x10.Str c3.Limit _ h29) ?_
 refine yU ?_
 refine yd (zn (zq ?_))
 cases h
 exact zT Tryz.results115
set_option maxRecDepth 20000 in
set_option maxHeartbeats 4000000 in
theorem drossref56_First_con {D:Prop} (x1:Row) (y2:Row) (l3:Linkage) (r4:Int) (h:drossref56_First x1 y2 l3=some r4):Con D Tryz.prog 74 [(encRow x1),(encRow y2),(encLinkage l3)] (.int .i64 r4):=by
 refine zP Tryz.call74 Tryz.func74 rfl Tryz.ntmps74 fun X w hT=>?_
 simp only [drossref56_First] at h
 refine zs (zr ?_)
 refine zU (zl (zn (zs (zs (zr ?_)))))
 refine zU (zl (zn (zb ?_)))
 obtain ⟨o5,h6,h⟩:=zB h
 refine zO (fun (s:Int)=>⟨[(3,.loc 3 1 0 0),(4,.loc 4 1 0 0),(5,.loc 5 1 0 0),(7,.p (.int .i64 s))],[(3,.arr 66 2 1 [.p (encRow x1)]),(4,.arr 66 2 1 [.p (encRow y2)]),(5,.arr 25 3 1 [.p (encLinkage l3)])]⟩) (fun (o:(Unit) ⊕ (Int))=>match o with | .inl o7=>tE (cX Tryz.f74 X w D hT) (.exit 0) ⟨[],[]⟩ | .inr o8=>tR Tryz.prog Tryz.f74 (.int .i64 o8)) h6 ?_ ?_
 clear h h6
 intro i9 x h
 simp only [drossref56_First_l4] at h
 refine zs (zs (zr ?_))
 refine zU (zl (zn ?_))
 rcases zI h with ⟨h10,h⟩ | ⟨h10,h⟩
 refine zi (zk (zn (zs (zb (zs (zr ?_))))))
 refine zU (zl (zn (zs (zs (zr ?_)))))
 refine zU (zl (zn (zb ?_)))
 obtain ⟨a11,h12,h⟩:=zB h
 refine zO (fun (s:Bool×Int)=>⟨[(3,.loc 3 1 0 0),(4,.loc 4 1 0 0),(5,.loc 5 1 0 0),(7,.p (.int .i64 i9)),(8,.p (.bool s.1)),(9,.p (.int .i64 s.2))],[(3,.arr 66 2 1 [.p (encRow x1)]),(4,.arr 66 2 1 [.p (encRow y2)]),(5,.arr 25 3 1 [.p (encLinkage l3)])]⟩) (fun (o13:Bool)=>tE (cX Tryz.f74 X w D hT) (.exit 2) ⟨[(3,.loc 3 1 0 0),(4,.loc 4 1 0 0),(5,.loc 5 1 0 0),(7,.p (.int .i64 i9)),(8,.p (.bool o13))],[(3,.arr 66 2 1 [.p (encRow x1)]),(4,.arr 66 2 1 [.p (encRow y2)]),(5,.arr 25 3 1 [.p (encLinkage l3)])]⟩) h12 ?_ ?_
 clear h h10 h12
 intro s x h
 obtain ⟨a14,k15⟩:=s
 simp only [drossref56_First_l3] at h
 dsimp only
 refine zs (zs (zr ?_))
 obtain ⟨x16,h17,h17a,h17b,h⟩:=zX h
 refine zU (zl (zn ?_))
 rcases zI h with ⟨h18,h⟩ | ⟨h18,h⟩
 refine zi (zk (zn (zs (zb (zs (zd ?_))))))
 obtain ⟨x19,h20,h20a,h20b,h⟩:=zX h
 refine yU ?_
 obtain ⟨r21,h22,h⟩:=zB h
 refine yc (drossref52_Match_con x1 y2 x19 _ h22) ?_
 refine yU ?_
 refine yd (zn (zr ?_))
 refine zU ?_
 rcases zI h with ⟨h23,h⟩ | ⟨h23,h⟩
 replace h:=h.symm
 refine zw 44 true ?_
 refine zg ?_
 refine zU (zl (yn (zn (zr ?_))))
 refine zU (zl ?_)
 cases h
 exact ⟨rfl,zE⟩
 refine zw 44 false ?_
 refine zh ?_
 refine zU (zl (yn (zn (zr ?_))))
 refine zU (zl ?_)
 cases h
 exact ⟨rfl,zE⟩
 refine zj (zx (ze ?_))
 cases h
 exact ⟨rfl,zE⟩
 try simp only at h
 refine zA (yh (zn (zs (zr ?_))))
 refine zU (zl (zn ?_))
 rcases zI h with ⟨h24,h⟩ | ⟨h24,h⟩
 refine zi (zs (zr ?_))
 refine zU (zl (zn (zq (yr (zt ?_)))))
 cases h
 exact ⟨rfl,zT Tryz.results74⟩
 refine zj (zk (yn (zn (zr ?_))))
 refine zU (zl ?_)
 cases h
 exact ⟨rfl,zE⟩
 refine zj (zx (ze ?_))
 cases h
 exact ⟨rfl,zE⟩
 rcases o5 with ⟨⟩ | r25
 try simp only at h
 refine zA (yh (zn (zs (zr ?_))))
 refine zU (zl (zn (zq ?_)))
 cases h
 exact zT Tryz.results74
 try simp only at h
 refine zZ fun s hq=>?_
 refine yr (zt ?_)
 cases h
 exact hq
set_option maxRecDepth 20000 in
set_option maxHeartbeats 4000000 in
theorem drossref56_Explain_con {D:Prop} (t1:Table) (l2:Linkage) (a3:Int) (b4:Int) (r5:Int×Int) (h:drossref56_Explain t1 l2 a3 b4=some r5):Con D Tryz.prog 34 [(encTable t1),(encLinkage l2),(.int .i64 a3),(.int .i64 b4)] (.tup [(.int .i64 r5.1),(.int .i64 r5.2)]):=by
 refine zP Tryz.call34 Tryz.func34 rfl Tryz.ntmps34 fun X w hT=>?_
 simp only [drossref56_Explain] at h
 refine zs (zr ?_)
 refine zU (zl (zn (zs (zs (zr ?_)))))
 refine zU ?_
 obtain ⟨r6,h7,h⟩:=zB h
 refine zc (drossref56_Error_con t1 l2 _ h7) ?_
 refine zU (zl (zn (zs (zr ?_))))
 refine zU (zl (zn ?_))
 rcases zI h with ⟨h8,h⟩ | ⟨h8,h⟩
 refine zi (zs (zr ?_))
 refine zU (zl (zn (zq (zt ?_))))
 cases h
 exact zT Tryz.results34
 refine zj (zk (zn (zs (zr ?_))))
 refine zU ?_
 obtain ⟨r9,h10,h⟩:=zB h
 refine zc (drossref03_Find_con t1 a3 _ h10) ?_
 refine zU (zl (zn (zs (zr ?_))))
 refine zU ?_
 obtain ⟨r11,h12,h⟩:=zB h
 refine zc (drossref03_Find_con t1 b4 _ h12) ?_
 refine zU (zl (zn (zs (zs (zr ?_)))))
 refine zU ?_
 rcases zI h with ⟨h13,h⟩ | ⟨h13,h⟩
 refine zw 36 false ?_
 refine zg ?_
 refine zg ?_
 refine zU (zl (zn ?_))
 rcases zI h with ⟨h14,h⟩ | ⟨h14,h⟩
 refine zj (zk (zn (zs (zd ?_))))
 obtain ⟨x15,h16,h16a,h16b,h⟩:=zX h
 obtain ⟨x17,h18,h18a,h18b,h⟩:=zX h
 refine yU ?_
 obtain ⟨r19,h20,h⟩:=zB h
 refine yc (drossref56_First_con x15 x17 l2 _ h20) ?_
 refine yU ?_
 refine yd (zn (zs (zs (zr ?_))))
 refine zU (zl (zn ?_))
 rcases zI h with ⟨h21,h⟩ | ⟨h21,h⟩
 refine zi (zs (zr ?_))
 refine zU (zl (zn (zq (zt ?_))))
 cases h
 exact zT Tryz.results34
 refine zj (zk (zn (zs (zr ?_))))
 refine zU (zl (zn (zq ?_)))
 cases h
 exact zT Tryz.results34
 refine zi (zs (zr ?_))
 refine zU (zl (zn (zq (zt ?_))))
 cases h
 exact zT Tryz.results34
 refine zw 36 true ?_
 refine zh ?_
 refine zU (zl (zn ?_))
 refine zi (zs (zr ?_))
 refine zU (zl (zn (zq (zt ?_))))
 cases h
 exact zT Tryz.results34
set_option maxHeartbeats 4000000 in
theorem drosslaw56_LinkageExplain_con (x2:Drossref03_Recipe) (d3:Drossref56_Draft) (r4:Arr2_int64) (r5:Bool) (h:drosslaw56_LinkageExplain x2 d3 r4=some r5):Con False Tryz.prog 9 [(encDrossref03_Recipe x2),(encDrossref56_Draft d3),(encArr2_int64 r4)] (.bool r5):=by
 refine zP Tryz.call9 Tryz.func9 rfl Tryz.ntmps9 fun X w hT=>?_
 simp only [drosslaw56_LinkageExplain] at h
 refine zs (zr ?_)
 refine zU (zl (zn (zs (zr ?_))))
 refine zU ?_
 obtain ⟨r6,h7,h⟩:=zB h
 refine zc (drosslaw56_of_con x2 d3 _ h7) ?_
 refine zU (zl (zn (zs ?_)))
 obtain ⟨t8,h9,h⟩:=zB h
 refine zJ (fun (o10:Bool)=>tE (cX Tryz.f9 X w False hT) .normal ⟨[(5,.loc 5 1 0 0),(7,.loc 7 1 0 0),(8,.loc 8 1 0 0),(26,.p (.bool o10))],[(5,.arr 58 2 1 [.p (encArr2_int64 r4)]),(7,.arr 41 3 1 [.p (encTable r6.1)]),(8,.arr 25 3 1 [.p (encLinkage r6.2.1)])]⟩) t8 ?_ ?_
 replace h:=h9
 clear h9
 refine zr ?_
 obtain ⟨r11,h12,h⟩:=zB h
 refine zc (drosslaw56_awake_con  _ h12) ?_
 refine zU ?_
 rcases zI h with ⟨h13,h⟩ | ⟨h13,h⟩
 replace h:=h.symm
 refine zw 23 false ?_
 refine zg ?_
 refine zg ?_
 refine zU (zl ?_)
 cases h
 exact ⟨rfl,zE⟩
 refine zw 23 true ?_
 refine zh ?_
 refine zU (zl ?_)
 cases h
 exact ⟨rfl,zE⟩
 try simp only at h
 refine zA (zn ?_)
 rcases zI h with ⟨h14,h⟩ | ⟨h14,h⟩
 refine zi (zs (zr ?_))
 obtain ⟨r15,h16,h⟩:=zB h
 refine zc (drosslaw56_awake_con  _ h16) ?_
 refine zU (zl (zn (zq (zt ?_))))
 cases h
 exact zT Tryz.results9
 refine zj (zk (zn (zs (zr ?_))))
 refine zU ?_
 obtain ⟨r17,h18,h⟩:=zB h
 refine zc (linkage_Explain_con r6.1 r6.2.1 r4.x0 r4.x1 _ h18) ?_
 refine zU (zl (zn (zs (zr ?_))))
 refine zU ?_
 obtain ⟨r19,h20,h⟩:=zB h
 refine zc (drossref56_Explain_con r6.1 r6.2.1 r4.x0 r4.x1 _ h20) ?_
 refine zU (zl (zn (zs (zr ?_))))
 refine zU ?_
 rcases zI h with ⟨h21,h⟩ | ⟨h21,h⟩
 replace h:=h.symm
 refine zw 51 true ?_
 refine zg ?_
 refine zg ?_
 refine zg ?_
 refine zU (zl (zn (zq ?_)))
 cases h
 exact zT Tryz.results9
 refine zw 51 false ?_
 refine zh ?_
 refine zU (zl (zn (zq ?_)))
 cases h
 exact zT Tryz.results9
end Go.Proofs.YtmlegeeinnkhkaaGreat
