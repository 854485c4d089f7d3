/- Each function of the program computes what its Lean function says, where that has a value. -/
import Derived.Test.YtmlegeeinnkhkaaGreatW1
set_option linter.unusedVariables false
set_option linter.unusedSimpArgs false
namespace Go.Proofs.YtmlegeeinnkhkaaGreat
open Go Go.Ab
set_option maxRecDepth 20000 in
set_option maxHeartbeats 4000000 in
theorem linkage_places_con {D:Prop} (d1:List (List Int)) (r2:(List (Int×Int))×Int×Bool) (h:linkage_places d1=some r2):Con D Tryz.prog 68 [(.slc (List.map (encL (PV.int .i64)) d1))] (.tup [(.mapv (encK (PV.int .i64) r2.1) (encW (PV.int .i64) r2.1)),(.int .i64 r2.2.1),(.bool r2.2.2)]):=by
 refine zP Tryz.call68 Tryz.func68 rfl Tryz.ntmps68 fun X w hT=>?_
 simp only [linkage_places] at h
 refine zs (zr ?_)
 refine zU (zl (zn (zs (zr ?_))))
 refine zU (zl (zn (zs (zr ?_))))
 refine zU (zl (zn (zs (zs (zr ?_)))))
 refine zU (zl (zn (zb ?_)))
 obtain ⟨o3,h4,h⟩:=zB h
 refine zO (fun (s:(List (Int×Int))×Int×Int)=>⟨[(5,.mapo 15 1),(6,.p (.int .i64 s.2.1)),(16,.p (.slc (List.map (encL (PV.int .i64)) d1))),(17,.p (.int .i64 (d1.length:Int))),(18,.p (.int .i64 s.2.2))],[(15,.map 1 (List.map AV.p (encK (PV.int .i64) s.1)) (List.map AV.p (encW (PV.int .i64) s.1)))]⟩) (fun (o:((List (Int×Int))×Int) ⊕ ((List (Int×Int))×Int×Bool))=>match o with | .inl o5=>tE (cX Tryz.f68 X w D hT) (.exit 0) ⟨[(5,.mapo 15 1),(6,.p (.int .i64 o5.2))],[(15,.map 1 (List.map AV.p (encK (PV.int .i64) o5.1)) (List.map AV.p (encW (PV.int .i64) o5.1)))]⟩ | .inr o6=>tR Tryz.prog Tryz.f68 (.tup [(.mapv (encK (PV.int .i64) o6.1) (encW (PV.int .i64) o6.1)),(.int .i64 o6.2.1),(.bool o6.2.2)])) h4 ?_ ?_
 clear h h4
 intro s x h
 obtain ⟨o7,p8,t9⟩:=s
 simp only [linkage_places_l4] at h
 dsimp only
 refine zs (zr ?_)
 refine zU (zl (zn (zs ?_)))
 rcases zI h with ⟨h10,h⟩ | ⟨h10,h⟩
 refine zi (zk (zn (zs (zb (zs (zr ?_))))))
 obtain ⟨x11,h12,h12a,h12b,h⟩:=zX h
 refine zU (zl (zn (zs (zs (zr ?_)))))
 refine zU (zl (zn ?_))
 rcases zI h with ⟨h13,h⟩ | ⟨h13,h⟩
 refine zi (zs (zr ?_))
 refine zU (zl (zn (zq (zt (yr (zt ?_))))))
 cases h
 exact ⟨rfl,zT Tryz.results68⟩
 refine zj (zk (zn (zs (zr ?_))))
 refine zU (zl (zn (zs (zs (zr ?_)))))
 refine zU (zl (zn (zb ?_)))
 obtain ⟨o14,h15,h⟩:=zB h
 refine zO (fun (s:(List (Int×Int))×Int×Int)=>⟨[(5,.mapo 15 1),(6,.p (.int .i64 p8)),(7,.p (.int .i64 t9)),(8,.p (.slc (List.map (PV.int .i64) x11))),(9,.p (.int .i64 s.2.1)),(16,.p (.slc (List.map (encL (PV.int .i64)) d1))),(17,.p (.int .i64 (d1.length:Int))),(18,.p (.int .i64 t9)),(26,.p (.slc (List.map (PV.int .i64) x11))),(27,.p (.int .i64 (x11.length:Int))),(28,.p (.int .i64 s.2.2))],[(15,.map 1 (List.map AV.p (encK (PV.int .i64) s.1)) (List.map AV.p (encW (PV.int .i64) s.1)))]⟩) (fun (o:((List (Int×Int))) ⊕ ((List (Int×Int))×Int×Bool))=>match o with | .inl o16=>tE (cX Tryz.f68 X w D hT) (.exit 2) ⟨[(5,.mapo 15 1),(6,.p (.int .i64 p8)),(8,.p (.slc (List.map (PV.int .i64) x11))),(16,.p (.slc (List.map (encL (PV.int .i64)) d1))),(17,.p (.int .i64 (d1.length:Int))),(18,.p (.int .i64 t9))],[(15,.map 1 (List.map AV.p (encK (PV.int .i64) o16)) (List.map AV.p (encW (PV.int .i64) o16)))]⟩ | .inr o17=>tR Tryz.prog Tryz.f68 (.tup [(.mapv (encK (PV.int .i64) o17.1) (encW (PV.int .i64) o17.1)),(.int .i64 o17.2.1),(.bool o17.2.2)])) h15 ?_ ?_
 clear h h10 h12 h12a h12b h13 h15
 intro s x h
 obtain ⟨o18,b19,t20⟩:=s
 simp only [linkage_places_l3] at h
 dsimp only
 refine zs (zr ?_)
 refine zU (zl (zn (zs ?_)))
 rcases zI h with ⟨h21,h⟩ | ⟨h21,h⟩
 refine zi (zk (zn (zs (zb (zs (zr ?_))))))
 obtain ⟨x22,h23,h23a,h23b,h⟩:=zX h
 refine zU (zl (zn (zs (zs (zr ?_)))))
 refine zU (zl (zn (zs (zr ?_))))
 refine zU ?_
 rcases zI h with ⟨h24,h⟩ | ⟨h24,h⟩
 refine zw 39 true ?_
 refine zh ?_
 refine zU (zl (zn ?_))
 refine zi (zs (zr ?_))
 refine zU (zl (zn (zq (zt (yr (zt ?_))))))
 cases h
 exact ⟨rfl,zT Tryz.results68⟩
 refine zw 39 false ?_
 refine zg ?_
 refine zg ?_
 refine zg ?_
 refine zU (zl (zn ?_))
 rcases zI h with ⟨h25,h⟩ | ⟨h25,h⟩
 refine zi (zs (zr ?_))
 refine zU (zl (zn (zq (zt (yr (zt ?_))))))
 cases h
 exact ⟨rfl,zT Tryz.results68⟩
 refine zj (zk (zn (zs (zr ?_))))
 refine zU (zl (zn (zr ?_)))
 refine zU (zl (yn (zn (zr ?_))))
 refine zU (zl ?_)
 cases h
 exact ⟨rfl,zE⟩
 refine zj (zx (ze ?_))
 cases h
 exact ⟨rfl,zE⟩
 rcases o14 with o26 | r27
 try simp only at h
 refine zA (yh (zn (zs (zr ?_))))
 refine zU (zl (zn (zr ?_)))
 refine zU (zl (yn (zn (zr ?_))))
 refine zU (zl ?_)
 cases h
 exact ⟨rfl,zE⟩
 try simp only at h
 refine zZ fun s hq=>?_
 refine yr (zt (yr (zt ?_)))
 cases h
 refine ⟨rfl,?_⟩
 exact hq
 refine zj (zx (ze ?_))
 cases h
 exact ⟨rfl,zE⟩
 rcases o3 with ⟨o28,p29⟩ | r30
 try simp only at h
 refine zA (yh (zn (zs (zr ?_))))
 refine zU (zl (zn (zq ?_)))
 cases h
 exact zT Tryz.results68
 try simp only at h
 refine zZ fun s hq=>?_
 refine yr (zt ?_)
 cases h
 exact hq
set_option maxRecDepth 20000 in
set_option maxHeartbeats 4000000 in
theorem linkage_Precision_con {D:Prop} (f1:List (List Int)) (t2:List (List Int)) (r3:Ratio×Int) (h:linkage_Precision f1 t2=some r3):Con D Tryz.prog 30 [(.slc (List.map (encL (PV.int .i64)) f1)),(.slc (List.map (encL (PV.int .i64)) t2))] (.tup [(encRatio r3.1),(.int .i64 r3.2)]):=by
 refine zP Tryz.call30 Tryz.func30 rfl Tryz.ntmps30 fun X w hT=>?_
 simp only [linkage_Precision] at h
 refine zs (zr ?_)
 refine zU (zl (zn (zs (zr ?_))))
 refine zU ?_
 obtain ⟨r4,h5,h⟩:=zB h
 refine zc (linkage_places_con f1 _ h5) ?_
 refine zU (zl (zn (zs (zr ?_))))
 refine zU ?_
 obtain ⟨r6,h7,h⟩:=zB h
 refine zc (linkage_places_con t2 _ h7) ?_
 refine zU (zl (zn (zs (zs (zr ?_)))))
 refine zU ?_
 rcases zI h with ⟨h8,h⟩ | ⟨h8,h⟩
 refine zw 34 false ?_
 refine zg ?_
 refine zg ?_
 refine zU (zl (zn ?_))
 rcases zI h with ⟨h9,h⟩ | ⟨h9,h⟩
 refine zj (zk (zn (zs (zs (zr ?_)))))
 refine zU (zl (zn ?_))
 rcases zI h with ⟨h10,h⟩ | ⟨h10,h⟩
 refine zi (zs (zr ?_))
 refine zU (zl (zn (zq (zt ?_))))
 cases h
 exact zT Tryz.results30
 refine zj (zk (zn (zs (zr ?_))))
 refine zU (zl (zn (zs (zs (zr ?_)))))
 refine zU (zl (zn (zb ?_)))
 obtain ⟨b11,h12,h⟩:=zB h
 refine zO (fun (s:Int×Int)=>⟨[(4,.loc 4 1 0 0),(7,.p (.int .i64 r4.2.1)),(9,.p (.mapv (encK (PV.int .i64) r6.1) (encW (PV.int .i64) r6.1))),(12,.p (.int .i64 s.1)),(42,.p (.slc (List.map (encL (PV.int .i64)) f1))),(43,.p (.int .i64 (f1.length:Int))),(44,.p (.int .i64 s.2))],[(4,.arr 76 2 1 [.p (.agg [.int .i64 0,.int .i64 0])])]⟩) (fun (o13:Int)=>tE (cX Tryz.f30 X w D hT) (.exit 0) ⟨[(4,.loc 4 1 0 0),(7,.p (.int .i64 r4.2.1)),(12,.p (.int .i64 o13))],[(4,.arr 76 2 1 [.p (.agg [.int .i64 0,.int .i64 0])])]⟩) h12 ?_ ?_
 clear h h5 h7 h8 h9 h10 h12
 intro s x h
 obtain ⟨b14,t15⟩:=s
 simp only [linkage_Precision_l4] at h
 dsimp only
 refine zs (zr ?_)
 refine zU (zl (zn (zs ?_)))
 rcases zI h with ⟨h16,h⟩ | ⟨h16,h⟩
 refine zi (zk (zn (zs (zb (zs (zr ?_))))))
 obtain ⟨x17,h18,h18a,h18b,h⟩:=zX h
 refine zU (zl (zn (zs (zr ?_))))
 refine zU (zl (zn (zs (zr ?_))))
 refine zU (zl (zn (zb ?_)))
 obtain ⟨b19,h20,h⟩:=zB h
 refine zO (fun (s:Int×(List (Int×Int))×Int)=>⟨[(4,.loc 4 1 0 0),(7,.p (.int .i64 r4.2.1)),(9,.p (.mapv (encK (PV.int .i64) r6.1) (encW (PV.int .i64) r6.1))),(12,.p (.int .i64 s.1)),(15,.mapo 48 1),(42,.p (.slc (List.map (encL (PV.int .i64)) f1))),(43,.p (.int .i64 (f1.length:Int))),(44,.p (.int .i64 t15)),(49,.p (.slc (List.map (PV.int .i64) x17))),(50,.p (.int .i64 (x17.length:Int))),(51,.p (.int .i64 s.2.2))],[(4,.arr 76 2 1 [.p (.agg [.int .i64 0,.int .i64 0])]),(48,.map 1 (List.map AV.p (encK (PV.int .i64) s.2.1)) (List.map AV.p (encW (PV.int .i64) s.2.1)))]⟩) (fun (o21:Int)=>tE (cX Tryz.f30 X w D hT) (.exit 2) ⟨[(4,.loc 4 1 0 0),(7,.p (.int .i64 r4.2.1)),(9,.p (.mapv (encK (PV.int .i64) r6.1) (encW (PV.int .i64) r6.1))),(12,.p (.int .i64 o21)),(42,.p (.slc (List.map (encL (PV.int .i64)) f1))),(43,.p (.int .i64 (f1.length:Int))),(44,.p (.int .i64 t15))],[(4,.arr 76 2 1 [.p (.agg [.int .i64 0,.int .i64 0])])]⟩) h20 ?_ ?_
 clear h h16 h18 h18a h18b h20
 intro s x h
 obtain ⟨b22,c23,t24⟩:=s
 simp only [linkage_Precision_l3] at h
 dsimp only
 refine zs (zr ?_)
 refine zU (zl (zn (zs ?_)))
 rcases zI h with ⟨h25,h⟩ | ⟨h25,h⟩
 refine zi (zk (zn (zs (zb (zs (zr ?_))))))
 obtain ⟨x26,h27,h27a,h27b,h⟩:=zX h
 refine zU (zl (zn (zs (zr ?_))))
 refine zU (zl (zn (zs (zr ?_))))
 refine zU (zl (zn ?_))
 rcases zI h with ⟨h28,h⟩ | ⟨h28,h⟩
 refine zi (zs (zr ?_))
 refine zU (zl (zn (zr ?_)))
 refine zU (zl (yn (zn (zr ?_))))
 refine zU (zl ?_)
 cases h
 exact ⟨rfl,zE⟩
 refine zj (zk (yn (zn (zr ?_))))
 refine zU (zl ?_)
 cases h
 exact ⟨rfl,zE⟩
 refine zj (zx (ze ?_))
 cases h
 exact ⟨rfl,zE⟩
 try simp only at h
 refine zA (yh (yn (zn (zr ?_))))
 refine zU (zl ?_)
 cases h
 exact ⟨rfl,zE⟩
 refine zj (zx (ze ?_))
 cases h
 exact ⟨rfl,zE⟩
 try simp only at h
 refine zA (yh (zn (zs (zr ?_))))
 refine zU ?_
 obtain ⟨r29,h30,h⟩:=zB h
 refine zc (ratio_Make_con b11 r4.2.1 _ h30) ?_
 refine zU (zl (zn (zq ?_)))
 cases h
 exact zT Tryz.results30
 refine zi (zs (zr ?_))
 refine zU (zl (zn (zq (zt ?_))))
 cases h
 exact zT Tryz.results30
 refine zw 34 true ?_
 refine zh ?_
 refine zU (zl (zn ?_))
 refine zi (zs (zr ?_))
 refine zU (zl (zn (zq (zt ?_))))
 cases h
 exact zT Tryz.results30
set_option maxHeartbeats 4000000 in
theorem linkage_Recall_con {D:Prop} (f1:List (List Int)) (t2:List (List Int)) (r3:Ratio×Int) (h:linkage_Recall f1 t2=some r3):Con D Tryz.prog 32 [(.slc (List.map (encL (PV.int .i64)) f1)),(.slc (List.map (encL (PV.int .i64)) t2))] (.tup [(encRatio r3.1),(.int .i64 r3.2)]):=by
 refine zP Tryz.call32 Tryz.func32 rfl Tryz.ntmps32 fun X w hT=>?_
 simp only [linkage_Recall] at h
 refine zs (zr ?_)
 refine zU (zl (zn (zs (zr ?_))))
 refine zU ?_
 obtain ⟨r4,h5,h⟩:=zB h
 refine zc (linkage_Precision_con t2 f1 _ h5) ?_
 refine zU (zl (zn (zq ?_)))
 cases h
 exact zT Tryz.results32
set_option maxHeartbeats 4000000 in
theorem drosslaw56_example_con {D:Prop} (r1:Table×Linkage) (h:drosslaw56_example=some r1):Con D Tryz.prog 39 [] (.tup [(encTable r1.1),(encLinkage r1.2)]):=by
 refine zP Tryz.call39 Tryz.func39 rfl Tryz.ntmps39 fun X w hT=>?_
 simp only [drosslaw56_example] at h
 refine zs (zr ?_)
 refine zU (zl (zn (zs (zr ?_))))
 refine zU (zl (zn (zs (zs (zr ?_)))))
 refine zU (zl (zn (zb ?_)))
 refine zL ⟨[(0,.loc 0 1 0 0),(1,.loc 1 1 0 0),(2,.loc 2 1 0 0),(7,.own 7 1 0 4),(8,.p (.int .i64 4)),(9,.p (.int .i64 0))],[(0,.arr 41 3 1 [.agg [.p (.str []),.nils,.nils]]),(1,.arr 25 3 1 [.agg [.nils,.nils,.nils]]),(2,.arr 41 3 1 [.agg [.p (.str [112]),.own 5 1 0 1,.nils]]),(5,.arr 9 1 1 [.p (.str [110,97,109,101])]),(7,.arr 9 1 1 [.p (.str [97,110,110]),.p (.str [97,110,110,101]),.p (.str [97,110,110,101,115]),.p (.str [98,111,98])])]⟩ ?_
 obtain ⟨l2,h3,h⟩:=zB h
 replace h3:=Option.some.inj h3
 refine awp_le (st':=⟨[(0,.loc 0 1 0 0),(1,.loc 1 1 0 0),(2,.loc 2 1 0 0),(7,.own 7 1 0 l2.length),(8,.p (.int .i64 4)),(9,.p (.int .i64 0))],[(0,.arr 41 3 1 [.agg [.p (.str []),.nils,.nils]]),(1,.arr 25 3 1 [.agg [.nils,.nils,.nils]]),(2,.arr 41 3 1 [.agg [.p (.str [112]),.own 5 1 0 1,.nils]]),(5,.arr 9 1 1 [.p (.str [110,97,109,101])]),(7,.arr 9 1 1 (List.map AV.p (List.map PV.str l2)))]⟩) (by simp only [go_sem,seval,←h3];all_goals ((repeat' refine And.intro ?_ ?_) <;> first | rfl | (simp;done) | (simp;rfl) | (simp [*];done) | (simp [*];rfl))) ?_
 have h3n:l2.length=4:=by rw [←h3];rfl
 clear h3
 obtain ⟨t4,h5,h⟩:=zB h
 refine zO (fun (s:List Row×Int)=>⟨[(0,.loc 0 1 0 0),(1,.loc 1 1 0 0),(2,.loc 2 1 0 0),(7,.own 7 1 0 l2.length),(8,.p (.int .i64 4)),(9,.p (.int .i64 s.2))],[(0,.arr 41 3 1 [.agg [.p (.str []),.nils,.nils]]),(1,.arr 25 3 1 [.agg [.nils,.nils,.nils]]),(2,.arr 41 3 1 [.agg [.p (.str [112]),.own 5 1 0 ([[110,97,109,101]]).length,.own 23 1 0 s.1.length]]),(5,.arr 9 1 1 (List.map AV.p (List.map PV.str [[110,97,109,101]]))),(7,.arr 9 1 1 (List.map AV.p (List.map PV.str l2))),(23,.arr 66 2 1 (List.map AV.p (List.map encRow s.1)))]⟩) (fun (o6:List Row)=>tE (cX Tryz.f39 X w D hT) (.exit 0) ⟨[(0,.loc 0 1 0 0),(1,.loc 1 1 0 0),(2,.loc 2 1 0 0)],[(0,.arr 41 3 1 [.agg [.p (.str []),.nils,.nils]]),(1,.arr 25 3 1 [.agg [.nils,.nils,.nils]]),(2,.arr 41 3 1 [.agg [.p (.str [112]),.own 5 1 0 ([[110,97,109,101]]).length,.own 23 1 0 o6.length]]),(5,.arr 9 1 1 (List.map AV.p (List.map PV.str [[110,97,109,101]]))),(23,.arr 66 2 1 (List.map AV.p (List.map encRow o6)))]⟩) h5 ?_ ?_
 clear h h3n h5
 intro s x h
 obtain ⟨t7,t8⟩:=s
 simp only [drosslaw56_example_l1] at h
 dsimp only
 refine zs (zr ?_)
 refine zU (zl (zn (zs ?_)))
 rcases zI h with ⟨h9,h⟩ | ⟨h9,h⟩
 refine zi (zk (zn (zs (zb (zs (zr ?_))))))
 obtain ⟨x10,h11,h11a,h11b,h⟩:=zX h
 refine zU (zl (zn (zr ?_)))
 refine zW 9 ?_
 refine zM ⟨[(0,.loc 0 1 0 0),(1,.loc 1 1 0 0),(2,.loc 2 1 0 0),(7,.own 7 1 0 l2.length),(8,.p (.int .i64 4)),(9,.p (.int .i64 t8)),(15,.own 23 1 0 t7.length),(22,.own 22 1 0 1)],[(0,.arr 41 3 1 [.agg [.p (.str []),.nils,.nils]]),(1,.arr 25 3 1 [.agg [.nils,.nils,.nils]]),(2,.arr 41 3 1 [.agg [.p (.str [112]),.own 5 1 0 ([[110,97,109,101]]).length,.own 23 1 0 t7.length]]),(5,.arr 9 1 1 (List.map AV.p (List.map PV.str [[110,97,109,101]]))),(7,.arr 9 1 1 (List.map AV.p (List.map PV.str l2))),(22,.arr 66 2 1 [.p (.agg [.int .i64 (IntKind.i64.wrap (t8+1)),.slc (List.map encValue [(Value.mk 2 0 x10)])])]),(23,.arr 66 2 1 (List.map AV.p (List.map encRow t7)))]⟩ ?_
 obtain ⟨h12,h⟩:=ite_some h
 refine zU (zl (yn (zn (zr ?_))))
 refine zU (zl ?_)
 cases h
 exact ⟨rfl,zE⟩
 refine zj (zx (ze ?_))
 cases h
 exact ⟨rfl,zE⟩
 try simp only at h
 refine zA (yh (zn (zs (zr ?_))))
 refine zU (zl (zn (zq ?_)))
 cases h
 exact zT Tryz.results39
set_option maxHeartbeats 4000000 in
theorem drossref04_zero_con {D:Prop} (a1:Drossref04_Wide) (r2:Bool) (h:drossref04_zero a1=some r2):Con D Tryz.prog 191 [(encDrossref04_Wide a1)] (.bool r2):=by
 refine zP Tryz.call191 Tryz.func191 rfl Tryz.ntmps191 fun X w hT=>?_
 simp only [drossref04_zero] at h
 refine zs (zr ?_)
 refine zU (zl (zn (zs (zr ?_))))
 refine zU ?_
 rcases zI h with ⟨h3,h⟩ | ⟨h3,h⟩
 replace h:=h.symm
 refine zw 6 true ?_
 refine zg ?_
 refine zg ?_
 refine zg ?_
 refine zU (zl (zn (zq ?_)))
 cases h
 exact zT Tryz.results191
 refine zw 6 false ?_
 refine zh ?_
 refine zU (zl (zn (zq ?_)))
 cases h
 exact zT Tryz.results191
set_option maxRecDepth 20000 in
set_option maxHeartbeats 4000000 in
theorem drossref04_less_con {D:Prop} (a1:Drossref04_Wide) (b2:Drossref04_Wide) (r3:Bool) (h:drossref04_less a1 b2=some r3):Con D Tryz.prog 193 [(encDrossref04_Wide a1),(encDrossref04_Wide b2)] (.bool r3):=by
 refine zP Tryz.call193 Tryz.func193 rfl Tryz.ntmps193 fun X w hT=>?_
 simp only [drossref04_less] at h
 refine zs (zr ?_)
 refine zU (zl (zn (zs (zr ?_))))
 refine zU ?_
 rcases zI h with ⟨h4,h⟩ | ⟨h4,h⟩
 refine zw 10 true ?_
 refine zh ?_
 refine zU (zl (zn (zq ?_)))
 cases h
 exact zT Tryz.results193
 refine zw 10 false ?_
 refine zg ?_
 refine zg ?_
 refine zg ?_
 refine zg ?_
 refine zg ?_
 refine zg ?_
 rcases zI h with ⟨h5,h⟩ | ⟨h5,h⟩
 replace h:=h.symm
 refine zw 16 true ?_
 refine zg ?_
 refine zg ?_
 refine zg ?_
 refine zg ?_
 refine zg ?_
 refine zg ?_
 refine zU (zl (zn (zq ?_)))
 cases h
 exact zT Tryz.results193
 replace h:=h.symm
 refine zw 16 false ?_
 refine zh ?_
 refine zg ?_
 refine zU (zl (zn (zq ?_)))
 cases h
 exact zT Tryz.results193
set_option maxHeartbeats 4000000 in
theorem drossref04_plus_con {D:Prop} (a1:Drossref04_Wide) (b2:Drossref04_Wide) (r3:Drossref04_Wide) (h:drossref04_plus a1 b2=some r3):Con D Tryz.prog 228 [(encDrossref04_Wide a1),(encDrossref04_Wide b2)] (encDrossref04_Wide r3):=by
 refine zP Tryz.call228 Tryz.func228 rfl Tryz.ntmps228 fun X w hT=>?_
 simp only [drossref04_plus] at h
 refine zs (zr ?_)
 refine zU (zl (zn (zs (zr ?_))))
 refine zU ?_
 obtain ⟨r4,h5,h⟩:=zB h
 refine zE3 (add_run ext248 h5) ?_
 refine zU (zl (zn (zs (zr ?_))))
 refine zU ?_
 obtain ⟨r6,h7,h⟩:=zB h
 refine zE3 (add_run ext248 h7) ?_
 refine zU (zl (zn (zs (zr ?_))))
 refine zU (zl (zn (zq ?_)))
 cases h
 exact zT Tryz.results228
set_option maxHeartbeats 4000000 in
theorem drossref04_minus_con {D:Prop} (a1:Drossref04_Wide) (b2:Drossref04_Wide) (r3:Drossref04_Wide) (h:drossref04_minus a1 b2=some r3):Con D Tryz.prog 229 [(encDrossref04_Wide a1),(encDrossref04_Wide b2)] (encDrossref04_Wide r3):=by
 refine zP Tryz.call229 Tryz.func229 rfl Tryz.ntmps229 fun X w hT=>?_
 simp only [drossref04_minus] at h
 refine zs (zr ?_)
 refine zU (zl (zn (zs (zr ?_))))
 refine zU ?_
 obtain ⟨r4,h5,h⟩:=zB h
 refine zE3 (sub_run ext249 h5) ?_
 refine zU (zl (zn (zs (zr ?_))))
 refine zU ?_
 obtain ⟨r6,h7,h⟩:=zB h
 refine zE3 (sub_run ext249 h7) ?_
 refine zU (zl (zn (zs (zr ?_))))
 refine zU (zl (zn (zq ?_)))
 cases h
 exact zT Tryz.results229
set_option maxRecDepth 20000 in
set_option maxHeartbeats 4000000 in
theorem drossref04_parts_con {D:Prop} (a1:Drossref04_Wide) (b2:Drossref04_Wide) (r3:Drossref04_Wide×Drossref04_Wide) (h:drossref04_parts a1 b2=some r3):Con D Tryz.prog 192 [(encDrossref04_Wide a1),(encDrossref04_Wide b2)] (.tup [(encDrossref04_Wide r3.1),(encDrossref04_Wide r3.2)]):=by
 refine zP Tryz.call192 Tryz.func192 rfl Tryz.ntmps192 fun X w hT=>?_
 simp only [drossref04_parts] at h
 refine zs (zr ?_)
 refine zU (zl (zn (zs (zr ?_))))
 refine zU (zl (zn (zs (zs (zr ?_)))))
 refine zU (zl (zn (zb ?_)))
 obtain ⟨o4,h5,h⟩:=zB h
 refine zO (fun (s:Drossref04_Wide×Drossref04_Wide×Int)=>⟨[(2,.loc 2 1 0 0),(3,.loc 3 1 0 0),(4,.loc 4 1 0 0),(5,.loc 5 1 0 0),(6,.loc 6 1 0 0),(7,.loc 7 1 0 0),(8,.p (.int .i64 s.2.2))],[(2,.arr 191 2 1 [.p (encDrossref04_Wide a1)]),(3,.arr 191 2 1 [.p (encDrossref04_Wide b2)]),(4,.arr 191 2 1 [.p (.agg [.int .u64 0,.int .u64 0])]),(5,.arr 191 2 1 [.p (.agg [.int .u64 0,.int .u64 0])]),(6,.arr 191 2 1 [.p (encDrossref04_Wide s.1)]),(7,.arr 191 2 1 [.p (encDrossref04_Wide s.2.1)])]⟩) (fun (o6:Drossref04_Wide×Drossref04_Wide)=>tE (cX Tryz.f192 X w D hT) (.exit 0) ⟨[(4,.loc 4 1 0 0),(5,.loc 5 1 0 0),(6,.loc 6 1 0 0),(7,.loc 7 1 0 0)],[(4,.arr 191 2 1 [.p (.agg [.int .u64 0,.int .u64 0])]),(5,.arr 191 2 1 [.p (.agg [.int .u64 0,.int .u64 0])]),(6,.arr 191 2 1 [.p (encDrossref04_Wide o6.1)]),(7,.arr 191 2 1 [.p (encDrossref04_Wide o6.2)])]⟩) h5 ?_ ?_
 clear h h5
 intro s x h
 obtain ⟨q7,r8,i9⟩:=s
 simp only [drossref04_parts_l1] at h
 dsimp only
 refine zs (zs (zr ?_))
 refine zU (zl (zn ?_))
 rcases zI h with ⟨h10,h⟩ | ⟨h10,h⟩
 refine zi (zk (zn (zs (zb (zs (zr ?_))))))
 refine zU (zl (zn (zs (zs (zr ?_)))))
 refine zU (zl (zn ?_))
 rcases zI h with ⟨h11,h⟩ | ⟨h11,h⟩
 refine zi (zr ?_)
 refine zU (zl (zn (zs (zr ?_))))
 refine zU ?_
 obtain ⟨r12,h13,h⟩:=zB h
 refine zc (drossref04_plus_con r8 r8 _ h13) ?_
 refine zU (zl (zn (zs (zd ?_))))
 obtain ⟨h14,h⟩:=ite_none h
 refine yU ?_
 refine yd (zn (zs (zr ?_)))
 refine zU ?_
 obtain ⟨r15,h16,h⟩:=zB h
 refine zc (drossref04_plus_con q7 q7 _ h16) ?_
 refine zU (zl (zn (zs (zr ?_))))
 refine zU ?_
 obtain ⟨r17,h18,h⟩:=zB h
 refine zc (drossref04_less_con (Drossref04_Wide.mk r12.Hi (IntKind.u64.wrap (r12.Lo+(Int.tmod (Int.fdiv a1.Hi (2 ^ (min ((Int.tmod i9 64)).toNat 64))) 2)))) b2 _ h18) ?_
 refine zU (zl (zn ?_))
 rcases zI h with ⟨h19,h⟩ | ⟨h19,h⟩
 refine zj (zk (yn (zn (zr ?_))))
 refine zU (zl ?_)
 cases h
 exact ⟨rfl,zE⟩
 refine zi (zs (zr ?_))
 refine zU ?_
 obtain ⟨r20,h21,h⟩:=zB h
 refine zc (drossref04_minus_con (Drossref04_Wide.mk r12.Hi (IntKind.u64.wrap (r12.Lo+(Int.tmod (Int.fdiv a1.Hi (2 ^ (min ((Int.tmod i9 64)).toNat 64))) 2)))) b2 _ h21) ?_
 refine zU (zl (zn (zr ?_)))
 refine zU (zl (yn (zn (zr ?_))))
 refine zU (zl ?_)
 cases h
 exact ⟨rfl,zE⟩
 refine zj (zk (zn (zs (zr ?_))))
 refine zU ?_
 obtain ⟨r22,h23,h⟩:=zB h
 refine zc (drossref04_plus_con r8 r8 _ h23) ?_
 refine zU (zl (zn (zs (zd ?_))))
 obtain ⟨h24,h⟩:=ite_none h
 refine yU ?_
 refine yd (zn (zs (zr ?_)))
 refine zU ?_
 obtain ⟨r25,h26,h⟩:=zB h
 refine zc (drossref04_plus_con q7 q7 _ h26) ?_
 refine zU (zl (zn (zs (zr ?_))))
 refine zU ?_
 obtain ⟨r27,h28,h⟩:=zB h
 refine zc (drossref04_less_con (Drossref04_Wide.mk r22.Hi (IntKind.u64.wrap (r22.Lo+(Int.tmod (Int.fdiv a1.Lo (2 ^ (min ((Int.tmod i9 64)).toNat 64))) 2)))) b2 _ h28) ?_
 refine zU (zl (zn ?_))
 rcases zI h with ⟨h29,h⟩ | ⟨h29,h⟩
 refine zj (zk (yn (zn (zr ?_))))
 refine zU (zl ?_)
 cases h
 exact ⟨rfl,zE⟩
 refine zi (zs (zr ?_))
 refine zU ?_
 obtain ⟨r30,h31,h⟩:=zB h
 refine zc (drossref04_minus_con (Drossref04_Wide.mk r22.Hi (IntKind.u64.wrap (r22.Lo+(Int.tmod (Int.fdiv a1.Lo (2 ^ (min ((Int.tmod i9 64)).toNat 64))) 2)))) b2 _ h31) ?_
 refine zU (zl (zn (zr ?_)))
 refine zU (zl (yn (zn (zr ?_))))
 refine zU (zl ?_)
 cases h
 exact ⟨rfl,zE⟩
 refine zj (zx (ze ?_))
 cases h
 exact ⟨rfl,zE⟩
 obtain ⟨q32,r33⟩:=o4
 try simp only at h
 refine zA (yh (zn (zs (zd ?_))))
 refine yU ?_
 refine yd (zn (zq ?_))
 cases h
 exact zT Tryz.results192
set_option maxHeartbeats 4000000 in
theorem drossref04_build_con {D:Prop} (n1:Bool) (n2:Drossref04_Wide) (d3:Drossref04_Wide) (r4:Ratio×Int) (h:drossref04_build n1 n2 d3=some r4):Con D Tryz.prog 132 [(.bool n1),(encDrossref04_Wide n2),(encDrossref04_Wide d3)] (.tup [(encRatio r4.1),(.int .i64 r4.2)]):=by
 refine zP Tryz.call132 Tryz.func132 rfl Tryz.ntmps132 fun X w hT=>?_
 simp only [drossref04_build] at h
 refine zs (zr ?_)
 refine zU (zl (zn (zs (zd ?_))))
 refine yU ?_
 refine yd (zn (zs (zb ?_)))
 obtain ⟨x5,h6,h⟩:=zB h
 refine zO (fun (s:Drossref04_Wide×Drossref04_Wide)=>⟨[(0,.p (.bool n1)),(4,.loc 4 1 0 0),(5,.loc 5 1 0 0),(6,.loc 6 1 0 0),(8,.loc 8 1 0 0),(9,.loc 9 1 0 0)],[(4,.arr 191 2 1 [.p (encDrossref04_Wide n2)]),(5,.arr 191 2 1 [.p (encDrossref04_Wide d3)]),(6,.arr 76 2 1 [.p (.agg [.int .i64 0,.int .i64 0])]),(8,.arr 191 2 1 [.p (encDrossref04_Wide s.1)]),(9,.arr 191 2 1 [.p (encDrossref04_Wide s.2)])]⟩) (fun (o7:Drossref04_Wide)=>tE (cX Tryz.f132 X w D hT) (.exit 0) ⟨[(0,.p (.bool n1)),(4,.loc 4 1 0 0),(5,.loc 5 1 0 0),(6,.loc 6 1 0 0),(8,.loc 8 1 0 0)],[(4,.arr 191 2 1 [.p (encDrossref04_Wide n2)]),(5,.arr 191 2 1 [.p (encDrossref04_Wide d3)]),(6,.arr 76 2 1 [.p (.agg [.int .i64 0,.int .i64 0])]),(8,.arr 191 2 1 [.p (encDrossref04_Wide o7)])]⟩) h6 ?_ ?_
 clear h h6
 intro s x h
 obtain ⟨x8,y9⟩:=s
 simp only [drossref04_build_l1] at h
 dsimp only
 refine zs (zs (zr ?_))
 refine zU ?_
 obtain ⟨r10,h11,h⟩:=zB h
 refine zc (drossref04_zero_con y9 _ h11) ?_
 refine zU (zl (zn ?_))
 rcases zI h with ⟨h12,h⟩ | ⟨h12,h⟩
 refine zj (zx (ze ?_))
 cases h
 exact ⟨rfl,zE⟩
 refine zi (zk (zn (zb (zs (zr ?_)))))
 refine zU ?_
 obtain ⟨r13,h14,h⟩:=zB h
 refine zc (drossref04_parts_con x8 y9 _ h14) ?_
 refine zU (zl (zn (zd ?_)))
 refine yU ?_
 refine yd (yn ?_)
 cases h
 exact ⟨rfl,zE⟩
 try simp only at h
 refine zA (yh (zn (zs (zr ?_))))
 refine zU ?_
 obtain ⟨r15,h16,h⟩:=zB h
 refine zc (drossref04_parts_con n2 x5 _ h16) ?_
 refine zU (zl (zn (zs (zr ?_))))
 refine zU ?_
 obtain ⟨r17,h18,h⟩:=zB h
 refine zc (drossref04_parts_con d3 x5 _ h18) ?_
 refine zU (zl (zn (zs (zr ?_))))
 refine zU (zl (zn (zs (zs (zr ?_)))))
 refine zU ?_
 obtain ⟨r19,h20,h⟩:=zB h
 refine zc (drossref04_less_con (Drossref04_Wide.mk 0 9223372036854775807) r15.1 _ h20) ?_
 refine zU ?_
 rcases zI h with ⟨h21,h⟩ | ⟨h21,h⟩
 refine zw 43 true ?_
 refine zh ?_
 refine zU (zl (zn ?_))
 refine zi (zs (zr ?_))
 refine zU (zl (zn (zq (zt ?_))))
 cases h
 exact zT Tryz.results132
 refine zw 43 false ?_
 refine zg ?_
 refine zg ?_
 obtain ⟨r22,h23,h⟩:=zB h
 refine zc (drossref04_less_con (Drossref04_Wide.mk 0 9223372036854775807) r17.1 _ h23) ?_
 refine zU (zl (zn ?_))
 rcases zI h with ⟨h24,h⟩ | ⟨h24,h⟩
 refine zi (zs (zr ?_))
 refine zU (zl (zn (zq (zt ?_))))
 cases h
 exact zT Tryz.results132
 refine zj (zk (zn (zs (zr ?_))))
 refine zU (zl (zn (zs (zs (zr ?_)))))
 refine zU (zl (zn ?_))
 rcases zI h with ⟨h25,h⟩ | ⟨h25,h⟩
 refine zi (zr ?_)
 refine zU (zl (zn (zs (zr ?_))))
 refine zU (zl (zn (zq ?_)))
 cases h
 exact zT Tryz.results132
 refine zj (zk (zn (zs (zr ?_))))
 refine zU (zl (zn (zq ?_)))
 cases h
 exact zT Tryz.results132
set_option maxHeartbeats 4000000 in
theorem drossref04_size_con {D:Prop} (n1:Int) (r2:Drossref04_Wide) (h:drossref04_size n1=some r2):Con D Tryz.prog 133 [(.int .i64 n1)] (encDrossref04_Wide r2):=by
 refine zP Tryz.call133 Tryz.func133 rfl Tryz.ntmps133 fun X w hT=>?_
 simp only [drossref04_size] at h
 refine zs (zr ?_)
 refine zU (zl (zn (zs (zs (zr ?_)))))
 refine zU (zl (zn ?_))
 rcases zI h with ⟨h3,h⟩ | ⟨h3,h⟩
 refine zi (zs (zr ?_))
 refine zU (zl (zn (zq (zt ?_))))
 cases h
 exact zT Tryz.results133
 refine zj (zk (zn (zs (zr ?_))))
 refine zU (zl (zn (zq ?_)))
 cases h
 exact zT Tryz.results133
set_option maxHeartbeats 4000000 in
theorem drossref04_Make_con {D:Prop} (n1:Int) (d2:Int) (r3:Ratio×Int) (h:drossref04_Make n1 d2=some r3):Con D Tryz.prog 79 [(.int .i64 n1),(.int .i64 d2)] (.tup [(encRatio r3.1),(.int .i64 r3.2)]):=by
 refine zP Tryz.call79 Tryz.func79 rfl Tryz.ntmps79 fun X w hT=>?_
 simp only [drossref04_Make] at h
 refine zs (zr ?_)
 refine zU (zl (zn (zs (zs (zr ?_)))))
 refine zU (zl (zn ?_))
 rcases zI h with ⟨h4,h⟩ | ⟨h4,h⟩
 refine zi (zs (zr ?_))
 refine zU (zl (zn (zq (zt ?_))))
 cases h
 exact zT Tryz.results79
 refine zj (zk (zn (zs (zr ?_))))
 refine zU ?_
 obtain ⟨r5,h6,h⟩:=zB h
 refine zc (drossref04_size_con n1 _ h6) ?_
 refine zU ?_
 obtain ⟨r7,h8,h⟩:=zB h
 refine zc (drossref04_size_con d2 _ h8) ?_
 obtain ⟨r9,h10,h⟩:=zB h
 refine zc (drossref04_build_con (!((decide (n1 < 0)) == (decide (d2 < 0)))) r5 r7 _ h10) ?_
 refine zU (zl (zn (zq ?_)))
 cases h
 exact zT Tryz.results79
set_option maxHeartbeats 4000000 in
theorem drossref04_Of_con {D:Prop} (n1:Int) (d2:Int) (r3:Ratio) (h:drossref04_Of n1 d2=some r3):Con D Tryz.prog 40 [(.int .i64 n1),(.int .i64 d2)] (encRatio r3):=by
 refine zP Tryz.call40 Tryz.func40 rfl Tryz.ntmps40 fun X w hT=>?_
 simp only [drossref04_Of] at h
 refine zs (zr ?_)
 refine zU (zl (zn (zs (zr ?_))))
 refine zU ?_
 obtain ⟨r4,h5,h⟩:=zB h
 refine zc (drossref04_Make_con n1 d2 _ h5) ?_
 refine zU (zl (zn (zs (zs (zr ?_)))))
 refine zU (zl (zn ?_))
 rcases zI h with ⟨h6,h⟩ | ⟨h6,h⟩
 refine zi (zs (zr ?_))
 refine zU (zl (zn (zq (zt ?_))))
 cases h
 exact zT Tryz.results40
 refine zj (zk (zn (zs (zr ?_))))
 refine zU (zl (zn (zq ?_)))
 cases h
 exact zT Tryz.results40
set_option maxRecDepth 20000 in
set_option maxHeartbeats 4000000 in
theorem drosslaw56_awake_con  (r1:Bool) (h:drosslaw56_awake=some r1):Con False Tryz.prog 12 [] (.bool r1):=by
 refine zP Tryz.call12 Tryz.func12 rfl Tryz.ntmps12 fun X w hT=>?_
 simp only [drosslaw56_awake] at h
 refine zs (zr ?_)
 refine zU (zl (zn (zs (zr ?_))))
 obtain ⟨r2,h3,h⟩:=zB h
 refine zc (drosslaw56_example_con  _ h3) ?_
 refine zU (zl (zn (zs (zr ?_))))
 refine zU ?_
 obtain ⟨r4,h5,h⟩:=zB h
 refine zc (linkage_Matches_con r2.1 r2.2 _ h5) ?_
 refine zU (zl (zn (zs (zr ?_))))
 refine zU ?_
 obtain ⟨r6,h7,h⟩:=zB h
 refine zc (linkage_Clusters_con r2.1 r2.2 _ h7) ?_
 refine zU (zl (zn (zs (zr ?_))))
 refine zU ?_
 obtain ⟨r8,h9,h⟩:=zB h
 refine zc (linkage_Precision_con r6.1 [[1,2],[3],[4]] _ h9) ?_
 refine zU (zl (zn (zs (zr ?_))))
 refine zU ?_
 obtain ⟨r10,h11,h⟩:=zB h
 refine zc (linkage_Recall_con r6.1 [[1,2],[3],[4]] _ h11) ?_
 refine zU (zl (zn (zs (zd ?_))))
 refine yU ?_
 rcases zI h with ⟨h12,h⟩ | ⟨h12,h⟩
 refine yw 47 true ?_
 refine yg ?_
 refine yg ?_
 refine yg ?_
 refine yg ?_
 obtain ⟨r13,h14,h⟩:=zB h
 refine yc (drossref56_SamePairs_con r4.1 [(Arr2_int64.mk 1 2),(Arr2_int64.mk 2 3)] _ h14) ?_
 refine yU ?_
 rcases zI h with ⟨h15,h⟩ | ⟨h15,h⟩
 refine yw 54 true ?_
 refine yg ?_
 refine yg ?_
 refine yU ?_
 rcases zI h with ⟨h16,h⟩ | ⟨h16,h⟩
 refine yw 58 true ?_
 refine yg ?_
 refine yg ?_
 refine yg ?_
 refine yg ?_
 obtain ⟨r17,h18,h⟩:=zB h
 refine yc (drossref55_Lists_con r6.1 [[1,2,3],[4]] _ h18) ?_
 refine yU ?_
 rcases zI h with ⟨h19,h⟩ | ⟨h19,h⟩
 refine yw 65 true ?_
 refine yg ?_
 refine yg ?_
 refine yU ?_
 rcases zI h with ⟨h20,h⟩ | ⟨h20,h⟩
 refine yw 69 true ?_
 refine yg ?_
 obtain ⟨r21,h22,h⟩:=zB h
 refine yc (drossref04_Of_con 1 3 _ h22) ?_
 refine yg ?_
 refine yU ?_
 rcases zI h with ⟨h23,h⟩ | ⟨h23,h⟩
 refine yw 74 true ?_
 refine yg ?_
 refine yg ?_
 refine yU ?_
 rcases zI h with ⟨h24,h⟩ | ⟨h24,h⟩
 refine yw 78 true ?_
 refine yg ?_
 obtain ⟨r25,h26,h⟩:=zB h
 replace h:=h.symm
 refine yc (drossref04_Of_con 1 1 _ h26) ?_
 refine yg ?_
 refine yU ?_
 refine yd (zn (zq ?_))
 cases h
 exact zT Tryz.results12
 refine yw 78 false ?_
 refine yk ?_
 refine yU ?_
 refine yd (zn (zq ?_))
 cases h
 exact zT Tryz.results12
 refine yw 74 false ?_
 refine yk ?_
 refine yU ?_
 refine yk ?_
 refine yU ?_
 refine yd (zn (zq ?_))
 cases h
 exact zT Tryz.results12
 refine yw 69 false ?_
 refine yk ?_
 refine yU ?_
 refine yk ?_
 refine yU ?_
 refine yk ?_
 refine yU ?_
 refine yd (zn (zq ?_))
 cases h
 exact zT Tryz.results12
 refine yw 65 false ?_
 refine yk ?_
 refine yU ?_
 refine yk ?_
 refine yU ?_
 refine yk ?_
 refine yU ?_
 refine yk ?_
 refine yU ?_
 refine yd (zn (zq ?_))
 cases h
 exact zT Tryz.results12
 refine yw 58 false ?_
 refine yk ?_
 refine yU ?_
 refine yk ?_
 refine yU ?_
 refine yk ?_
 refine yU ?_
 refine yk ?_
 refine yU ?_
 refine yk ?_
 refine yU ?_
 refine yd (zn (zq ?_))
 cases h
 exact zT Tryz.results12
 refine yw 54 false ?_
 refine yk ?_
 refine yU ?_
 refine yk ?_
 refine yU ?_
 refine yk ?_
 refine yU ?_
 refine yk ?_
 refine yU ?_
 refine yk ?_
 refine yU ?_
 refine yk ?_
 refine yU ?_
 refine yd (zn (zq ?_))
 cases h
 exact zT Tryz.results12
 refine yw 47 false ?_
 refine yk ?_
 refine yU ?_
 refine yk ?_
 refine yU ?_
 refine yk ?_
 refine yU ?_
 refine yk ?_
 refine yU ?_
 refine yk ?_
 refine yU ?_
 refine yk ?_
 refine yU ?_
 refine yk ?_
 refine yU ?_
 refine yd (zn (zq ?_))
 cases h
 exact zT Tryz.results12
set_option maxRecDepth 20000 in
set_option maxHeartbeats 4000000 in
theorem drossref56_Of_con {D:Prop} (n1:Int) (d2:Drossref56_Draft) (r3:Linkage×Bool) (h:drossref56_Of n1 d2=some r3):Con D Tryz.prog 21 [(.int .i64 n1),(encDrossref56_Draft d2)] (.tup [(encLinkage r3.1),(.bool r3.2)]):=by
 refine zP Tryz.call21 Tryz.func21 rfl Tryz.ntmps21 fun X w hT=>?_
 simp only [drossref56_Of] at h
 refine zs (zr ?_)
 refine zU (zl (zn (zs (zr ?_))))
 refine zU (zl (zn (zs (zs (zr ?_)))))
 refine zU (zl (zn (zb ?_)))
 obtain ⟨o4,h5,h⟩:=zB h
 refine zO (fun (s:List (List Similar)×Int)=>⟨[(0,.p (.int .i64 n1)),(3,.loc 3 1 0 0),(4,.loc 4 1 0 0),(6,.loc 6 1 0 0),(7,.p (.int .i64 s.2))],[(3,.arr 37 3 1 [.p (encDrossref56_Draft d2)]),(4,.arr 25 3 1 [.agg [.nils,.nils,.nils]]),(6,.arr 25 3 1 [.agg [.own 91 1 0 s.1.length,.nils,.nils]]),(91,.arr 93 1 1 (List.map AV.p (List.map (encL encSimilar) s.1)))]⟩) (fun (o:(List (List Similar)) ⊕ (Linkage×Bool))=>match o with | .inl o6=>tE (cX Tryz.f21 X w D hT) (.exit 0) ⟨[(0,.p (.int .i64 n1)),(3,.loc 3 1 0 0),(4,.loc 4 1 0 0),(6,.loc 6 1 0 0)],[(3,.arr 37 3 1 [.p (encDrossref56_Draft d2)]),(4,.arr 25 3 1 [.agg [.nils,.nils,.nils]]),(6,.arr 25 3 1 [.agg [.own 91 1 0 o6.length,.nils,.nils]]),(91,.arr 93 1 1 (List.map AV.p (List.map (encL encSimilar) o6)))]⟩ | .inr o7=>tR Tryz.prog Tryz.f21 (.tup [(encLinkage o7.1),(.bool o7.2)])) h5 ?_ ?_
 clear h h5
 intro s x h
 obtain ⟨l8,i9⟩:=s
 simp only [drossref56_Of_l4] at h
 dsimp only
 refine zs (zs (zr ?_))
 refine zU (zl (zn ?_))
 rcases zI h with ⟨h10,h⟩ | ⟨h10,h⟩
 refine zi (zk (zn (zs (zb (zs (zs (zr ?_)))))))
 obtain ⟨x11,h12,h12a,h12b,h⟩:=zX h
 refine zU ?_
 rcases zI h with ⟨h13,h⟩ | ⟨h13,h⟩
 refine zw 28 true ?_
 refine zh ?_
 refine zU (zl (zn ?_))
 refine zi (zs (zr ?_))
 refine zU (zl (zn (zq (zt (yr (zt ?_))))))
 cases h
 exact ⟨rfl,zT Tryz.results21⟩
 refine zw 28 false ?_
 refine zg ?_
 refine zg ?_
 refine zg ?_
 refine zg ?_
 refine zg ?_
 refine zg ?_
 refine zg ?_
 refine zU (zl (zn ?_))
 rcases zI h with ⟨h14,h⟩ | ⟨h14,h⟩
 refine zi (zs (zr ?_))
 refine zU (zl (zn (zq (zt (yr (zt ?_))))))
 cases h
 exact ⟨rfl,zT Tryz.results21⟩
 refine zj (zk (zn (zs (zr ?_))))
 refine zU (zl (zn (zs (zs (zr ?_)))))
 refine zU (zl (zn (zb ?_)))
 obtain ⟨r15,h16,h⟩:=zB h
 refine zO (fun (s:List Similar×Int)=>⟨[(0,.p (.int .i64 n1)),(3,.loc 3 1 0 0),(4,.loc 4 1 0 0),(6,.loc 6 1 0 0),(7,.p (.int .i64 i9)),(8,.own 86 1 0 s.1.length),(9,.p (.int .i64 s.2))],[(3,.arr 37 3 1 [.p (encDrossref56_Draft d2)]),(4,.arr 25 3 1 [.agg [.nils,.nils,.nils]]),(6,.arr 25 3 1 [.agg [.own 91 1 0 l8.length,.nils,.nils]]),(86,.arr 95 3 1 (List.map AV.p (List.map encSimilar s.1))),(91,.arr 93 1 1 (List.map AV.p (List.map (encL encSimilar) l8)))]⟩) (fun (o17:List Similar)=>tE (cX Tryz.f21 X w D hT) (.exit 2) ⟨[(0,.p (.int .i64 n1)),(3,.loc 3 1 0 0),(4,.loc 4 1 0 0),(6,.loc 6 1 0 0),(7,.p (.int .i64 i9)),(8,.own 86 1 0 o17.length)],[(3,.arr 37 3 1 [.p (encDrossref56_Draft d2)]),(4,.arr 25 3 1 [.agg [.nils,.nils,.nils]]),(6,.arr 25 3 1 [.agg [.own 91 1 0 l8.length,.nils,.nils]]),(86,.arr 95 3 1 (List.map AV.p (List.map encSimilar o17))),(91,.arr 93 1 1 (List.map AV.p (List.map (encL encSimilar) l8)))]⟩) h16 ?_ ?_
 clear h h10 h12 h12a h12b h13 h14 h16
 intro s x h
 obtain ⟨r18,k19⟩:=s
 simp only [drossref56_Of_l3] at h
 dsimp only
 refine zs (zs (zr ?_))
 obtain ⟨x20,h21,h21a,h21b,h⟩:=zX h
 refine zU (zl (zn ?_))
 rcases zI h with ⟨h22,h⟩ | ⟨h22,h⟩
 refine zi (zk (zn (zs (zb (zs (zr ?_))))))
 obtain ⟨x23,h24,h24a,h24b,h⟩:=zX h
 refine zU (zl (zn (zs (zd ?_))))
 obtain ⟨h25,h⟩:=ite_none h
 refine yU ?_
 refine yd (zn (zs (zs (zr ?_))))
 refine zU (zl (zn ?_))
 rcases zI h with ⟨h26,h⟩ | ⟨h26,h⟩
 refine zi (zr ?_)
 refine zU (zl (zn (zs (zs (zr ?_)))))
 refine zU (zl (zn ?_))
 rcases zI h with ⟨h27,h⟩ | ⟨h27,h⟩
 refine zi (zr ?_)
 refine zU (zl (zn (zr ?_)))
 obtain ⟨h28,h⟩:=ite_some h
 refine zU (zl (yn (zn (zr ?_))))
 refine zU (zl ?_)
 cases h
 exact ⟨rfl,zE⟩
 refine zj (zk (zn (zr ?_)))
 obtain ⟨h29,h⟩:=ite_some h
 refine zU (zl (yn (zn (zr ?_))))
 refine zU (zl ?_)
 cases h
 exact ⟨rfl,zE⟩
 refine zj (zk (zn (zs (zs (zr ?_)))))
 refine zU (zl (zn ?_))
 rcases zI h with ⟨h30,h⟩ | ⟨h30,h⟩
 refine zi (zr ?_)
 refine zU (zl (zn (zr ?_)))
 obtain ⟨h31,h⟩:=ite_some h
 refine zU (zl (yn (zn (zr ?_))))
 refine zU (zl ?_)
 cases h
 exact ⟨rfl,zE⟩
 refine zj (zk (zn (zr ?_)))
 obtain ⟨h32,h⟩:=ite_some h
 refine zU (zl (yn (zn (zr ?_))))
 refine zU (zl ?_)
 cases h
 exact ⟨rfl,zE⟩
 refine zj (zx (ze ?_))
 cases h
 exact ⟨rfl,zE⟩
 try simp only at h
 refine zA (yh (zn (zr ?_)))
 refine zW 4 ?_
 refine zM ⟨[(0,.p (.int .i64 n1)),(3,.loc 3 1 0 0),(4,.loc 4 1 0 0),(6,.loc 6 1 0 0),(7,.p (.int .i64 i9)),(88,.own 91 1 0 l8.length),(90,.own 90 1 0 1)],[(3,.arr 37 3 1 [.p (encDrossref56_Draft d2)]),(4,.arr 25 3 1 [.agg [.nils,.nils,.nils]]),(6,.arr 25 3 1 [.agg [.own 91 1 0 l8.length,.nils,.nils]]),(90,.arr 93 1 1 [.p (.slc (List.map encSimilar r15))]),(91,.arr 93 1 1 (List.map AV.p (List.map (encL encSimilar) l8)))]⟩ ?_
 obtain ⟨h33,h⟩:=ite_some h
 refine zU (zl (yn (zn (zr ?_))))
 refine zU (zl ?_)
 cases h
 exact ⟨rfl,zE⟩
 refine zj (zx (ze ?_))
 cases h
 exact ⟨rfl,zE⟩
 rcases o4 with l34 | r35
 try simp only at h
 refine zA (yh (zn (zs (zs (zr ?_)))))
 refine zU (zl (zn (zb ?_)))
 obtain ⟨o36,h37,h⟩:=zB h
 refine zO (fun (s:List Int×List Int×Int)=>⟨[(0,.p (.int .i64 n1)),(3,.loc 3 1 0 0),(4,.loc 4 1 0 0),(6,.loc 6 1 0 0),(12,.p (.int .i64 s.2.2))],[(3,.arr 37 3 1 [.p (encDrossref56_Draft d2)]),(4,.arr 25 3 1 [.agg [.nils,.nils,.nils]]),(6,.arr 25 3 1 [.agg [.own 91 1 0 l34.length,.own 112 1 0 s.1.length,.own 131 1 0 s.2.1.length]]),(91,.arr 93 1 1 (List.map AV.p (List.map (encL encSimilar) l34))),(112,.arr 3 1 1 (List.map AV.p (List.map (PV.int .i64) s.1))),(131,.arr 3 1 1 (List.map AV.p (List.map (PV.int .i64) s.2.1)))]⟩) (fun (o38:List Int×List Int)=>tE (cX Tryz.f21 X w D hT) (.exit 4) ⟨[(3,.loc 3 1 0 0),(4,.loc 4 1 0 0),(6,.loc 6 1 0 0)],[(3,.arr 37 3 1 [.p (encDrossref56_Draft d2)]),(4,.arr 25 3 1 [.agg [.nils,.nils,.nils]]),(6,.arr 25 3 1 [.agg [.own 91 1 0 l34.length,.own 112 1 0 o38.1.length,.own 131 1 0 o38.2.length]]),(91,.arr 93 1 1 (List.map AV.p (List.map (encL encSimilar) l34))),(112,.arr 3 1 1 (List.map AV.p (List.map (PV.int .i64) o38.1))),(131,.arr 3 1 1 (List.map AV.p (List.map (PV.int .i64) o38.2)))]⟩) h37 ?_ ?_
 clear h h5 h37
 intro s x h
 obtain ⟨l39,l40,a41⟩:=s
 simp only [drossref56_Of_l5] at h
 dsimp only
 refine zs (zs (zr ?_))
 refine zU (zl (zn ?_))
 rcases zI h with ⟨h42,h⟩ | ⟨h42,h⟩
 refine zi (zk (zn (zs (zb (zs ?_)))))
 obtain ⟨t43,h44,h⟩:=zB h
 refine zJ (fun (o45:Bool)=>tE (cX Tryz.f21 X w D hT) .normal ⟨[(0,.p (.int .i64 n1)),(3,.loc 3 1 0 0),(4,.loc 4 1 0 0),(6,.loc 6 1 0 0),(12,.p (.int .i64 a41)),(107,.p (.bool o45))],[(3,.arr 37 3 1 [.p (encDrossref56_Draft d2)]),(4,.arr 25 3 1 [.agg [.nils,.nils,.nils]]),(6,.arr 25 3 1 [.agg [.own 91 1 0 l34.length,.own 112 1 0 l39.length,.own 131 1 0 l40.length]]),(91,.arr 93 1 1 (List.map AV.p (List.map (encL encSimilar) l34))),(112,.arr 3 1 1 (List.map AV.p (List.map (PV.int .i64) l39))),(131,.arr 3 1 1 (List.map AV.p (List.map (PV.int .i64) l40)))]⟩) t43 ?_ ?_
 replace h:=h44
 clear h44
 refine zr ?_
 refine zU ?_
 rcases zI h with ⟨h46,h⟩ | ⟨h46,h⟩
 refine zw 100 true ?_
 refine zg ?_
 refine zg ?_
 refine zg ?_
 obtain ⟨h47,h⟩:=ite_none h
 replace h:=h.symm
 refine zg ?_
 refine zg ?_
 refine zg ?_
 refine zU (zl ?_)
 cases h
 exact ⟨rfl,zE⟩
 refine zw 100 false ?_
 refine zh ?_
 refine zU (zl ?_)
 cases h
 exact ⟨rfl,zE⟩
 try simp only at h
 refine zA (zn ?_)
 rcases zI h with ⟨h48,h⟩ | ⟨h48,h⟩
 refine zi (zr ?_)
 obtain ⟨h49,h⟩:=ite_some h
 refine zU (zl (zn (zs (zr ?_))))
 refine zU (zl (zn (zs (zs (zr ?_)))))
 refine zU (zl (zn ?_))
 rcases zI h with ⟨h50,h⟩ | ⟨h50,h⟩
 refine zi (zr ?_)
 obtain ⟨x51,h52,h52a,h52b,h⟩:=zX h
 refine zU (zl (zn (zr ?_)))
 obtain ⟨h53,h⟩:=ite_some h
 refine zU (zl (yn (zn (zr ?_))))
 refine zU (zl ?_)
 cases h
 exact ⟨rfl,zE⟩
 refine zj (zk (zn (zr ?_)))
 obtain ⟨h54,h⟩:=ite_some h
 refine zU (zl (yn (zn (zr ?_))))
 refine zU (zl ?_)
 cases h
 exact ⟨rfl,zE⟩
 refine zj (zk (zn (zs (zr ?_))))
 refine zU (zl (zn (zs (zs (zr ?_)))))
 refine zU (zl (zn ?_))
 rcases zI h with ⟨h55,h⟩ | ⟨h55,h⟩
 refine zi (zr ?_)
 obtain ⟨x56,h57,h57a,h57b,h⟩:=zX h
 refine zU (zl (zn (zr ?_)))
 obtain ⟨h58,h⟩:=ite_some h
 refine zU (zl (yn (zn (zr ?_))))
 refine zU (zl ?_)
 cases h
 exact ⟨rfl,zE⟩
 refine zj (zk (zn (zr ?_)))
 obtain ⟨h59,h⟩:=ite_some h
 refine zU (zl (yn (zn (zr ?_))))
 refine zU (zl ?_)
 cases h
 exact ⟨rfl,zE⟩
 refine zj (zx (ze ?_))
 cases h
 exact ⟨rfl,zE⟩
 obtain ⟨l60,l61⟩:=o36
 try simp only at h
 refine zA (yh (zn (zs (zd ?_))))
 refine yU ?_
 refine yd (zn (zq ?_))
 cases h
 exact zT Tryz.results21
 try simp only at h
 refine zZ fun s hq=>?_
 refine yr (zt ?_)
 cases h
 exact hq
set_option maxHeartbeats 4000000 in
theorem drossref01_Of_con {D:Prop} (c1:Int) (r2:Value) (h:drossref01_Of c1=some r2):Con D Tryz.prog 151 [(.int .u8 c1)] (encValue r2):=by
 refine zP Tryz.call151 Tryz.func151 rfl Tryz.ntmps151 fun X w hT=>?_
 simp only [drossref01_Of] at h
 refine zs (zr ?_)
 refine zU (zl (zn (zs (zs (zr ?_)))))
 refine zU (zl (zn (zb (zs (zr ?_)))))
 refine zU (zl (zn ?_))
 rcases zI h with ⟨h3,h⟩ | ⟨h3,h⟩
 refine zi (zs (zr ?_))
 refine zU (zl (zn (zq (yr (zt ?_)))))
 cases h
 exact zT Tryz.results151
 refine zj (zs (zr ?_))
 refine zU (zl (zn ?_))
 rcases zI h with ⟨h4,h⟩ | ⟨h4,h⟩
 refine zi (zs (zr ?_))
 refine zU (zl (zn (zq (yr (zt ?_)))))
 cases h
 exact zT Tryz.results151
 refine zj (zs (zr ?_))
 refine zU (zl (zn ?_))
 rcases zI h with ⟨h5,h⟩ | ⟨h5,h⟩
 refine zi (zs (zr ?_))
 refine zU (zl (zn (zq (yr (zt ?_)))))
 cases h
 exact zT Tryz.results151
 refine zj (zs (zr ?_))
 refine zU (zl (zn ?_))
 rcases zI h with ⟨h6,h⟩ | ⟨h6,h⟩
 refine zi (zs (zr ?_))
 refine zU (zl (zn (zq (yr (zt ?_)))))
 cases h
 exact zT Tryz.results151
 refine zj (zs (zr ?_))
 refine zU (zl (zn ?_))
 rcases zI h with ⟨h7,h⟩ | ⟨h7,h⟩
 refine zi (zs (zr ?_))
 refine zU (zl (zn (zq (yr (zt ?_)))))
 cases h
 exact zT Tryz.results151
 refine zj (zs (zr ?_))
 refine zU (zl (zn ?_))
 rcases zI h with ⟨h8,h⟩ | ⟨h8,h⟩
 refine zi (zs (zr ?_))
 refine zU (zl (zn (zq (yr (zt ?_)))))
 cases h
 exact zT Tryz.results151
 refine zj (zs (zr ?_))
 refine zU (zl (zn ?_))
 rcases zI h with ⟨h9,h⟩ | ⟨h9,h⟩
 refine zi (zs (zr ?_))
 refine zU (zl (zn (zq (yr (zt ?_)))))
 cases h
 exact zT Tryz.results151
 refine zj (zs (zr ?_))
 refine zU (zl (zn ?_))
 rcases zI h with ⟨h10,h⟩ | ⟨h10,h⟩
 refine zi (zs (zr ?_))
 refine zU (zl (zn (zq (yr (zt ?_)))))
 cases h
 exact zT Tryz.results151
 refine zj (zs (zr ?_))
 refine zU (zl (zn ?_))
 rcases zI h with ⟨h11,h⟩ | ⟨h11,h⟩
 refine zi (zs (zr ?_))
 refine zU (zl (zn (zq (yr (zt ?_)))))
 cases h
 exact zT Tryz.results151
 refine zj (zs (zr ?_))
 refine zU (zl (zn ?_))
 rcases zI h with ⟨h12,h⟩ | ⟨h12,h⟩
 refine zi (zs (zr ?_))
 refine zU (zl (zn (zq (yr (zt ?_)))))
 cases h
 exact zT Tryz.results151
 refine zj (zs (zr ?_))
 refine zU (zl (zn ?_))
 rcases zI h with ⟨h13,h⟩ | ⟨h13,h⟩
 refine zi (zs (zr ?_))
 refine zU (zl (zn (zq (yr (zt ?_)))))
 cases h
 exact zT Tryz.results151
 refine zj (zk (yn (zn (zs (zr ?_)))))
 refine zU (zl (zn (zq ?_)))
 cases h
 exact zT Tryz.results151
set_option maxHeartbeats 4000000 in
theorem drossref03_Wide_con {D:Prop} (x1:Drossref03_Recipe) (n2:Int) (r3:Table) (h:drossref03_Wide x1 n2=some r3):Con D Tryz.prog 88 [(encDrossref03_Recipe x1),(.int .i64 n2)] (encTable r3):=by
 refine zP Tryz.call88 Tryz.func88 rfl Tryz.ntmps88 fun X w hT=>?_
 simp only [drossref03_Wide] at h
 refine zs (zr ?_)
 refine zU (zl (zn (zs (zr ?_))))
 obtain ⟨h4,h⟩:=ite_some h
 obtain ⟨h5,h⟩:=ite_some h
 refine zW 4 ?_
 obtain ⟨l6,h7,h⟩:=zB h
 replace h7:=Option.some.inj h7
 refine AL_le (st':=⟨[(1,.p (.int .i64 n2)),(2,.loc 2 1 0 0),(4,.loc 4 1 0 0),(10,.own 10 1 0 0),(13,.own 11 1 0 n2.toNat)],[(2,.arr 33 3 1 [.p (encDrossref03_Recipe x1)]),(4,.arr 41 3 1 [.agg [.p (.str []),.nils,.nils]]),(10,.arr 9 1 1 []),(11,.arr 9 1 1 (List.map AV.p (List.map PV.str l6)))]⟩) (by simp only [go_sem,seval,←h7];all_goals ((repeat' refine And.intro ?_ ?_) <;> first | rfl | (simp;done) | (simp;rfl) | (simp [*];done) | (simp [*];rfl))) ?_
 have h7n:l6.length=8:=by rw [←h7];rfl
 clear h7
 obtain ⟨h8,h⟩:=ite_some h
 refine zU (zl (zn (zs (zs (zr ?_)))))
 refine zU (zl (zn (zb ?_)))
 obtain ⟨t9,h10,h⟩:=zB h
 refine zO (fun (s:List Row×Int)=>⟨[(1,.p (.int .i64 n2)),(2,.loc 2 1 0 0),(4,.loc 4 1 0 0),(5,.loc 5 1 0 0),(6,.p (.int .i64 s.2))],[(2,.arr 33 3 1 [.p (encDrossref03_Recipe x1)]),(4,.arr 41 3 1 [.agg [.p (.str []),.nils,.nils]]),(5,.arr 41 3 1 [.agg [.p (.str [114]),.own 10 1 0 ((l6.take n2.toNat)).length,.own 64 1 0 s.1.length]]),(10,.arr 9 1 1 (List.map AV.p (List.map PV.str (l6.take n2.toNat)))),(64,.arr 66 2 1 (List.map AV.p (List.map encRow s.1)))]⟩) (fun (o11:List Row)=>tE (cX Tryz.f88 X w D hT) (.exit 0) ⟨[(4,.loc 4 1 0 0),(5,.loc 5 1 0 0)],[(4,.arr 41 3 1 [.agg [.p (.str []),.nils,.nils]]),(5,.arr 41 3 1 [.agg [.p (.str [114]),.own 10 1 0 ((l6.take n2.toNat)).length,.own 64 1 0 o11.length]]),(10,.arr 9 1 1 (List.map AV.p (List.map PV.str (l6.take n2.toNat)))),(64,.arr 66 2 1 (List.map AV.p (List.map encRow o11)))]⟩) h10 ?_ ?_
 clear h h4 h5 h7n h8 h10
 intro s x h
 obtain ⟨t12,i13⟩:=s
 simp only [drossref03_Wide_l4] at h
 dsimp only
 refine zs (zs (zr ?_))
 refine zU (zl (zn ?_))
 rcases zI h with ⟨h14,h⟩ | ⟨h14,h⟩
 refine zi (zk (zn (zs (zb (zs (zr ?_))))))
 refine zU (zl (zn (zs (zs (zr ?_)))))
 refine zU (zl (zn (zb ?_)))
 obtain ⟨r15,h16,h⟩:=zB h
 refine zO (fun (s:List Value×Int)=>⟨[(1,.p (.int .i64 n2)),(2,.loc 2 1 0 0),(4,.loc 4 1 0 0),(5,.loc 5 1 0 0),(6,.p (.int .i64 i13)),(7,.loc 7 1 0 0),(8,.p (.int .i64 s.2))],[(2,.arr 33 3 1 [.p (encDrossref03_Recipe x1)]),(4,.arr 41 3 1 [.agg [.p (.str []),.nils,.nils]]),(5,.arr 41 3 1 [.agg [.p (.str [114]),.own 10 1 0 ((l6.take n2.toNat)).length,.own 64 1 0 t12.length]]),(7,.arr 66 2 1 [.agg [.p (.int .i64 (IntKind.i64.wrap (1+(IntKind.i64.wrap (i13 * (IntKind.i64.wrap (1+(IntKind.i64.wrap (Int.tmod x1.Gap 3))))))))),.own 58 1 0 s.1.length]]),(10,.arr 9 1 1 (List.map AV.p (List.map PV.str (l6.take n2.toNat)))),(58,.arr 142 3 1 (List.map AV.p (List.map encValue s.1))),(64,.arr 66 2 1 (List.map AV.p (List.map encRow t12)))]⟩) (fun (o17:List Value)=>tE (cX Tryz.f88 X w D hT) (.exit 2) ⟨[(1,.p (.int .i64 n2)),(2,.loc 2 1 0 0),(4,.loc 4 1 0 0),(5,.loc 5 1 0 0),(6,.p (.int .i64 i13)),(7,.loc 7 1 0 0)],[(2,.arr 33 3 1 [.p (encDrossref03_Recipe x1)]),(4,.arr 41 3 1 [.agg [.p (.str []),.nils,.nils]]),(5,.arr 41 3 1 [.agg [.p (.str [114]),.own 10 1 0 ((l6.take n2.toNat)).length,.own 64 1 0 t12.length]]),(7,.arr 66 2 1 [.agg [.p (.int .i64 (IntKind.i64.wrap (1+(IntKind.i64.wrap (i13 * (IntKind.i64.wrap (1+(IntKind.i64.wrap (Int.tmod x1.Gap 3))))))))),.own 58 1 0 o17.length]]),(10,.arr 9 1 1 (List.map AV.p (List.map PV.str (l6.take n2.toNat)))),(58,.arr 142 3 1 (List.map AV.p (List.map encValue o17))),(64,.arr 66 2 1 (List.map AV.p (List.map encRow t12)))]⟩) h16 ?_ ?_
 clear h h14 h16
 intro s x h
 obtain ⟨r18,k19⟩:=s
 simp only [drossref03_Wide_l3] at h
 dsimp only
 refine zs (zs (zr ?_))
 refine zU (zl (zn ?_))
 rcases zI h with ⟨h20,h⟩ | ⟨h20,h⟩
 refine zi (zk (zn (zs (zb (zs (zr ?_))))))
 refine zU (zl (zn (zs (zs (zr ?_)))))
 obtain ⟨x21,h22,h22a,h22b,h⟩:=zX h
 refine zU (zl (zn ?_))
 rcases zI h with ⟨h23,h⟩ | ⟨h23,h⟩
 refine zi (zr ?_)
 obtain ⟨x24,h25,h25a,h25b,h⟩:=zX h
 refine zU (zl (zn (zd ?_)))
 refine yU ?_
 obtain ⟨r26,h27,h⟩:=zB h
 refine yc (drossref01_Of_con x24 _ h27) ?_
 obtain ⟨h28,h⟩:=ite_some h
 refine yU ?_
 refine yd (yn (zn (zr ?_)))
 refine zU (zl ?_)
 cases h
 exact ⟨rfl,zE⟩
 refine zj (zk (zn (zd ?_)))
 refine yU ?_
 obtain ⟨r29,h30,h⟩:=zB h
 refine yc (drossref01_Of_con 0 _ h30) ?_
 obtain ⟨h31,h⟩:=ite_some h
 refine yU ?_
 refine yd (yn (zn (zr ?_)))
 refine zU (zl ?_)
 cases h
 exact ⟨rfl,zE⟩
 refine zj (zx (ze ?_))
 cases h
 exact ⟨rfl,zE⟩
 try simp only at h
 refine zA (yh (zn (zr ?_)))
 refine zW 4 ?_
 refine zM ⟨[(1,.p (.int .i64 n2)),(2,.loc 2 1 0 0),(4,.loc 4 1 0 0),(5,.loc 5 1 0 0),(6,.p (.int .i64 i13)),(61,.own 64 1 0 t12.length),(63,.own 63 1 0 1)],[(2,.arr 33 3 1 [.p (encDrossref03_Recipe x1)]),(4,.arr 41 3 1 [.agg [.p (.str []),.nils,.nils]]),(5,.arr 41 3 1 [.agg [.p (.str [114]),.own 10 1 0 ((l6.take n2.toNat)).length,.own 64 1 0 t12.length]]),(10,.arr 9 1 1 (List.map AV.p (List.map PV.str (l6.take n2.toNat)))),(63,.arr 66 2 1 [.p (.agg [.int .i64 (IntKind.i64.wrap (1+(IntKind.i64.wrap (i13 * (IntKind.i64.wrap (1+(IntKind.i64.wrap (Int.tmod x1.Gap 3)))))))),.slc (List.map encValue r15)])]),(64,.arr 66 2 1 (List.map AV.p (List.map encRow t12)))]⟩ ?_
 obtain ⟨h32,h⟩:=ite_some h
 refine zU (zl (yn (zn (zr ?_))))
 refine zU (zl ?_)
 cases h
 exact ⟨rfl,zE⟩
 refine zj (zx (ze ?_))
 cases h
 exact ⟨rfl,zE⟩
 try simp only at h
 refine zA (yh (zn (zs (zr ?_))))
 refine zU (zl (zn (zq ?_)))
 cases h
 exact zT Tryz.results88
set_option maxHeartbeats 4000000 in
theorem drossref03_Table_con {D:Prop} (x1:Drossref03_Recipe) (m2:Int) (r3:Table×Bool) (h:drossref03_Table x1 m2=some r3):Con D Tryz.prog 50 [(encDrossref03_Recipe x1),(.int .i64 m2)] (.tup [(encTable r3.1),(.bool r3.2)]):=by
 refine zP Tryz.call50 Tryz.func50 rfl Tryz.ntmps50 fun X w hT=>?_
 simp only [drossref03_Table] at h
 refine zs (zr ?_)
 refine zU (zl (zn (zs (zs (zr ?_)))))
 refine zU (zl (zn ?_))
 rcases zI h with ⟨h4,h⟩ | ⟨h4,h⟩
 refine zi (zs (zr ?_))
 refine zU (zl (zn (zq (zt ?_))))
 cases h
 exact zT Tryz.results50
 refine zj (zk (zn (zs (zr ?_))))
 refine zU ?_
 obtain ⟨r5,h6,h⟩:=zB h
 refine zc (drossref03_Wide_con x1 (IntKind.i64.wrap (Int.tmod x1.Attrs 6)) _ h6) ?_
 refine zU (zl (zn (zq ?_)))
 cases h
 exact zT Tryz.results50
set_option maxHeartbeats 4000000 in
theorem drosslaw56_of_con {D:Prop} (x1:Drossref03_Recipe) (d2:Drossref56_Draft) (r3:Table×Linkage×Bool) (h:drosslaw56_of x1 d2=some r3):Con D Tryz.prog 16 [(encDrossref03_Recipe x1),(encDrossref56_Draft d2)] (.tup [(encTable r3.1),(encLinkage r3.2.1),(.bool r3.2.2)]):=by
 refine zP Tryz.call16 Tryz.func16 rfl Tryz.ntmps16 fun X w hT=>?_
 simp only [drosslaw56_of] at h
 refine zs (zr ?_)
 refine zU (zl (zn (zs (zr ?_))))
 refine zU ?_
 obtain ⟨r4,h5,h⟩:=zB h
 refine zc (drossref03_Table_con x1 6 _ h5) ?_
 refine zU (zl (zn (zs ?_)))
 obtain ⟨t6,h7,h⟩:=zB h
 refine zJ (fun (o8:Bool)=>tE (cX Tryz.f16 X w D hT) .normal ⟨[(3,.loc 3 1 0 0),(4,.loc 4 1 0 0),(5,.loc 5 1 0 0),(7,.loc 7 1 0 0),(22,.p (.bool o8))],[(3,.arr 37 3 1 [.p (encDrossref56_Draft d2)]),(4,.arr 41 3 1 [.agg [.p (.str []),.nils,.nils]]),(5,.arr 25 3 1 [.agg [.nils,.nils,.nils]]),(7,.arr 41 3 1 [.p (encTable r4.1)])]⟩) t6 ?_ ?_
 replace h:=h7
 clear h7
 refine zr ?_
 refine zU ?_
 rcases zI h with ⟨h9,h⟩ | ⟨h9,h⟩
 replace h:=h.symm
 refine zw 17 false ?_
 refine zg ?_
 refine zg ?_
 refine zg ?_
 refine zg ?_
 refine zU (zl ?_)
 cases h
 exact ⟨rfl,zE⟩
 refine zw 17 true ?_
 refine zh ?_
 refine zU (zl ?_)
 cases h
 exact ⟨rfl,zE⟩
 try simp only at h
 refine zA (zn ?_)
 rcases zI h with ⟨h10,h⟩ | ⟨h10,h⟩
 refine zi (zs (zr ?_))
 refine zU (zl (zn (zq (zt ?_))))
 cases h
 exact zT Tryz.results16
 refine zj (zk (zn (zs (zr ?_))))
 refine zU ?_
 obtain ⟨r11,h12,h⟩:=zB h
 refine zc (drossref56_Of_con (r4.1.Attrs.length:Int) d2 _ h12) ?_
 refine zU (zl (zn (zs (zd ?_))))
 refine yU ?_
 refine yd (zn (zq ?_))
 cases h
 exact zT Tryz.results16
theorem lbind_ret {α:Type} (m:L α):m.bind L.ret=m:=by
  induction m with
  | ret a=>rfl
  | look l k ih=>show L.look l (fun o=>(k o).bind L.ret)=L.look l k;congr 1;funext o;exact ih o
  | fail=>rfl
theorem lbind_assoc {α β γ:Type} (m:L α) (f:α→L β) (g:β→L γ):(m.bind f).bind g=m.bind fun x=>(f x).bind g:=by
  induction m with
  | ret a=>rfl
  | look l k ih=>show L.look l (fun o=>((k o).bind f).bind g)=L.look l (fun o=>(k o).bind fun x=>(f x).bind g);congr 1;funext o;exact ih o
  | fail=>rfl
theorem viewAll_mpa (D:Nat→Bool) (n:Nat) (l:List PV) (r:List AV):viewAll (view D (n+1)) (List.map AV.p l++r)=(viewAll (view D (n+1)) r).bind fun xs=>.ret (l++xs):=by
  induction l with
  | nil=>exact (lbind_ret _).symm
  | cons x l ih =>
    show (L.ret x).bind (fun y=>(viewAll (view D (n+1)) (List.map AV.p l++r)).bind fun xs=>.ret (y :: xs))=_
    rw [ih]
    show ((viewAll (view D (n+1)) r).bind _).bind _=_
    rw [lbind_assoc];rfl
theorem viewAll7_mpa (D:Nat→Bool) (l:List PV) (r:List AV):viewAll (view D 7) (List.map AV.p l++r)=(viewAll (view D 7) r).bind fun xs=>.ret (l++xs):=viewAll_mpa D 6 l r
attribute [go_sem] viewAll7_mpa
set_option maxRecDepth 20000 in
set_option maxHeartbeats 4000000 in
theorem drosslaw56_LinkageMore_con (x1:Drossref03_Recipe) (d2:Drossref56_Draft) (m3:Drossref56_Test) (r4:Bool) (h:drosslaw56_LinkageMore x1 d2 m3=some r4):Con False Tryz.prog 5 [(encDrossref03_Recipe x1),(encDrossref56_Draft d2),(encDrossref56_Test m3)] (.bool r4):=by
 refine zP Tryz.call5 Tryz.func5 rfl Tryz.ntmps5 fun X w hT=>?_
 simp only [drosslaw56_LinkageMore] at h
 refine zs (zr ?_)
 refine zU (zl (zn (zs (zr ?_))))
 refine zU ?_
 obtain ⟨r5,h6,h⟩:=zB h
 refine zc (drosslaw56_of_con x1 d2 _ h6) ?_
 refine zU (zl (zn (zs ?_)))
 obtain ⟨t7,h8,h⟩:=zB h
 refine zJ (fun (o9:Bool)=>tE (cX Tryz.f5 X w False hT) .normal ⟨[(4,.loc 4 1 0 0),(5,.loc 5 1 0 0),(7,.loc 7 1 0 0),(8,.loc 8 1 0 0),(34,.p (.bool o9))],[(4,.arr 37 3 1 [.p (encDrossref56_Draft d2)]),(5,.arr 51 3 1 [.p (encDrossref56_Test m3)]),(7,.arr 41 3 1 [.p (encTable r5.1)]),(8,.arr 25 3 1 [.p (encLinkage r5.2.1)])]⟩) t7 ?_ ?_
 replace h:=h8
 clear h8
 refine zr ?_
 obtain ⟨r10,h11,h⟩:=zB h
 refine zc (drosslaw56_awake_con  _ h11) ?_
 refine zU ?_
 rcases zI h with ⟨h12,h⟩ | ⟨h12,h⟩
 replace h:=h.symm
 refine zw 31 false ?_
 refine zg ?_
 refine zg ?_
 refine zU (zl ?_)
 cases h
 exact ⟨rfl,zE⟩
 refine zw 31 true ?_
 refine zh ?_
 refine zU (zl ?_)
 cases h
 exact ⟨rfl,zE⟩
 try simp only at h
 refine zA (zn ?_)
 rcases zI h with ⟨h13,h⟩ | ⟨h13,h⟩
 refine zi (zs (zr ?_))
 obtain ⟨r14,h15,h⟩:=zB h
 refine zc (drosslaw56_awake_con  _ h15) ?_
 refine zU (zl (zn (zq (zt ?_))))
 cases h
 exact zT Tryz.results5
 refine zj (zk (zn (zs (zs (zr ?_)))))
 refine zU (zl (zn ?_))
 rcases zI h with ⟨h16,h⟩ | ⟨h16,h⟩
 refine zi (zs (zr ?_))
 refine zU ?_
 obtain ⟨r17,h18,h⟩:=zB h
 refine zc (linkage_Clusters_con r5.1 r5.2.1 _ h18) ?_
 refine zU (zl (zn (zs (zr ?_))))
 refine zU ?_
 rcases zI h with ⟨h19,h⟩ | ⟨h19,h⟩
 replace h:=h.symm
 refine zw 48 true ?_
 refine zg ?_
 refine zg ?_
 refine zg ?_
 refine zg ?_
 refine zg ?_
 refine zg ?_
 refine zU (zl (zn (zq (zt ?_))))
 cases h
 exact zT Tryz.results5
 refine zw 48 false ?_
 refine zh ?_
 refine zU (zl (zn (zq (zt ?_))))
 cases h
 exact zT Tryz.results5
 refine zj (zk (zn (zs (zd ?_))))
 obtain ⟨h20,h⟩:=ite_some h
 obtain ⟨h21,h⟩:=ite_some h
 refine yU ?_
 refine yd (zn (zs (zr ?_)))
 refine zU ?_
 refine zM ⟨[(7,.loc 7 1 0 0),(8,.loc 8 1 0 0),(68,.p (.int .i64 (r5.1.Attrs.length:Int))),(69,.p (.agg [.slc (List.map (encL encDrossref56_Test) (d2.Rules++[[m3]])),.int .u8 d2.Block,.slc (List.map (PV.int .u8) d2.Survive)]))],[(7,.arr 41 3 1 [.p (encTable r5.1)]),(8,.arr 25 3 1 [.p (encLinkage r5.2.1)])]⟩ ?_
 obtain ⟨r22,h23,h⟩:=zB h
 refine zc (drossref56_Of_con (r5.1.Attrs.length:Int) (Drossref56_Draft.mk (d2.Rules++[[m3]]) d2.Block d2.Survive) _ h23) ?_
 refine zU (zl (zn (zs (zr ?_))))
 refine zU ?_
 obtain ⟨r24,h25,h⟩:=zB h
 refine zc (linkage_Matches_con r5.1 r5.2.1 _ h25) ?_
 refine zU (zl (zn (zs (zr ?_))))
 refine zU ?_
 obtain ⟨r26,h27,h⟩:=zB h
 refine zc (linkage_Matches_con r5.1 r22.1 _ h27) ?_
 refine zU (zl (zn (zs (zs (zr ?_)))))
 refine zU (zl (zn ?_))
 rcases zI h with ⟨h28,h⟩ | ⟨h28,h⟩
 refine zj (zk (zn (zs (zs (zr ?_)))))
 refine zU (zl (zn (zb ?_)))
 obtain ⟨o29,h30,h⟩:=zB h
 refine zO (fun (s:Int)=>⟨[(14,.p (.int .i64 r24.2)),(15,.p (.slc (List.map encArr2_int64 r26.1))),(16,.p (.int .i64 r26.2)),(89,.p (.slc (List.map encArr2_int64 r24.1))),(90,.p (.int .i64 (r24.1.length:Int))),(91,.p (.int .i64 s))],[]⟩) (fun (o:(Unit) ⊕ (Bool))=>match o with | .inl o31=>tE (cX Tryz.f5 X w False hT) (.exit 0) ⟨[(14,.p (.int .i64 r24.2)),(16,.p (.int .i64 r26.2))],[]⟩ | .inr o32=>tR Tryz.prog Tryz.f5 (.bool o32)) h30 ?_ ?_
 clear h h6 h13 h16 h20 h21 h23 h25 h27 h28 h30
 intro t33 x h
 simp only [drosslaw56_LinkageMore_l4] at h
 refine zs (zr ?_)
 refine zU (zl (zn (zs ?_)))
 rcases zI h with ⟨h34,h⟩ | ⟨h34,h⟩
 refine zi (zk (zn (zs (zb (zs (zr ?_))))))
 obtain ⟨x35,h36,h36a,h36b,h⟩:=zX h
 refine zU (zl (zn (zs (zr ?_))))
 refine zU (zl (zn (zs (zs (zr ?_)))))
 refine zU (zl (zn (zb ?_)))
 obtain ⟨f37,h38,h⟩:=zB h
 refine zO (fun (s:Bool×Int)=>⟨[(14,.p (.int .i64 r24.2)),(15,.p (.slc (List.map encArr2_int64 r26.1))),(16,.p (.int .i64 r26.2)),(18,.loc 18 1 0 0),(19,.p (.bool s.1)),(89,.p (.slc (List.map encArr2_int64 r24.1))),(90,.p (.int .i64 (r24.1.length:Int))),(91,.p (.int .i64 t33)),(95,.p (.slc (List.map encArr2_int64 r26.1))),(96,.p (.int .i64 (r26.1.length:Int))),(97,.p (.int .i64 s.2))],[(18,.arr 58 2 1 [.p (encArr2_int64 x35)])]⟩) (fun (o39:Bool)=>tE (cX Tryz.f5 X w False hT) (.exit 2) ⟨[(14,.p (.int .i64 r24.2)),(15,.p (.slc (List.map encArr2_int64 r26.1))),(16,.p (.int .i64 r26.2)),(19,.p (.bool o39)),(89,.p (.slc (List.map encArr2_int64 r24.1))),(90,.p (.int .i64 (r24.1.length:Int))),(91,.p (.int .i64 t33))],[]⟩) h38 ?_ ?_
 clear h h34 h36 h36a h36b h38
 intro s x h
 obtain ⟨f40,t41⟩:=s
 simp only [drosslaw56_LinkageMore_l3] at h
 dsimp only
 refine zs (zr ?_)
 refine zU (zl (zn (zs ?_)))
 rcases zI h with ⟨h42,h⟩ | ⟨h42,h⟩
 refine zi (zk (zn (zs (zb (zs (zr ?_))))))
 obtain ⟨x43,h44,h44a,h44b,h⟩:=zX h
 refine zU (zl (zn (zr ?_)))
 refine zU ?_
 rcases zI h with ⟨h45,h⟩ | ⟨h45,h⟩
 refine zw 102 true ?_
 refine zh ?_
 refine zU (zl (yn (zn (zr ?_))))
 refine zU (zl ?_)
 cases h
 exact ⟨rfl,zE⟩
 replace h:=h.symm
 refine zw 102 false ?_
 refine zg ?_
 refine zg ?_
 refine zg ?_
 refine zU (zl (yn (zn (zr ?_))))
 refine zU (zl ?_)
 cases h
 exact ⟨rfl,zE⟩
 refine zj (zx (ze ?_))
 cases h
 exact ⟨rfl,zE⟩
 try simp only at h
 refine zA (yh (zn (zs (zr ?_))))
 refine zU (zl (zn ?_))
 rcases zI h with ⟨h46,h⟩ | ⟨h46,h⟩
 refine zj (zk (yn (zn (zr ?_))))
 refine zU (zl ?_)
 cases h
 exact ⟨rfl,zE⟩
 refine zi (zs (zr ?_))
 refine zU (zl (zn (zq (yr (zt ?_)))))
 cases h
 exact ⟨rfl,zT Tryz.results5⟩
 refine zj (zx (ze ?_))
 cases h
 exact ⟨rfl,zE⟩
 rcases o29 with ⟨⟩ | r47
 try simp only at h
 refine zA (yh (zn (zs (zr ?_))))
 refine zU ?_
 rcases zI h with ⟨h48,h⟩ | ⟨h48,h⟩
 replace h:=h.symm
 refine zw 113 true ?_
 refine zg ?_
 refine zg ?_
 refine zU (zl (zn (zq ?_)))
 cases h
 exact zT Tryz.results5
 refine zw 113 false ?_
 refine zh ?_
 refine zU (zl (zn (zq ?_)))
 cases h
 exact zT Tryz.results5
 try simp only at h
 refine zZ fun s hq=>?_
 refine yr (zt ?_)
 cases h
 exact hq
 refine zi (zs (zr ?_))
 refine zU (zl (zn (zq (zt ?_))))
 cases h
 exact zT Tryz.results5
end Go.Proofs.YtmlegeeinnkhkaaGreat
